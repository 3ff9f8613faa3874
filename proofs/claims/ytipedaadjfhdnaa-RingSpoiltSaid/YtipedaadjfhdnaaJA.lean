/- What the functions that RingSpoilt reaches answer, for every argument. No condition but those in each statement. -/
import Derived.Test.YtipedaadjfhdnaaIB
import Derived.Test.YtipedaadjfhdnaaGA
import Derived.Test.YtipedaadjfhdnaaRA
import Derived.Test.YtipedaadjfhdnaaE6
set_option linter.unusedSimpArgs false
set_option linter.unusedVariables false
set_option linter.unusedSectionVars false
set_option maxRecDepth 10000
section
namespace Go.Proofs.Ytipedaadjfhdnaa.G06
open Go Go.Proofs.Ytipedaadjfhdnaa.Eng
structure TS (H : AHeap) (v : AV) (L : List (List PrS)) : Prop where
 len : lenSl v = some (.int .i64 L.length)
 row : ∀ (i : Nat) (l : List PrS), L[i]? = some l → ∃ a b cs, idxAddrS 1 v (.int .i64 (i : Int)) = some (.ptr b i) ∧ cellsOf H b = some cs ∧ cs[i]? = some a ∧ i + 1 ≤ cs.length ∧ PS H a l ∧ l.length ≤ 9223372036854775807
 sz : L.length ≤ 9223372036854775807
theorem TS.adds {H H' : AHeap} {v : AV} {L : List (List PrS)} (t : TS H v L) (a : Adds H H') : TS H' v L :=
 ⟨t.len, fun i l hl => by obtain ⟨x, b, cs, h1, h2, h3, h4, h5, h6⟩ := t.row i l hl; exact ⟨x, b, cs, h1, a.cells h2, h3, h4, h5.adds a, h6⟩, t.sz⟩
theorem txns_of {h : AHeap} : ∀ {rows : List (List AV)}, (∀ r ∈ rows, DatR h [.sl [.int .i64, .int .i64]] r) → ∃ (L : List (List PrS)), L.length = rows.length ∧ ∀ (i : Nat) (l : List PrS), L[i]? = some l → ∃ a, rows[i]? = some [a] ∧ PS h a l ∧ l.length ≤ 9223372036854775807
 | [], _ => ⟨[], rfl, fun i l hl => by simp at hl⟩
 | r :: rows, hr => by
  obtain ⟨L, e, hL⟩ := txns_of (rows := rows) fun r hm => hr r (by simp [hm])
  have hd := hr r (by simp)
  cases hd with
  | cons d1 t => cases t with
   | nil =>
    obtain ⟨l, ps, hl, _⟩ := pairs_dat d1
    refine ⟨l :: L, by simp [e], fun i x hx => ?_⟩
    cases i with
    | zero =>
     have : l = x := by simpa using hx
     subst this
     exact ⟨_, rfl, ps, hl⟩
    | succ i => exact hL i x (by simpa using hx)
theorem txns_dat {h : AHeap} {v : AV} (d : DatC h (.sl [.sl [.int .i64, .int .i64]]) v) : ∃ L, TS h v L := by
 obtain ⟨rows, rs, rd, hn⟩ := d.rows
 have rs : RS 1 h v rows := rs
 obtain ⟨L, e, hL⟩ := txns_of rd
 refine ⟨L, by rw [e]; exact rs.len, fun i l hl => ?_, by omega⟩
 obtain ⟨a, ha, ps, hl2⟩ := hL i l hl
 obtain ⟨b, cs, ix, hc, hg, _, hle, _⟩ := RS.idx (by omega) rs ha .i64
 rw [Nat.mul_one] at ix hg hle
 exact ⟨a, b, cs, ix, hc, by have := hg 0 (by omega); simpa using this, hle, ps, hl2⟩
def txI (L : List (List PrS)) : List (List ImS) := L.map fun l => l.map prI
theorem txI_len (L : List (List PrS)) : (txI L).length = L.length := by simp [txI]
theorem right_good {l : List PrS} {c : Nat} (h : rightS l 5 = true) (hc : 6 ≤ c) : GoodT c (l.map prI) ∧ l.length ≤ 5 := by
 unfold rightS at h
 simp only [Bool.and_eq_true, decide_eq_true_eq] at h
 obtain ⟨h1, h2, h3⟩ := h
 have h3 : l.length ≤ 5 := by omega
 refine ⟨⟨by rw [List.length_map]; exact h2, ?_, prI_b48 l, by rw [List.length_map]; omega⟩, h3⟩
 rw [List.all_map]; exact h1
theorem tot_le : ∀ (T : List (List ImS)), (∀ t ∈ T, t.length ≤ 5) → tot T ≤ 6 * T.length
 | [], _ => Nat.le_refl _
 | t :: T, h => by
  have := h t (by simp)
  have := tot_le T fun x hx => h x (by simp [hx])
  rw [tot_cons, List.length_cons]; omega
section
variable {h0 H : AHeap} {p c : Nat} {r : RgS} {F : Nat → Prop} (li : LI h0 H p c r F)
include li
theorem LI.add {K : AHeap} (a : Adds H K) : LI h0 K p c r F := by obtain ⟨X, rfl⟩ := a; exact li.adds X
theorem LI.up {c' : Nat} (h : c ≤ c') (hb : c' ≤ 1000000000) : LI h0 H p c' r F := ⟨RigIn.up li.m h hb, li.old, li.out⟩
theorem LI.fr {H' : AHeap} {P : Nat → Prop} (a : Fr H H' P) (n : ∀ x, P x → h0.length ≤ x ∧ ¬ F x) : LI h0 H' p c r F :=
 ⟨li.m.fr a fun x hx hp => (n x hp).2 hx, a.old li.old fun x hx hp => (by have := (n x hp).1; omega), li.out⟩
theorem oneRepl (f cc a s : Int) : ∃ v vs K, Adds H K ∧ LI h0 K p c r F ∧ LogH K H.length v (replayS r f cc a s).1.t vs ∧
  (envL prog).call 8 [.ptr p 0, .int .i64 f, .int .i64 cc, .int .i64 a, .int .u32 s] H = some (.tup [.agg [v, .int .i64 (replayS r f cc a s).1.at_, .int .u32 (replayS r f cc a s).1.seq], .int .i64 (replayS r f cc a s).2], K) := by
 obtain ⟨x, rfl, m⟩ := li.m.at
 obtain ⟨v, vs, K1, a1, l1, e1⟩ := replayC m f cc a s
 exact ⟨v, vs, _, a1, li.add a1, l1, e1⟩
theorem oneAppd {f cc a s : Int} (hs : 0 ≤ s ∧ s < 4294967296) {v w : AV} {l : List ImS} {H1 : AHeap} (tw : Two H H1 v w l) (h48 : ∀ x ∈ l, B48 x.b) (hl : l.length ≤ 300) (hn : c + 400 ≤ 1000000000) :
  ∃ H2 F', LI h0 H2 p (c + 400) (appdS r f cc a s l).1 F' ∧ (∀ b, b < H1.length → ¬ F b → H2[b]? = H1[b]?) ∧ H1.length ≤ H2.length ∧ (∀ b, F' b → F b ∨ H1.length ≤ b) ∧
  (envL prog).call 9 [.ptr p 0, .int .i64 f, .int .i64 cc, .int .i64 a, .int .u32 s, v] H1 = some (.tup [.int .i64 (appdS r f cc a s l).2.1, .int .i64 (appdS r f cc a s l).2.2], H2) := by
 have lF := li.m.lt
 have l1 := li.add tw.old
 obtain ⟨x, rfl, m⟩ := l1.m.at
 obtain ⟨n2, H2, F2, hn2, m2, st2, e2⟩ := appdC m (f := f) (c := cc) (a := a) hs tw.ga (fun b hb hf => by have := (tw.ga.out b hb).1; have := lF b hf; omega) h48 (by omega) (by omega)
 have l2 := l1.step m2.rin st2
 exact ⟨H2, F2, LI.up l2 (by omega) hn, fun b hb hf => st2.1.2 b hb hf, st2.1.1, st2.2, e2⟩
end
end Go.Proofs.Ytipedaadjfhdnaa.G06
end
section
namespace Go.Proofs.Ytipedaadjfhdnaa.G06
open Go Go.Proofs.Ytipedaadjfhdnaa.Eng
def secP (p0 : Nat) (L : List (List PrS)) : Nat → Int
 | 0 => (p0 : Int)
 | _ + 1 => (((p0 + tot (txI (L.take 1))) % 50 : Nat) : Int)
theorem take_more {L : List (List PrS)} {i : Nat} {l : List PrS} (h : L[i]? = some l) : txI (L.take (i + 1)) = txI (L.take i) ++ [l.map prI] := by
 unfold txI; rw [List.take_add_one, h, List.map_append]; rfl
theorem take_len (L : List (List PrS)) {i : Nat} (h : i ≤ L.length) : (txI (L.take i)).length = i := by rw [txI_len, List.length_take]; omega
theorem five {L : List (List PrS)} {i : Nat} (h : ∀ l ∈ L.take i, l.length ≤ 5) : ∀ t ∈ txI (L.take i), t.length ≤ 5 := fun t ht => by
 obtain ⟨l, hl, rfl⟩ := List.mem_map.1 ht
 rw [List.length_map]; exact h l hl
end Go.Proofs.Ytipedaadjfhdnaa.G06
end
section
namespace Go.Proofs.Ytipedaadjfhdnaa.G06
open Go Go.Proofs.Ytipedaadjfhdnaa.Eng
def xor8 (x y : Int) : Int := IntKind.u8.wrap ((BitVec.ofInt 8 x ^^^ BitVec.ofInt 8 y).toNat : Int)
theorem xorC (x y : Int) : binV .xor .none (.int .u8 x) (.int .u8 y) = some (.int .u8 (xor8 x y)) := rfl
theorem nat8 {x : Int} (h : 0 ≤ x ∧ x ≤ 255) : ((BitVec.ofInt 8 x).toNat : Int) = x := by
 rw [BitVec.toNat_ofInt]
 show (((x % (256 : Int)).toNat : Nat) : Int) = x
 omega
theorem xor8_ne {x y : Int} (hx : 0 ≤ x ∧ x ≤ 255) (hy : 0 ≤ y ∧ y ≤ 255) (h0 : y ≠ 0) : xor8 x y ≠ x := by
 intro e
 have lt := (BitVec.ofInt 8 x ^^^ BitVec.ofInt 8 y).isLt
 unfold xor8 at e
 have e2 : ((BitVec.ofInt 8 x ^^^ BitVec.ofInt 8 y).toNat : Int) = ((BitVec.ofInt 8 x).toNat : Int) := by
  rw [nat8 hx]
  have : IntKind.u8.wrap ((BitVec.ofInt 8 x ^^^ BitVec.ofInt 8 y).toNat : Int) = ((BitVec.ofInt 8 x ^^^ BitVec.ofInt 8 y).toNat : Int) % 256 := rfl
  rw [this] at e
  generalize (BitVec.ofInt 8 x ^^^ BitVec.ofInt 8 y).toNat = n at *
  have : (2 : Nat) ^ 8 = 256 := rfl
  omega
 have e3 := BitVec.eq_of_toNat_eq (Int.ofNat_inj.1 e2)
 have e4 : BitVec.ofInt 8 y = 0#8 := by
  have q := congrArg (fun z => BitVec.ofInt 8 x ^^^ z) e3
  simpa [← BitVec.xor_assoc] using q
 have := nat8 hy
 rw [e4] at this
 exact h0 this.symm
theorem xor8_rng (x y : Int) : 0 ≤ xor8 x y ∧ xor8 x y ≤ 255 := u8_rng _
set_option maxHeartbeats 16000000 in
theorem spoiltL {h0 : AHeap} {v : AV} {L : List (List PrS)} (ts : TS h0 v L) (hL : L.length ≤ 7) {rp : Nat} (x1 x2 x3 x4 x5 x8 x17 x18 x19 x20 x21 x22 x23 x24 x25 x26 x27 x28 x29 x30 x31 x32 x33 x34 x35 x36 x37 x38 x39 x40 x41 x42 x43 x44 x45 x46 x47 x90 x91 x92 x93 x94 x95 x96 x97 x98 x99 x100 x101 x102 x103 x104 x105 x106 x107 x108 x109 x110 x111 x112 x113 x114 x115 x116 x117 x118 x119 x120 x121 x122 x123 x124 x125 x126 x127 x128 x129 x130 x131 x132 x133 x134 x135 x136 x137 x138 x139 x140 x141 x142 x143 x144 x145 x146 x147 x148 x149 x150 x151 x152 x153 x154 x155 x156 x157 x158 x159 x160 x161 x162 : AV) : ∀ (k i : Nat) (H : AHeap) (r : RgS) (F : Nat → Prop) (j13 j14 j15 j16 j48 j49 j50 j51 j52 j53 j54 j55 j56 j57 j58 j59 j60 j61 j62 j63 j64 j65 j66 j67 j68 j69 j70 j71 j72 j73 j74 j75 j76 j77 j78 j79 j80 j81 j82 j83 j84 j85 j86 j87 j88 j89 : AV), LI h0 H rp (i * 400) r F → Frs r 3 50 0 7 (txI (L.take i)) → (∀ l ∈ L.take i, l.length ≤ 5) → i + k = L.length →
  Outs (LP l5x0 [v, x1, x2, x3, x4, x5, .bool false, .ptr rp 0, x8, .int .i64 (((0 + tot (txI (L.take i))) % 50 : Nat) : Int), .int .u32 (7 + (i : Int)), .int .i64 (tot (txI (L.take i)) : Int), .int .i64 (i : Int), j13, j14, j15, j16, x17, x18, x19, x20, x21, x22, x23, x24, x25, x26, x27, x28, x29, x30, x31, x32, x33, x34, x35, x36, x37, x38, x39, x40, x41, x42, x43, x44, x45, x46, x47, j48, j49, j50, j51, j52, j53, j54, j55, j56, j57, j58, j59, j60, j61, j62, j63, j64, j65, j66, j67, j68, j69, j70, j71, j72, j73, j74, j75, j76, j77, j78, j79, j80, j81, j82, j83, j84, j85, j86, j87, j88, j89, x90, x91, x92, x93, x94, x95, x96, x97, x98, x99, x100, x101, x102, x103, x104, x105, x106, x107, x108, x109, x110, x111, x112, x113, x114, x115, x116, x117, x118, x119, x120, x121, x122, x123, x124, x125, x126, x127, x128, x129, x130, x131, x132, x133, x134, x135, x136, x137, x138, x139, x140, x141, x142, x143, x144, x145, x146, x147, x148, x149, x150, x151, x152, x153, x154, x155, x156, x157, x158, x159, x160, x161, x162] H) fun e t H' => (e = .exit 0 ∧ ∃ r' F', LI h0 H' rp (L.length * 400) r' F' ∧ Frs r' 3 50 0 7 (txI L) ∧ (∀ l ∈ L, l.length ≤ 5) ∧ ∃ fv : Nat → AV, t = [v, x1, x2, x3, x4, x5, (fv 6), .ptr rp 0, x8, (fv 9), (fv 10), .int .i64 (tot (txI L) : Int), (fv 12), (fv 13), (fv 14), (fv 15), (fv 16), x17, x18, x19, x20, x21, x22, x23, x24, x25, x26, x27, x28, x29, x30, x31, x32, x33, x34, x35, x36, x37, x38, x39, x40, x41, x42, x43, x44, x45, x46, x47, (fv 48), (fv 49), (fv 50), (fv 51), (fv 52), (fv 53), (fv 54), (fv 55), (fv 56), (fv 57), (fv 58), (fv 59), (fv 60), (fv 61), (fv 62), (fv 63), (fv 64), (fv 65), (fv 66), (fv 67), (fv 68), (fv 69), (fv 70), (fv 71), (fv 72), (fv 73), (fv 74), (fv 75), (fv 76), (fv 77), (fv 78), (fv 79), (fv 80), (fv 81), (fv 82), (fv 83), (fv 84), (fv 85), (fv 86), (fv 87), (fv 88), (fv 89), x90, x91, x92, x93, x94, x95, x96, x97, x98, x99, x100, x101, x102, x103, x104, x105, x106, x107, x108, x109, x110, x111, x112, x113, x114, x115, x116, x117, x118, x119, x120, x121, x122, x123, x124, x125, x126, x127, x128, x129, x130, x131, x132, x133, x134, x135, x136, x137, x138, x139, x140, x141, x142, x143, x144, x145, x146, x147, x148, x149, x150, x151, x152, x153, x154, x155, x156, x157, x158, x159, x160, x161, x162]) ∨ (e = .ret ∧ ∃ fv : Nat → AV, t = [v, x1, x2, x3, x4, x5, (fv 6), .ptr rp 0, x8, (fv 9), (fv 10), (fv 11), (fv 12), (fv 13), (fv 14), (fv 15), (fv 16), x17, x18, x19, x20, x21, x22, x23, x24, x25, x26, x27, x28, x29, x30, x31, x32, x33, x34, x35, x36, x37, x38, x39, x40, x41, x42, x43, x44, x45, x46, x47, (fv 48), (fv 49), (fv 50), (fv 51), (fv 52), (fv 53), (fv 54), (fv 55), (fv 56), (fv 57), (fv 58), (fv 59), (fv 60), (fv 61), (fv 62), (fv 63), (fv 64), (fv 65), (fv 66), (fv 67), (fv 68), (fv 69), (fv 70), (fv 71), (fv 72), (fv 73), (fv 74), (fv 75), (fv 76), (fv 77), (fv 78), (fv 79), (fv 80), (fv 81), (fv 82), (fv 83), (fv 84), (fv 85), (fv 86), (fv 87), (fv 88), (fv 89), x90, x91, x92, x93, x94, x95, x96, x97, x98, x99, x100, x101, x102, x103, x104, x105, x106, x107, x108, x109, x110, x111, x112, x113, x114, x115, x116, x117, x118, x119, x120, x121, x122, x123, x124, x125, x126, x127, x128, x129, x130, x131, x132, x133, x134, x135, x136, x137, x138, x139, x140, x141, x142, x143, x144, x145, x146, x147, x148, x149, x150, x151, x152, x153, x154, x155, x156, x157, x158, x159, x160, x161, x162] ∧ fv 6 = .bool true) := by
 intro k
 obtain ⟨L0, hL0⟩ : ∃ L, L = LP l5x0 := ⟨_, rfl⟩
 have lo := loop_open hL0
 have wl := ts.len
 rw [← hL0]
 induction k with
 | zero =>
  intro i H r F j13 j14 j15 j16 j48 j49 j50 j51 j52 j53 j54 j55 j56 j57 j58 j59 j60 j61 j62 j63 j64 j65 j66 j67 j68 j69 j70 j71 j72 j73 j74 j75 j76 j77 j78 j79 j80 j81 j82 j83 j84 j85 j86 j87 j88 j89 li fr h5 hi
  obtain rfl : i = L.length := by omega
  have hd : decide ((L.length : Int) < (L.length : Int)) = false := by simp
  rw [List.take_length] at fr h5
  rw [List.take_length, lo]
  unfold l5x0
  simp -implicitDefEqProofs (maxSteps := 5000000) only [go_sem, Nat.reduceShiftRight, Nat.reduceAnd, Nat.reduceBNe, Int.reduceEq, Nat.reduceAdd, Nat.reduceSub, Nat.reduceMul, Nat.reduceLeDiff, reduceIte, reduceCtorEq, Nat.reduceBEq, Nat.reduceEqDiff, wl, hd, seqR_exit', outs_normal]
  exact .inl ⟨r, F, li, fr, h5, exF rfl⟩
 | succ k ih =>
  intro i H r F j13 j14 j15 j16 j48 j49 j50 j51 j52 j53 j54 j55 j56 j57 j58 j59 j60 j61 j62 j63 j64 j65 j66 j67 j68 j69 j70 j71 j72 j73 j74 j75 j76 j77 j78 j79 j80 j81 j82 j83 j84 j85 j86 j87 j88 j89 li fr h5 hi
  have hlt : i < L.length := by omega
  have hd : decide ((i : Int) < (L.length : Int)) = true := decide_eq_true (by omega)
  have e2 : IntKind.i64.wrap ((i : Int) + 1) = ((i + 1 : Nat) : Int) := by rw [wrap64 (by omega) (by omega)]; omega
  have hx := List.getElem?_eq_getElem hlt
  generalize L[i] = l at hx
  obtain ⟨a, b, cs, ix, hc0, ha, hle, ps, pn⟩ := ts.row i l hx
  have hc := li.old.cells hc0
  have psH := ps.adds li.old
  have er := rightC psH pn 5
  have wl2 := psH.len
  by_cases hr : rightS l 5 = true
  ·rw [hr] at er
   obtain ⟨g, l5⟩ := right_good (c := 50) hr (by omega)
   obtain ⟨u, u', K, tw, ei⟩ := imagesC psH (by omega)
   have tl := tot_le _ (five h5)
   rw [take_len L (by omega)] at tl
   obtain ⟨H2, F2, l2, keep, len2, new2, ea⟩ := oneAppd li (f := ((3 : Nat) : Int)) (cc := ((50 : Nat) : Int)) (a := (((0 + tot (txI (L.take i))) % 50 : Nat) : Int)) (s := 7 + (i : Int)) (by omega) tw (prI_b48 l) (by rw [List.length_map]; omega) (by omega)
   have ap := append_frs fr g (by rw [List.length_map]; omega)
   rw [take_len L (by omega)] at ap
   obtain ⟨ap1, ap2⟩ := ap
   rw [← take_more hx] at ap1 ap2
   generalize appdS r ((3 : Nat) : Int) ((50 : Nat) : Int) (((0 + tot (txI (L.take i))) % 50 : Nat) : Int) (7 + (i : Int)) (l.map prI) = A at *
   obtain ⟨A1, A2, A3⟩ := A
   simp only [Prod.mk.injEq] at ap1 ap2 ea l2
   obtain ⟨rfl, rfl⟩ := ap1
   rw [show ((3 : Nat) : Int) = 3 from rfl, show ((50 : Nat) : Int) = 50 from rfl] at ea
   have hc2 := l2.old.cells hc0
   have hck := (tw.old.cells hc)
   have tm : tot (txI (L.take (i + 1))) = tot (txI (L.take i)) + (l.length + 1) := by rw [take_more hx, tot_snoc, List.length_map]
   have w1 : IntKind.i64.wrap ((tot (txI (L.take i)) : Int) + (l.length : Int)) = (tot (txI (L.take i)) : Int) + (l.length : Int) := wrap64 (by omega) (by omega)
   have w2 : IntKind.i64.wrap ((tot (txI (L.take i)) : Int) + (l.length : Int) + 1) = (tot (txI (L.take (i + 1))) : Int) := by rw [wrap64 (by omega) (by omega)]; omega
   have n00 : ((0 : Int) != 0) = false := rfl
   have w3 : IntKind.u32.wrap (7 + (i : Int) + 1) = 7 + ((i + 1 : Nat) : Int) := by show (7 + (i : Int) + 1) % 4294967296 = _; omega
   have h5' : ∀ x ∈ L.take (i + 1), x.length ≤ 5 := fun x hx2 => by
    rw [List.take_add_one, hx] at hx2
    rcases List.mem_append.1 hx2 with q | q
    ·exact h5 x q
    ·rw [show x = l by simpa using q]; exact l5
   have l2' : LI h0 H2 rp ((i + 1) * 400) A1 F2 := l2.up (by omega) (by omega)
   have key := fun j13 j14 j15 j16 j48 j49 j50 j51 j52 j53 j54 j55 j56 j57 j58 j59 j60 j61 j62 j63 j64 j65 j66 j67 j68 j69 j70 j71 j72 j73 j74 j75 j76 j77 j78 j79 j80 j81 j82 j83 j84 j85 j86 j87 j88 j89 => ih (i + 1) H2 A1 F2 j13 j14 j15 j16 j48 j49 j50 j51 j52 j53 j54 j55 j56 j57 j58 j59 j60 j61 j62 j63 j64 j65 j66 j67 j68 j69 j70 j71 j72 j73 j74 j75 j76 j77 j78 j79 j80 j81 j82 j83 j84 j85 j86 j87 j88 j89 l2' ap2 h5' (by omega)
   generalize (((0 + tot (txI (L.take (i + 1)))) % 50 : Nat) : Int) = pe at *
   generalize (((0 + tot (txI (L.take i))) % 50 : Nat) : Int) = pb at *
   rw [lo]
   unfold l5x0
   simp -implicitDefEqProofs (maxSteps := 5000000) only [go_sem, Nat.reduceShiftRight, Nat.reduceAnd, Nat.reduceBNe, Int.reduceEq, Nat.reduceAdd, Nat.reduceSub, Nat.reduceMul, Nat.reduceLeDiff, reduceIte, reduceCtorEq, Nat.reduceBEq, Nat.reduceEqDiff, wrap64, runC_loop, runC_range, callF_fn, callV_fn, callV_yld, yield_eq, yieldBody, yieldRaw, roundMid, roundEnd, rangeEnd, Bool.not_not, put_cons, put_nil, trim_same, at_zero, at_add, set_zero, set_add, store_one, write_zero, write_add, write_head, write_succ, splice_one, splice_more, List.drop_nil, List.take_nil, cell_int, cell_bool, fillS, splice_one, idxA, Ex.isNormal, List.set_nil, List.length_set, List.all_cons, List.all_nil, Bool.and_self, and_self, true_and, and_true, List.getElem?_nil, Int.reduceLT, Int.reduceLE, Int.reduceToNat, Int.toNat_zero, Int.toNat_one, Int.reduceAdd, Int.reduceSub, Int.reduceMul, Int.reduceNeg, Int.reduceBEq, Int.reduceBNe, Int.reduceGE, Int.reduceGT, Nat.reduceLT, trim_keep, under_fn, under_ptr, under_sl, Nat.lt_irrefl, not_lt_add, trim_tail, keepOk, ABlk.vals, Int.cast_ofNat_Int, decide_true, decide_false, List.all_cons, List.all_nil, Nat.zero_mul, Nat.mul_one, Nat.one_mul, o_call, o_wakes, wl, hd, e2, ix, hc, ha, er, ei, hck, hc2, ea, wl2, w1, w2, n00, w3]
   exact key ..
  ·have hr := Bool.eq_false_iff.2 hr
   rw [hr] at er
   rw [lo]
   unfold l5x0
   simp -implicitDefEqProofs (maxSteps := 5000000) only [go_sem, Nat.reduceShiftRight, Nat.reduceAnd, Nat.reduceBNe, Int.reduceEq, Nat.reduceAdd, Nat.reduceSub, Nat.reduceMul, Nat.reduceLeDiff, reduceIte, reduceCtorEq, Nat.reduceBEq, Nat.reduceEqDiff, wrap64, runC_loop, runC_range, callF_fn, callV_fn, callV_yld, yield_eq, yieldBody, yieldRaw, roundMid, roundEnd, rangeEnd, Bool.not_not, put_cons, put_nil, trim_same, at_zero, at_add, set_zero, set_add, store_one, write_zero, write_add, write_head, write_succ, splice_one, splice_more, List.drop_nil, List.take_nil, cell_int, cell_bool, fillS, splice_one, idxA, Ex.isNormal, List.set_nil, List.length_set, List.all_cons, List.all_nil, Bool.and_self, and_self, true_and, and_true, List.getElem?_nil, Int.reduceLT, Int.reduceLE, Int.reduceToNat, Int.toNat_zero, Int.toNat_one, Int.reduceAdd, Int.reduceSub, Int.reduceMul, Int.reduceNeg, Int.reduceBEq, Int.reduceBNe, Int.reduceGE, Int.reduceGT, Nat.reduceLT, trim_keep, under_fn, under_ptr, under_sl, Nat.lt_irrefl, not_lt_add, trim_tail, keepOk, ABlk.vals, Int.cast_ofNat_Int, decide_true, decide_false, List.all_cons, List.all_nil, Nat.zero_mul, Nat.mul_one, Nat.one_mul, o_call, o_wakes, wl, hd, e2, ix, hc, ha, er, seqR_ret, outs_normal]
   exact .inr (exF2 rfl rfl)
theorem want_drop (s n : Nat) {L : List (List PrS)} {i : Nat} {l : List PrS} (h : L[i]? = some l) : wantS s n (txI (L.drop i)) = (if n + (l.length + 1) ≤ s then 1 else 0) + wantS s (n + (l.length + 1)) (txI (L.drop (i + 1))) := by
 have lt := (List.getElem?_eq_some_iff.1 h).1
 have e := (List.getElem?_eq_some_iff.1 h).2
 rw [List.drop_eq_getElem_cons lt, e]
 show wantS s n ((l.map prI) :: txI (L.drop (i + 1))) = _
 rw [wantS, List.length_map]
set_option maxHeartbeats 8000000 in
theorem spoiltL1 {H : AHeap} {v : AV} {L : List (List PrS)} (ts : TS H v L) (hL : L.length ≤ 7) (h5 : ∀ l ∈ L, l.length ≤ 5) {s : Nat} (x1 x2 x3 x4 x5 x6 x7 x8 x9 x10 x11 x12 x13 x14 x15 x16 x18 x19 x23 x24 x25 x26 x27 x28 x29 x30 x31 x32 x33 x34 x35 x36 x37 x38 x39 x40 x41 x42 x43 x44 x45 x46 x47 x48 x49 x50 x51 x52 x53 x54 x55 x56 x57 x58 x59 x60 x61 x62 x63 x64 x65 x66 x67 x68 x69 x70 x71 x72 x73 x74 x75 x76 x77 x78 x79 x80 x81 x82 x83 x84 x85 x86 x87 x88 x89 x90 x91 x92 x93 x94 x95 x96 x97 x98 x99 x100 x101 x102 x103 x104 x105 x106 x107 x108 x109 x110 x111 x112 x113 x114 x115 x116 x117 x118 x138 x139 x140 x141 x142 x143 x144 x145 x146 x147 x148 x149 x150 x151 x152 x153 x154 x155 x156 x157 x158 x159 x160 x161 x162 : AV) : ∀ (k i : Nat) (w n : Nat) (j119 j120 j121 j122 j123 j124 j125 j126 j127 j128 j129 j130 j131 j132 j133 j134 j135 j136 j137 : AV), i + k = L.length → w ≤ i → n ≤ 6 * i →
  Outs (LP l5x1 [v, x1, x2, x3, x4, x5, x6, x7, x8, x9, x10, x11, x12, x13, x14, x15, x16, .int .i64 (s : Int), x18, x19, .int .i64 (w : Int), .int .i64 (n : Int), .int .i64 (i : Int), x23, x24, x25, x26, x27, x28, x29, x30, x31, x32, x33, x34, x35, x36, x37, x38, x39, x40, x41, x42, x43, x44, x45, x46, x47, x48, x49, x50, x51, x52, x53, x54, x55, x56, x57, x58, x59, x60, x61, x62, x63, x64, x65, x66, x67, x68, x69, x70, x71, x72, x73, x74, x75, x76, x77, x78, x79, x80, x81, x82, x83, x84, x85, x86, x87, x88, x89, x90, x91, x92, x93, x94, x95, x96, x97, x98, x99, x100, x101, x102, x103, x104, x105, x106, x107, x108, x109, x110, x111, x112, x113, x114, x115, x116, x117, x118, j119, j120, j121, j122, j123, j124, j125, j126, j127, j128, j129, j130, j131, j132, j133, j134, j135, j136, j137, x138, x139, x140, x141, x142, x143, x144, x145, x146, x147, x148, x149, x150, x151, x152, x153, x154, x155, x156, x157, x158, x159, x160, x161, x162] H) fun e t H' => e = .exit 2 ∧ H' = H ∧ ∃ k : Nat → AV, t = [v, x1, x2, x3, x4, x5, x6, x7, x8, x9, x10, x11, x12, x13, x14, x15, x16, .int .i64 (s : Int), x18, x19, .int .i64 ((w + wantS s n (txI (L.drop i)) : Nat) : Int), (k 21), (k 22), x23, x24, x25, x26, x27, x28, x29, x30, x31, x32, x33, x34, x35, x36, x37, x38, x39, x40, x41, x42, x43, x44, x45, x46, x47, x48, x49, x50, x51, x52, x53, x54, x55, x56, x57, x58, x59, x60, x61, x62, x63, x64, x65, x66, x67, x68, x69, x70, x71, x72, x73, x74, x75, x76, x77, x78, x79, x80, x81, x82, x83, x84, x85, x86, x87, x88, x89, x90, x91, x92, x93, x94, x95, x96, x97, x98, x99, x100, x101, x102, x103, x104, x105, x106, x107, x108, x109, x110, x111, x112, x113, x114, x115, x116, x117, x118, (k 119), (k 120), (k 121), (k 122), (k 123), (k 124), (k 125), (k 126), (k 127), (k 128), (k 129), (k 130), (k 131), (k 132), (k 133), (k 134), (k 135), (k 136), (k 137), x138, x139, x140, x141, x142, x143, x144, x145, x146, x147, x148, x149, x150, x151, x152, x153, x154, x155, x156, x157, x158, x159, x160, x161, x162] := by
 intro k
 obtain ⟨L0, hL0⟩ : ∃ L, L = LP l5x1 := ⟨_, rfl⟩
 have lo := loop_open hL0
 have wl := ts.len
 rw [← hL0]
 induction k with
 | zero =>
  intro i w n j119 j120 j121 j122 j123 j124 j125 j126 j127 j128 j129 j130 j131 j132 j133 j134 j135 j136 j137 hi hw hn
  obtain rfl : i = L.length := by omega
  have hd : decide ((L.length : Int) < (L.length : Int)) = false := by simp
  rw [List.drop_length, show wantS s n (txI []) = 0 from rfl, Nat.add_zero, lo]
  unfold l5x1
  simp -implicitDefEqProofs (maxSteps := 5000000) only [go_sem, Nat.reduceShiftRight, Nat.reduceAnd, Nat.reduceBNe, Int.reduceEq, Nat.reduceAdd, Nat.reduceSub, Nat.reduceMul, Nat.reduceLeDiff, reduceIte, reduceCtorEq, Nat.reduceBEq, Nat.reduceEqDiff, wl, hd, seqR_exit', outs_normal]
  exact exF rfl
 | succ k ih =>
  intro i w n j119 j120 j121 j122 j123 j124 j125 j126 j127 j128 j129 j130 j131 j132 j133 j134 j135 j136 j137 hi hw hn
  have hlt : i < L.length := by omega
  have hd : decide ((i : Int) < (L.length : Int)) = true := decide_eq_true (by omega)
  have e2 : IntKind.i64.wrap ((i : Int) + 1) = ((i + 1 : Nat) : Int) := by rw [wrap64 (by omega) (by omega)]; omega
  have hx := List.getElem?_eq_getElem hlt
  have l5 := h5 _ (List.getElem_mem hlt)
  generalize L[i] = l at *
  obtain ⟨a, b, cs, ix, hc, ha, hle, ps, pn⟩ := ts.row i l hx
  have wl2 := ps.len
  have w1 : IntKind.i64.wrap ((l.length : Int) + 1) = (l.length : Int) + 1 := wrap64 (by omega) (by omega)
  have w2 : IntKind.i64.wrap ((n : Int) + ((l.length : Int) + 1)) = ((n + (l.length + 1) : Nat) : Int) := by rw [wrap64 (by omega) (by omega)]; push_cast; omega
  have w3 : IntKind.i64.wrap ((w : Int) + 1) = ((w + 1 : Nat) : Int) := by rw [wrap64 (by omega) (by omega)]; push_cast; omega
  rw [want_drop s n hx]
  by_cases hq : n + (l.length + 1) ≤ s
  ·have dq : decide (((n + (l.length + 1) : Nat) : Int) ≤ (s : Int)) = true := decide_eq_true (by omega)
   rw [if_pos hq]
   have key := fun j119 j120 j121 j122 j123 j124 j125 j126 j127 j128 j129 j130 j131 j132 j133 j134 j135 j136 j137 => ih (i + 1) (w + 1) (n + (l.length + 1)) j119 j120 j121 j122 j123 j124 j125 j126 j127 j128 j129 j130 j131 j132 j133 j134 j135 j136 j137 (by omega) (by omega) (by omega)
   rw [Nat.add_assoc w 1] at key
   rw [lo]
   unfold l5x1
   simp -implicitDefEqProofs (maxSteps := 5000000) only [go_sem, Nat.reduceShiftRight, Nat.reduceAnd, Nat.reduceBNe, Int.reduceEq, Nat.reduceAdd, Nat.reduceSub, Nat.reduceMul, Nat.reduceLeDiff, reduceIte, reduceCtorEq, Nat.reduceBEq, Nat.reduceEqDiff, wrap64, runC_loop, runC_range, callF_fn, callV_fn, callV_yld, yield_eq, yieldBody, yieldRaw, roundMid, roundEnd, rangeEnd, Bool.not_not, put_cons, put_nil, trim_same, at_zero, at_add, set_zero, set_add, store_one, write_zero, write_add, write_head, write_succ, splice_one, splice_more, List.drop_nil, List.take_nil, cell_int, cell_bool, fillS, splice_one, idxA, Ex.isNormal, List.set_nil, List.length_set, List.all_cons, List.all_nil, Bool.and_self, and_self, true_and, and_true, List.getElem?_nil, Int.reduceLT, Int.reduceLE, Int.reduceToNat, Int.toNat_zero, Int.toNat_one, Int.reduceAdd, Int.reduceSub, Int.reduceMul, Int.reduceNeg, Int.reduceBEq, Int.reduceBNe, Int.reduceGE, Int.reduceGT, Nat.reduceLT, trim_keep, under_fn, under_ptr, under_sl, Nat.lt_irrefl, not_lt_add, trim_tail, keepOk, ABlk.vals, Int.cast_ofNat_Int, decide_true, decide_false, List.all_cons, List.all_nil, Nat.zero_mul, Nat.mul_one, Nat.one_mul, wl, hd, e2, ix, hc, ha, wl2, w1, w2, w3, dq]
   exact key ..
  ·have dq : decide (((n + (l.length + 1) : Nat) : Int) ≤ (s : Int)) = false := decide_eq_false (by omega)
   rw [if_neg hq, Nat.zero_add]
   rw [lo]
   unfold l5x1
   simp -implicitDefEqProofs (maxSteps := 5000000) only [go_sem, Nat.reduceShiftRight, Nat.reduceAnd, Nat.reduceBNe, Int.reduceEq, Nat.reduceAdd, Nat.reduceSub, Nat.reduceMul, Nat.reduceLeDiff, reduceIte, reduceCtorEq, Nat.reduceBEq, Nat.reduceEqDiff, wrap64, runC_loop, runC_range, callF_fn, callV_fn, callV_yld, yield_eq, yieldBody, yieldRaw, roundMid, roundEnd, rangeEnd, Bool.not_not, put_cons, put_nil, trim_same, at_zero, at_add, set_zero, set_add, store_one, write_zero, write_add, write_head, write_succ, splice_one, splice_more, List.drop_nil, List.take_nil, cell_int, cell_bool, fillS, splice_one, idxA, Ex.isNormal, List.set_nil, List.length_set, List.all_cons, List.all_nil, Bool.and_self, and_self, true_and, and_true, List.getElem?_nil, Int.reduceLT, Int.reduceLE, Int.reduceToNat, Int.toNat_zero, Int.toNat_one, Int.reduceAdd, Int.reduceSub, Int.reduceMul, Int.reduceNeg, Int.reduceBEq, Int.reduceBNe, Int.reduceGE, Int.reduceGT, Nat.reduceLT, trim_keep, under_fn, under_ptr, under_sl, Nat.lt_irrefl, not_lt_add, trim_tail, keepOk, ABlk.vals, Int.cast_ofNat_Int, decide_true, decide_false, List.all_cons, List.all_nil, Nat.zero_mul, Nat.mul_one, Nat.one_mul, wl, hd, e2, ix, hc, ha, wl2, w1, w2, w3, dq]
   exact ih (i + 1) w (n + (l.length + 1)) _ _ _ _ _ _ _ _ _ _ _ _ _ _ _ _ _ _ _ (by omega) (by omega) (by omega)
end Go.Proofs.Ytipedaadjfhdnaa.G06
end
section
namespace Go.Proofs.Ytipedaadjfhdnaa.G06
open Go Go.Proofs.Ytipedaadjfhdnaa.Eng
set_option maxHeartbeats 32000000 in
theorem ringSpoilt (v : AV) (at_ by_ : Int) (ka : 0 ≤ at_ ∧ at_ ≤ 255) (kb : 0 ≤ by_ ∧ by_ ≤ 255) (h : AHeap) (d : DatC h (.sl [.sl [.int .i64, .int .i64]]) v) : ∃ h', callBody prog EO 5 [v, .int .u8 at_, .int .u8 by_] h = some (.bool true, h') := by
 obtain ⟨L, ts⟩ := txns_dat d
 have wl := ts.len
 rw [d5]
 unfold b5 EO
 refine of_outs ?_
 generalize hQ : (fun (e : Ex) (t : T) (h1 : AHeap) => fin [.tmp 6] (some (e, t, h1)) = some (AV.bool true, h1)) = Q
 by_cases hn0 : L = []
 ·subst hn0
  rw [List.length_nil, show ((0 : Nat) : Int) = 0 from rfl] at wl
  simp -implicitDefEqProofs (maxSteps := 5000000) only [go_sem, Nat.reduceShiftRight, Nat.reduceAnd, Nat.reduceBNe, Int.reduceEq, Nat.reduceAdd, Nat.reduceSub, Nat.reduceMul, Nat.reduceLeDiff, reduceIte, reduceCtorEq, Nat.reduceBEq, Nat.reduceEqDiff, wrap64, runC_loop, runC_range, callF_fn, callV_fn, callV_yld, yield_eq, yieldBody, yieldRaw, roundMid, roundEnd, rangeEnd, Bool.not_not, put_cons, put_nil, trim_same, at_zero, at_add, set_zero, set_add, store_one, write_zero, write_add, write_head, write_succ, splice_one, splice_more, List.drop_nil, List.take_nil, cell_int, cell_bool, fillS, splice_one, idxA, Ex.isNormal, List.set_nil, List.length_set, List.all_cons, List.all_nil, Bool.and_self, and_self, true_and, and_true, List.getElem?_nil, Int.reduceLT, Int.reduceLE, Int.reduceToNat, Int.toNat_zero, Int.toNat_one, Int.reduceAdd, Int.reduceSub, Int.reduceMul, Int.reduceNeg, Int.reduceBEq, Int.reduceBNe, Int.reduceGE, Int.reduceGT, Nat.reduceLT, trim_keep, under_fn, under_ptr, under_sl, Nat.lt_irrefl, not_lt_add, trim_tail, keepOk, ABlk.vals, Int.cast_ofNat_Int, decide_true, decide_false, List.all_cons, List.all_nil, Nat.zero_mul, Nat.mul_one, Nat.one_mul, o_wakes, o_call, wl, outs_normal]
  subst hQ
  simp -implicitDefEqProofs (maxSteps := 5000000) only [go_sem, Nat.reduceShiftRight, Nat.reduceAnd, Nat.reduceBNe, Int.reduceEq, Nat.reduceAdd, Nat.reduceSub, Nat.reduceMul, Nat.reduceLeDiff, reduceIte, reduceCtorEq, Nat.reduceBEq, Nat.reduceEqDiff]
 have hp := List.length_pos_iff.2 hn0
 have z0 : ((L.length : Int) == 0) = false := by simp; exact hn0
 by_cases h7 : (L.length : Int) > 7
 ·have d7 := decide_eq_true h7
  simp -implicitDefEqProofs (maxSteps := 5000000) only [go_sem, Nat.reduceShiftRight, Nat.reduceAnd, Nat.reduceBNe, Int.reduceEq, Nat.reduceAdd, Nat.reduceSub, Nat.reduceMul, Nat.reduceLeDiff, reduceIte, reduceCtorEq, Nat.reduceBEq, Nat.reduceEqDiff, wrap64, runC_loop, runC_range, callF_fn, callV_fn, callV_yld, yield_eq, yieldBody, yieldRaw, roundMid, roundEnd, rangeEnd, Bool.not_not, put_cons, put_nil, trim_same, at_zero, at_add, set_zero, set_add, store_one, write_zero, write_add, write_head, write_succ, splice_one, splice_more, List.drop_nil, List.take_nil, cell_int, cell_bool, fillS, splice_one, idxA, Ex.isNormal, List.set_nil, List.length_set, List.all_cons, List.all_nil, Bool.and_self, and_self, true_and, and_true, List.getElem?_nil, Int.reduceLT, Int.reduceLE, Int.reduceToNat, Int.toNat_zero, Int.toNat_one, Int.reduceAdd, Int.reduceSub, Int.reduceMul, Int.reduceNeg, Int.reduceBEq, Int.reduceBNe, Int.reduceGE, Int.reduceGT, Nat.reduceLT, trim_keep, under_fn, under_ptr, under_sl, Nat.lt_irrefl, not_lt_add, trim_tail, keepOk, ABlk.vals, Int.cast_ofNat_Int, decide_true, decide_false, List.all_cons, List.all_nil, Nat.zero_mul, Nat.mul_one, Nat.one_mul, o_wakes, o_call, wl, z0, d7, outs_normal]
  subst hQ
  simp -implicitDefEqProofs (maxSteps := 5000000) only [go_sem, Nat.reduceShiftRight, Nat.reduceAnd, Nat.reduceBNe, Int.reduceEq, Nat.reduceAdd, Nat.reduceSub, Nat.reduceMul, Nat.reduceLeDiff, reduceIte, reduceCtorEq, Nat.reduceBEq, Nat.reduceEqDiff]
 have d7 := decide_eq_false h7
 by_cases hb0 : by_ = 0
 ·have zb : (by_ == 0) = true := by rw [hb0]; rfl
  simp -implicitDefEqProofs (maxSteps := 5000000) only [go_sem, Nat.reduceShiftRight, Nat.reduceAnd, Nat.reduceBNe, Int.reduceEq, Nat.reduceAdd, Nat.reduceSub, Nat.reduceMul, Nat.reduceLeDiff, reduceIte, reduceCtorEq, Nat.reduceBEq, Nat.reduceEqDiff, wrap64, runC_loop, runC_range, callF_fn, callV_fn, callV_yld, yield_eq, yieldBody, yieldRaw, roundMid, roundEnd, rangeEnd, Bool.not_not, put_cons, put_nil, trim_same, at_zero, at_add, set_zero, set_add, store_one, write_zero, write_add, write_head, write_succ, splice_one, splice_more, List.drop_nil, List.take_nil, cell_int, cell_bool, fillS, splice_one, idxA, Ex.isNormal, List.set_nil, List.length_set, List.all_cons, List.all_nil, Bool.and_self, and_self, true_and, and_true, List.getElem?_nil, Int.reduceLT, Int.reduceLE, Int.reduceToNat, Int.toNat_zero, Int.toNat_one, Int.reduceAdd, Int.reduceSub, Int.reduceMul, Int.reduceNeg, Int.reduceBEq, Int.reduceBNe, Int.reduceGE, Int.reduceGT, Nat.reduceLT, trim_keep, under_fn, under_ptr, under_sl, Nat.lt_irrefl, not_lt_add, trim_tail, keepOk, ABlk.vals, Int.cast_ofNat_Int, decide_true, decide_false, List.all_cons, List.all_nil, Nat.zero_mul, Nat.mul_one, Nat.one_mul, o_wakes, o_call, wl, z0, d7, zb, outs_normal]
  subst hQ
  simp -implicitDefEqProofs (maxSteps := 5000000) only [go_sem, Nat.reduceShiftRight, Nat.reduceAnd, Nat.reduceBNe, Int.reduceEq, Nat.reduceAdd, Nat.reduceSub, Nat.reduceMul, Nat.reduceLeDiff, reduceIte, reduceCtorEq, Nat.reduceBEq, Nat.reduceEqDiff]
 have zb : (by_ == 0) = false := by simpa using hb0
 obtain ⟨H1, F, lA, ea⟩ := rinNew (n0 := 60) (n1 := 1) (by omega) (by omega) (by omega) (by omega) h
 rw [show ((60 : Nat) : Int) = 60 from rfl, show ((1 : Nat) : Int) = 1 from rfl] at ea
 have fr0 : Frs (newRg 60 1) 3 50 0 7 (txI (L.take 0)) := Frs.new (n := 60) rfl ⟨rfl, rfl⟩ (by omega) (by omega) (by omega)
 have pL := spoiltL ts (by omega) (rp := h.length) (k := L.length) (i := 0) (H := H1) (r := newRg 60 1) (F := F)
 have e01 : tot (txI (L.take 0)) = 0 := by rw [List.take_zero]; rfl
 rw [e01, show (((0 + 0) % 50 : Nat) : Int) = 0 from rfl, show (7 : Int) + 0 = 7 from rfl] at pL
 have n00 : ((0 : Int) != 0) = false := rfl
 simp -implicitDefEqProofs (maxSteps := 5000000) only [go_sem, Nat.reduceShiftRight, Nat.reduceAnd, Nat.reduceBNe, Int.reduceEq, Nat.reduceAdd, Nat.reduceSub, Nat.reduceMul, Nat.reduceLeDiff, reduceIte, reduceCtorEq, Nat.reduceBEq, Nat.reduceEqDiff, wrap64, runC_loop, runC_range, callF_fn, callV_fn, callV_yld, yield_eq, yieldBody, yieldRaw, roundMid, roundEnd, rangeEnd, Bool.not_not, put_cons, put_nil, trim_same, at_zero, at_add, set_zero, set_add, store_one, write_zero, write_add, write_head, write_succ, splice_one, splice_more, List.drop_nil, List.take_nil, cell_int, cell_bool, fillS, splice_one, idxA, Ex.isNormal, List.set_nil, List.length_set, List.all_cons, List.all_nil, Bool.and_self, and_self, true_and, and_true, List.getElem?_nil, Int.reduceLT, Int.reduceLE, Int.reduceToNat, Int.toNat_zero, Int.toNat_one, Int.reduceAdd, Int.reduceSub, Int.reduceMul, Int.reduceNeg, Int.reduceBEq, Int.reduceBNe, Int.reduceGE, Int.reduceGT, Nat.reduceLT, trim_keep, under_fn, under_ptr, under_sl, Nat.lt_irrefl, not_lt_add, trim_tail, keepOk, ABlk.vals, Int.cast_ofNat_Int, decide_true, decide_false, List.all_cons, List.all_nil, Nat.zero_mul, Nat.mul_one, Nat.one_mul, runC_loop, o_wakes, o_call, wl, z0, d7, zb, ea, n00]
 unfold LP at pL
 generalize (envL prog).loop (runC (envO prog (knows 12)) (l5x0 (envO prog (knows 12)))) = LL at pL ⊢
 refine outs_ctx (fun r => seqR (blockR 0 r) _) (pL _ _ _ _ _ _ _ _ _ _ _ _ _ _ _ _ _ _ _ _ _ _ _ _ _ _ _ _ _ _ _ _ _ _ _ _ _ _ _ _ _ _ _ _ _ _ _ _ _ _ _ _ _ _ _ _ _ _ _ _ _ _ _ _ _ _ _ _ _ _ _ _ _ _ _ _ _ _ _ _ _ _ _ _ _ _ _ _ _ _ _ _ _ _ _ _ _ _ _ _ _ _ _ _ _ _ _ _ _ _ _ _ _ _ _ _ _ _ _ _ _ _ _ _ _ _ _ _ _ _ _ _ _ _ _ _ _ _ _ _ _ _ _ _ _ _ _ _ _ _ _ _ _ _ _ _ (lA.up (by omega) (by omega)) fr0 (fun l hl => by simp at hl) (by omega)) ?_
 rintro e t H3 (⟨rfl, r', F', li, fr, h5, fv, rfl⟩ | ⟨rfl, fv, rfl, f6⟩)
 ·have td := (fr.wk (by omega) (by rw [txI_len]; omega)).toTold
  have h5' : ∀ t ∈ txI L, t.length ≤ 5 := fun t ht => by
   obtain ⟨l, hl, rfl⟩ := List.mem_map.1 ht
   rw [List.length_map]; exact h5 l hl
  have tl := tot_le _ h5'
  rw [txI_len] at tl
  have tp := len_tot (txI L)
  rw [txI_len] at tp
  obtain ⟨s, hs⟩ : ∃ s : Nat, s = at_.toNat % tot (txI L) := ⟨_, rfl⟩
  have sl : s < tot (txI L) := by rw [hs]; exact Nat.mod_lt _ (by omega)
  have w0 : IntKind.i64.wrap at_ = at_ := wrap64 (by omega) (by omega)
  have rm := int_rem .none .i64 at_ (tot (txI L) : Int) (by omega)
  obtain ⟨a, rfl⟩ : ∃ a : Nat, at_ = a := ⟨at_.toNat, by omega⟩
  rw [tmod_nat, show a % tot (txI L) = s by rw [hs, Int.toNat_natCast]] at rm
  obtain ⟨j, hj⟩ : ∃ j : Nat, j = a % 64 := ⟨_, rfl⟩
  have jl : j < 64 := by rw [hj]; exact Nat.mod_lt _ (by omega)
  have rm2 := int_rem .none .i64 (a : Int) 64 (by omega)
  rw [show ((a : Int)).tmod 64 = ((j : Nat) : Int) by rw [hj]; exact tmod_nat a 64] at rm2
  have sm : (0 + s) % 50 = s := by rw [Nat.zero_add]; exact Nat.mod_eq_of_lt (by omega)
  have fit := fr.rn.fit
  have rd := cont_read fr.rn.up (i := 3 + s) (by omega)
  have vs : vw r' 3 50 0 s = cont r' (3 + s) := by unfold vw; rw [sm]
  have b64 : B64 (cont r' (3 + s)) := by
   have := (LI.m li).ok.1
   unfold cont
   rw [List.getElem?_eq_getElem (show 3 + s < r'.a.length by omega)]
   exact (this _ (List.getElem_mem (show 3 + s < r'.a.length by omega))).last
  have xe := List.getElem?_eq_getElem (show j < (cont r' (3 + s)).length by rw [b64.1]; exact jl)
  generalize (cont r' (3 + s))[j]'(by rw [b64.1]; exact jl) = x at xe
  have xb := b64.2 x (List.mem_of_getElem? xe)
  obtain ⟨_, T1, t1, T2, aa, eT, ew, er⟩ := replay_spoilt td (by omega) (by omega) (by rw [txI_len]; omega) sl (i := j) (v := xor8 x by_) (x := x) (by rw [vs]; exact xe) (xor8_rng x by_) (xor8_ne xb kb hb0)
  rw [vs, sm] at er
  obtain ⟨wr0, _, _, _⟩ := cont_write fr.rn.up (i := 3 + s) (by omega) ((cont r' (3 + s)).set j (xor8 x by_))
  have ea1 := rinRead li.m 0 ((3 + s : Nat) : Int)
  rw [rd] at ea1
  generalize cont r' (3 + s) = z at *
  have z64' : B64 (z.set j (xor8 x by_)) := ⟨by rw [List.length_set]; exact b64.1, fun y hy => by
   rcases List.mem_or_eq_of_mem_set hy with q | q
   ·exact b64.2 y q
   ·rw [q]; exact xor8_rng x by_⟩
  have uz : (u8s z)[j]? = some (.int .u8 x) := u8s_get xe
  have us : (u8s z).set j (.int .u8 (xor8 x by_)) = u8s (z.set j (xor8 x by_)) := by unfold u8s; rw [List.map_set]
  have w64 : (u8s z).length = 64 := by rw [u8s_len]; exact b64.1
  have w64' : (u8s (z.set j (xor8 x by_))).length = 64 := by rw [u8s_len]; exact z64'.1
  have uc := u8s_cell z
  have sp8 := splice_u8 (.int .u8 0) b64.1 (by omega)
  have tk8 := u8s_take z64'.1
  obtain ⟨X1, hX1⟩ : ∃ X1, X1 = H3 ++ [ABlk.rw (u8s z)] := ⟨_, rfl⟩
  obtain ⟨X2, hX2⟩ : ∃ X2, X2 = H3 ++ [ABlk.rw (u8s (z.set j (xor8 x by_)))] := ⟨_, rfl⟩
  have wrb : writeN X1 H3.length j [.int .u8 (xor8 x by_)] = some X2 := by
   rw [hX1, hX2, write_of (cs := u8s z) (by simp), if_pos ⟨by rw [w64]; simp; omega, rfl⟩]
   have : splice (u8s z) j [.int .u8 (xor8 x by_)] = u8s (z.set j (xor8 x by_)) := us
   rw [this]; simp
  have cb1 : cellsOf X1 H3.length = some (u8s z) := by rw [hX1]; unfold cellsOf; simp
  have cb2 : cellsOf X2 H3.length = some (u8s (z.set j (xor8 x by_))) := by rw [hX2]; unfold cellsOf; simp
  have li2 : LI h X2 h.length (L.length * 400) r' F' := by rw [hX2]; exact li.adds _
  obtain ⟨H4, F4, m4, st4, ea2⟩ := rinWrite li2.m 0 ((3 + s : Nat) : Int) z64' (by omega)
  have li4 : LI h H4 h.length (L.length * 400 + 1) _ F4 := li2.step m4 st4
  rw [wr0] at ea2
  have ts4 := ts.adds li4.old
  have l1 := spoiltL1 ts4 (by omega) h5 (s := s) (k := L.length) (i := 0) (w := 0) (n := 0)
  rw [List.drop_zero, Nat.zero_add, ← ew, show ((0 : Nat) : Int) = 0 from rfl] at l1
  obtain ⟨v5, vs5, K5, a5, li5, g5, ea5⟩ := oneRepl li4 3 50 0 7
  rw [show replayS (r'.write 0 ((3 + s : Nat) : Int) (z.set j (xor8 x by_))).1 3 50 0 7 = _ from er] at g5 ea5
  have w5 := g5.lenSl
  have c5 := g5.g.cells.2
  simp only at w5
  have wt : T1.length ≤ L.length := by
   have := congrArg List.length eT
   rw [txI_len] at this; simp at this; omega
  have ws : IntKind.i64.wrap (3 + (s : Int)) = ((3 + s : Nat) : Int) := by rw [wrap64 (by omega) (by omega)]; push_cast; rfl
  have wu : IntKind.u32.wrap (T1.length : Int) = (T1.length : Int) := by show (T1.length : Int) % 4294967296 = _; omega
  have wu2 : IntKind.u32.wrap (7 + (T1.length : Int)) = 7 + (T1.length : Int) := by show (7 + (T1.length : Int)) % 4294967296 = _; omega
  have ii : (0 ≤ ((j : Nat) : Int)) = True := by simp
  have i2 : (((j : Nat) : Int) < 64) = True := by simp; omega
  have jt : ((j : Nat) : Int).toNat = j := Int.toNat_natCast j
  have jl1 : j + 1 ≤ 64 := by omega
  have bb : ∀ q : Int, (q == q) = true := fun q => by simp
  have hX1' := hX1.symm
  simp -implicitDefEqProofs (maxSteps := 5000000) only [go_sem, Nat.reduceShiftRight, Nat.reduceAnd, Nat.reduceBNe, Int.reduceEq, Nat.reduceAdd, Nat.reduceSub, Nat.reduceMul, Nat.reduceLeDiff, reduceIte, reduceCtorEq, Nat.reduceBEq, Nat.reduceEqDiff, wrap64, runC_loop, runC_range, callF_fn, callV_fn, callV_yld, yield_eq, yieldBody, yieldRaw, roundMid, roundEnd, rangeEnd, Bool.not_not, put_cons, put_nil, trim_same, at_zero, at_add, set_zero, set_add, store_one, write_zero, write_add, write_head, write_succ, splice_one, splice_more, List.drop_nil, List.take_nil, cell_int, cell_bool, fillS, splice_one, idxA, Ex.isNormal, List.set_nil, List.length_set, List.all_cons, List.all_nil, Bool.and_self, and_self, true_and, and_true, List.getElem?_nil, Int.reduceLT, Int.reduceLE, Int.reduceToNat, Int.toNat_zero, Int.toNat_one, Int.reduceAdd, Int.reduceSub, Int.reduceMul, Int.reduceNeg, Int.reduceBEq, Int.reduceBNe, Int.reduceGE, Int.reduceGT, Nat.reduceLT, trim_keep, under_fn, under_ptr, under_sl, Nat.lt_irrefl, not_lt_add, trim_tail, keepOk, ABlk.vals, Int.cast_ofNat_Int, decide_true, decide_false, List.all_cons, List.all_nil, Nat.zero_mul, Nat.mul_one, Nat.one_mul, idxAddrA, runC_loop, o_wakes, o_call, w0, rm, rm2, ws, ea1, n00, sp8, w64, uc, hX1', ii, i2, jt, jl1, Nat.mul_one, Nat.zero_add, uz, cb1, xorC, store_one, wrb, cb2, w64', tk8, ea2]
  unfold LP at l1
  generalize (envL prog).loop (runC (envO prog (knows 12)) (l5x1 (envO prog (knows 12)))) = LL at l1 ⊢
  refine outs_ctx (fun r => seqR (blockR 2 r) _) (l1 _ _ _ _ _ _ _ _ _ _ _ _ _ _ _ _ _ _ _ _ _ _ _ _ _ _ _ _ _ _ _ _ _ _ _ _ _ _ _ _ _ _ _ _ _ _ _ _ _ _ _ _ _ _ _ _ _ _ _ _ _ _ _ _ _ _ _ _ _ _ _ _ _ _ _ _ _ _ _ _ _ _ _ _ _ _ _ _ _ _ _ _ _ _ _ _ _ _ _ _ _ _ _ _ _ _ _ _ _ _ _ _ _ _ _ _ _ _ _ _ _ _ _ _ _ _ _ _ _ _ _ _ _ _ _ _ _ _ _ _ _ _ _ _ _ _ _ _ _ _ _ _ _ _ _ _ _ _ (by omega) (by omega) (by omega)) ?_
  rintro e t H6 ⟨rfl, rfl, fv, rfl⟩
  simp -implicitDefEqProofs (maxSteps := 5000000) only [go_sem, Nat.reduceShiftRight, Nat.reduceAnd, Nat.reduceBNe, Int.reduceEq, Nat.reduceAdd, Nat.reduceSub, Nat.reduceMul, Nat.reduceLeDiff, reduceIte, reduceCtorEq, Nat.reduceBEq, Nat.reduceEqDiff, wrap64, runC_loop, runC_range, callF_fn, callV_fn, callV_yld, yield_eq, yieldBody, yieldRaw, roundMid, roundEnd, rangeEnd, Bool.not_not, put_cons, put_nil, trim_same, at_zero, at_add, set_zero, set_add, store_one, write_zero, write_add, write_head, write_succ, splice_one, splice_more, List.drop_nil, List.take_nil, cell_int, cell_bool, fillS, splice_one, idxA, Ex.isNormal, List.set_nil, List.length_set, List.all_cons, List.all_nil, Bool.and_self, and_self, true_and, and_true, List.getElem?_nil, Int.reduceLT, Int.reduceLE, Int.reduceToNat, Int.toNat_zero, Int.toNat_one, Int.reduceAdd, Int.reduceSub, Int.reduceMul, Int.reduceNeg, Int.reduceBEq, Int.reduceBNe, Int.reduceGE, Int.reduceGT, Nat.reduceLT, trim_keep, under_fn, under_ptr, under_sl, Nat.lt_irrefl, not_lt_add, trim_tail, keepOk, ABlk.vals, Int.cast_ofNat_Int, decide_true, decide_false, List.all_cons, List.all_nil, Nat.zero_mul, Nat.mul_one, Nat.one_mul, o_wakes, o_call, ea5, w5, c5, wu, wu2, bb, outs_normal]
  subst hQ
  simp -implicitDefEqProofs (maxSteps := 5000000) only [go_sem, Nat.reduceShiftRight, Nat.reduceAnd, Nat.reduceBNe, Int.reduceEq, Nat.reduceAdd, Nat.reduceSub, Nat.reduceMul, Nat.reduceLeDiff, reduceIte, reduceCtorEq, Nat.reduceBEq, Nat.reduceEqDiff]
 ·simp -implicitDefEqProofs (maxSteps := 5000000) only [go_sem, Nat.reduceShiftRight, Nat.reduceAnd, Nat.reduceBNe, Int.reduceEq, Nat.reduceAdd, Nat.reduceSub, Nat.reduceMul, Nat.reduceLeDiff, reduceIte, reduceCtorEq, Nat.reduceBEq, Nat.reduceEqDiff, outs_normal]
  subst hQ
  simp -implicitDefEqProofs (maxSteps := 5000000) only [go_sem, Nat.reduceShiftRight, Nat.reduceAnd, Nat.reduceBNe, Int.reduceEq, Nat.reduceAdd, Nat.reduceSub, Nat.reduceMul, Nat.reduceLeDiff, reduceIte, reduceCtorEq, Nat.reduceBEq, Nat.reduceEqDiff, f6]
end Go.Proofs.Ytipedaadjfhdnaa.G06
end
