/- StateBack returns true at every input and leaves its arguments as they were. No condition. -/
import Derived.Test.YthgflkfhjnbheaaM6
import Derived.Test.YthgflkfhjnbheaaE6
import Derived.Test.YthgflkfhjnbheaaRows
import Derived.WalkKit
import Derived.ProofKit
import Derived.OpenShut
namespace Go.Proofs.Ythgflkfhjnbheaa.stateBack
open Go Go.ChangeShapes Go.WideShapes Go.ChangeAt Go.RowKit Go.Proofs.Ythgflkfhjnbheaa.Eng
theorem imp3 : Imp Try.prog 3 [.int .i64] := imp_int Try.underlying3
theorem imp24 : Imp Try.prog 24 [.sl [.int .i64]] := imp_slice Try.underlying24 (by kernel_rfl) (by decide) imp3
theorem imp5 : Imp Try.prog 5 [.int .u8] := imp_int Try.underlying5
theorem imp31 : Imp Try.prog 31 [.sl [.int .u8]] := imp_slice Try.underlying31 (by kernel_rfl) (by decide) imp5
theorem imp57 : Imp Try.prog 57 [.int .i64, .int .i64] := imp_struct (fields := [[.int .i64], [.int .i64]]) Try.underlying57 (by kernel_rfl) (by kernel_rfl) (by
  intro i f ls hf hl
  rcases i with _ | _ | i
  ·cases hl; have hf := Option.some.inj hf; subst hf; exact ⟨by kernel_rfl, by kernel_rfl, imp3⟩
  ·cases hl; have hf := Option.some.inj hf; subst hf; exact ⟨by kernel_rfl, by kernel_rfl, imp3⟩
  ·simp at hl)
theorem imp26 : Imp Try.prog 26 [.sl [.int .i64, .int .i64]] := imp_slice Try.underlying26 (by kernel_rfl) (by decide) imp57
theorem imp55 : Imp Try.prog 55 [.int .i64, .sl [.int .u8], .sl [.int .i64, .int .i64]] := imp_struct (fields := [[.int .i64], [.sl [.int .u8]], [.sl [.int .i64, .int .i64]]]) Try.underlying55 (by kernel_rfl) (by kernel_rfl) (by
  intro i f ls hf hl
  rcases i with _ | _ | _ | i
  ·cases hl; have hf := Option.some.inj hf; subst hf; exact ⟨by kernel_rfl, by kernel_rfl, imp3⟩
  ·cases hl; have hf := Option.some.inj hf; subst hf; exact ⟨by kernel_rfl, by kernel_rfl, imp31⟩
  ·cases hl; have hf := Option.some.inj hf; subst hf; exact ⟨by kernel_rfl, by kernel_rfl, imp26⟩
  ·simp at hl)
theorem imp25 : Imp Try.prog 25 [.sl [.int .i64, .sl [.int .u8], .sl [.int .i64, .int .i64]]] := imp_slice Try.underlying25 (by kernel_rfl) (by decide) imp55
theorem good : Go.Proofs.Ythgflkfhjnbheaa.Eng.Good Try.prog := zNo (by kernel_rfl) (by kernel_rfl)
theorem own : ownKnob Try.prog.godebug = none := by kernel_rfl
set_option maxRecDepth 100000 in
theorem lifted (os : Os) (started : os.Started) (H : Type) (enc : TypeId × Value → H) :
  ReturnsInHanded {} Try.checked os 4 .any (Rows.stateBackSpec.pre6 enc Try.prog Try.f4 Rows.stateBackRow.domain false) (Rows.stateBackSpec.post enc Try.prog Try.f4 false true false false) := by
 refine returnsInHanded_of_change (C := Try.checked) own started (by kernel_rfl) Try.func4
  (ChangeSpec.witness6 (enc := enc) (C := Try.checked) false ⟨#[], #[.agg #[.int .i64 0, .int .i64 0, .int .i64 0, .int .i64 0, .int .i64 0], .agg #[.slice none 0 0, .slice none 0 0, .int .i64 0, .int .i64 0, .int .i64 0, .slice none 0 0, .slice none 0 0, .slice none 0 0, .int .i64 0, .int .i64 0, .int .i64 0, .slice none 0 0], .slice none 0 0], []⟩ 12 (by kernel_rfl) (by kernel_rfl) (by kernel_rfl) (by kernel_rfl)) ?_
 intro W base args ds gs before hval0 hW _ _
 have hval : ∀ (j : Nat) t v, Try.f4.params[j]? = some t → args[j]? = some v → Value.okWide Try.prog W .any base t v := hval0
 have hW' := hW
 obtain ⟨p, q, hA0, hV, rfl, hfz, hnd⟩ := hW
 have hA : DataW.TrodAll enc Try.prog W 0 (fun _ => true) true Try.f4.params.toList args.toList ds p := hA0
 rw [Try.params4] at hA hval
 obtain ⟨v0, vs0, d0, ds0, p0, q0, hargs, rfl, rfl, h0, r0⟩ := trodAll_cons hA
 obtain ⟨v1, vs1, d1, ds1, p1, q1, rfl, rfl, rfl, h1, r1⟩ := trodAll_cons r0
 obtain ⟨v2, vs2, d2, ds2, p2, q2, rfl, rfl, rfl, h2, r2⟩ := trodAll_cons r1
 obtain ⟨rfl, rfl, rfl⟩ := trodAll_nil r2
 obtain rfl : args = #[v0, v1, v2] := by cases args; simp_all
 obtain ⟨cs0, hl0, rfl, hc0⟩ := zIc (P := Try.prog) (n := 5) (ts := [3, 3, 3, 3, 3]) Try.underlying23 (by kernel_rfl) (by kernel_rfl) (hval 0 23 v0 rfl rfl)
 obtain ⟨c0_0, c0_1, c0_2, c0_3, c0_4, rfl⟩ := len5 hl0
 obtain ⟨x0, rfl, k0⟩ := zBa (P := Try.prog) Try.underlying3 (hc0 0 _ _ rfl rfl)
 obtain ⟨x1, rfl, k1⟩ := zBa (P := Try.prog) Try.underlying3 (hc0 1 _ _ rfl rfl)
 obtain ⟨x2, rfl, k2⟩ := zBa (P := Try.prog) Try.underlying3 (hc0 2 _ _ rfl rfl)
 obtain ⟨x3, rfl, k3⟩ := zBa (P := Try.prog) Try.underlying3 (hc0 3 _ _ rfl rfl)
 obtain ⟨x4, rfl, k4⟩ := zBa (P := Try.prog) Try.underlying3 (hc0 4 _ _ rfl rfl)
 obtain ⟨cs1, hl1, rfl, hc1⟩ := zKb (P := Try.prog) (n := 12) (ts := [24, 25, 3, 3, 3, 26, 24, 25, 3, 3, 3, 26]) Try.underlying50 (by kernel_rfl) (by kernel_rfl) (hval 1 50 v1 rfl rfl)
 obtain ⟨c1_0, c1_1, c1_2, c1_3, c1_4, c1_5, c1_6, c1_7, c1_8, c1_9, c1_10, c1_11, rfl⟩ := len12 hl1
 have g1_0 : OkSl W c1_0 := zBh (P := Try.prog) Try.underlying24 (hc1 0 _ _ rfl rfl)
 obtain ⟨de1_0_0, pe1_0_0, s1_0_0⟩ := zD6 (P := Try.prog) Try.underlying50 (k := 6) (by kernel_rfl) h1 0 (by decide) (xs := [_, _, _, _, _, _]) rfl
 obtain ⟨dd1_0, pp1_0, t1_0⟩ := zDi (P := Try.prog) Try.underlying30 0 rfl rfl (by kernel_rfl) s1_0_0 _ rfl g1_0
 obtain ⟨B0, a0, g0⟩ := imp_arg imp24 (zBh (P := Try.prog) Try.underlying24 (hc1 0 _ _ rfl rfl)) t1_0 0
 have G0 := g0
 have g1_1 : OkSl W c1_1 := zBh (P := Try.prog) Try.underlying25 (hc1 1 _ _ rfl rfl)
 obtain ⟨de1_1_0, pe1_1_0, s1_1_0⟩ := zD6 (P := Try.prog) Try.underlying50 (k := 6) (by kernel_rfl) h1 0 (by decide) (xs := [_, _, _, _, _, _]) rfl
 obtain ⟨dd1_1, pp1_1, t1_1⟩ := zDi (P := Try.prog) Try.underlying30 1 rfl rfl (by kernel_rfl) s1_1_0 _ rfl g1_1
 obtain ⟨B1, a1, g1⟩ := imp_arg imp25 (zBh (P := Try.prog) Try.underlying25 (hc1 1 _ _ rfl rfl)) t1_1 (0 + (B0).length)
 have G1 := G0.app g1
 obtain ⟨x7, rfl, k7⟩ := zBa (P := Try.prog) Try.underlying3 (hc1 2 _ _ rfl rfl)
 obtain ⟨x8, rfl, k8⟩ := zBa (P := Try.prog) Try.underlying3 (hc1 3 _ _ rfl rfl)
 obtain ⟨x9, rfl, k9⟩ := zBa (P := Try.prog) Try.underlying3 (hc1 4 _ _ rfl rfl)
 have g1_5 : OkSl W c1_5 := zBh (P := Try.prog) Try.underlying26 (hc1 5 _ _ rfl rfl)
 obtain ⟨de1_5_0, pe1_5_0, s1_5_0⟩ := zD6 (P := Try.prog) Try.underlying50 (k := 6) (by kernel_rfl) h1 0 (by decide) (xs := [_, _, _, _, _, _]) rfl
 obtain ⟨de1_5_1, pe1_5_1, s1_5_1⟩ := zJw (P := Try.prog) Try.underlying30 3 rfl rfl (n := 3) (by kernel_rfl) s1_5_0 (xs := [_, _, _]) rfl
 obtain ⟨dd1_5, pp1_5, t1_5⟩ := zDi (P := Try.prog) Try.underlying28 2 rfl rfl (by kernel_rfl) s1_5_1 _ rfl g1_5
 obtain ⟨B2, a2, g2⟩ := imp_arg imp26 (zBh (P := Try.prog) Try.underlying26 (hc1 5 _ _ rfl rfl)) t1_5 (0 + (B0 ++ B1).length)
 have G2 := G1.app g2
 have g1_6 : OkSl W c1_6 := zBh (P := Try.prog) Try.underlying24 (hc1 6 _ _ rfl rfl)
 obtain ⟨de1_6_0, pe1_6_0, s1_6_0⟩ := zD6 (P := Try.prog) Try.underlying50 (k := 6) (by kernel_rfl) h1 1 (by decide) (xs := [_, _, _, _, _, _]) rfl
 obtain ⟨dd1_6, pp1_6, t1_6⟩ := zDi (P := Try.prog) Try.underlying30 0 rfl rfl (by kernel_rfl) s1_6_0 _ rfl g1_6
 obtain ⟨B3, a3, g3⟩ := imp_arg imp24 (zBh (P := Try.prog) Try.underlying24 (hc1 6 _ _ rfl rfl)) t1_6 (0 + (B0 ++ B1 ++ B2).length)
 have G3 := G2.app g3
 have g1_7 : OkSl W c1_7 := zBh (P := Try.prog) Try.underlying25 (hc1 7 _ _ rfl rfl)
 obtain ⟨de1_7_0, pe1_7_0, s1_7_0⟩ := zD6 (P := Try.prog) Try.underlying50 (k := 6) (by kernel_rfl) h1 1 (by decide) (xs := [_, _, _, _, _, _]) rfl
 obtain ⟨dd1_7, pp1_7, t1_7⟩ := zDi (P := Try.prog) Try.underlying30 1 rfl rfl (by kernel_rfl) s1_7_0 _ rfl g1_7
 obtain ⟨B4, a4, g4⟩ := imp_arg imp25 (zBh (P := Try.prog) Try.underlying25 (hc1 7 _ _ rfl rfl)) t1_7 (0 + (B0 ++ B1 ++ B2 ++ B3).length)
 have G4 := G3.app g4
 obtain ⟨x13, rfl, k13⟩ := zBa (P := Try.prog) Try.underlying3 (hc1 8 _ _ rfl rfl)
 obtain ⟨x14, rfl, k14⟩ := zBa (P := Try.prog) Try.underlying3 (hc1 9 _ _ rfl rfl)
 obtain ⟨x15, rfl, k15⟩ := zBa (P := Try.prog) Try.underlying3 (hc1 10 _ _ rfl rfl)
 have g1_11 : OkSl W c1_11 := zBh (P := Try.prog) Try.underlying26 (hc1 11 _ _ rfl rfl)
 obtain ⟨de1_11_0, pe1_11_0, s1_11_0⟩ := zD6 (P := Try.prog) Try.underlying50 (k := 6) (by kernel_rfl) h1 1 (by decide) (xs := [_, _, _, _, _, _]) rfl
 obtain ⟨de1_11_1, pe1_11_1, s1_11_1⟩ := zJw (P := Try.prog) Try.underlying30 3 rfl rfl (n := 3) (by kernel_rfl) s1_11_0 (xs := [_, _, _]) rfl
 obtain ⟨dd1_11, pp1_11, t1_11⟩ := zDi (P := Try.prog) Try.underlying28 2 rfl rfl (by kernel_rfl) s1_11_1 _ rfl g1_11
 obtain ⟨B5, a5, g5⟩ := imp_arg imp26 (zBh (P := Try.prog) Try.underlying26 (hc1 11 _ _ rfl rfl)) t1_11 (0 + (B0 ++ B1 ++ B2 ++ B3 ++ B4).length)
 have G5 := G4.app g5
 obtain ⟨B6, a6, g6⟩ := imp_arg imp31 (okv_sl (P := Try.prog) Try.underlying31 (hval 2 31 v2 rfl rfl)) h2 (0 + (B0 ++ B1 ++ B2 ++ B3 ++ B4 ++ B5).length)
 have G6 := G5.app g6
 have R := G6.rel (fun i => ((B0 ++ B1 ++ B2 ++ B3 ++ B4 ++ B5 ++ B6)[i]?).map (·.2)) (fun i be h => by rw [Nat.zero_add]; simp only [h, Option.map_some])
 have D := G6.dat ((B0 ++ B1 ++ B2 ++ B3 ++ B4 ++ B5 ++ B6).map (·.1)) (fun i be h => by rw [Nat.zero_add, List.getElem?_map, h]; rfl)
 refine (zIt good Go.Proofs.Ythgflkfhjnbheaa.G14.xw_ok (zSo _ G6.own) ((Go.Proofs.Ythgflkfhjnbheaa.G14.stateBack x0 x1 x2 x3 x4 x7 x8 x9 x13 x14 x15 a0 a1 a2 a3 a4 a5 a6 ((B0 ++ B1 ++ B2 ++ B3 ++ B4 ++ B5 ++ B6).map (·.1)) D.head D.tail.head D.tail.tail.head D.tail.tail.tail.head D.tail.tail.tail.tail.head D.tail.tail.tail.tail.tail.head D.tail.tail.tail.tail.tail.tail.head).choose_spec) (st_got W _ G6.own fun φ hφ => G6.blk φ fun i be h => by rw [Nat.zero_add]; exact hφ i be h) (.cons (.agg (.cons (.int .i64 x0) (.cons (.int .i64 x1) (.cons (.int .i64 x2) (.cons (.int .i64 x3) (.cons (.int .i64 x4) .nil)))))) (.cons (.agg (.cons (zCa R) (.cons (zCa (zA7 R)) (.cons (.int .i64 x7) (.cons (.int .i64 x8) (.cons (.int .i64 x9) (.cons (zCa (zA7 (zA7 R))) (.cons (zCa (zA7 (zA7 (zA7 R)))) (.cons (zCa (zA7 (zA7 (zA7 (zA7 R))))) (.cons (.int .i64 x13) (.cons (.int .i64 x14) (.cons (.int .i64 x15) (.cons (zCa (zA7 (zA7 (zA7 (zA7 (zA7 R)))))) .nil))))))))))))) (.cons (zCa (zA7 (zA7 (zA7 (zA7 (zA7 (zA7 R))))))) .nil)))).mono fun e W' ⟨he, hg⟩ => ?_
 subst he
 exact ⟨_, rfl, zOn (t := 4) (by kernel_rfl) (by kernel_rfl) (by kernel_rfl) (by kernel_rfl) rfl hW' ⟨rfl, rfl, rfl⟩ hg⟩
theorem over : Rows.stateBackRow.holds Try.pinned (OpenSpec.ofChange Rows.stateBackSpec) :=
 OpenClaim.holds_of_wide 4 Try.f4 rfl rfl rfl rfl rfl rfl rfl ⟨rfl, rfl, rfl, rfl, rfl⟩ rfl rfl rfl rfl rfl (by kernel_rfl) Try.func4 (by kernel_rfl)
  (of_decide_eq_true (by kernel_rfl)) (by unfold Func.isWrapper; first | (rw [if_pos (by decide +kernel)]; kernel_rfl) | (rw [if_neg (by decide +kernel)]; exact ⟨rfl, rfl⟩))
  (fun os started H enc _ => lifted os started H enc)
theorem proved : Rows.StateBackSaid := over
#print axioms proved
end Go.Proofs.Ythgflkfhjnbheaa.stateBack
