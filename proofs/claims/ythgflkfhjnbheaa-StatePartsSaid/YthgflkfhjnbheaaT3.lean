/- StateParts returns true at every input and leaves its arguments as they were. No condition. -/
import Derived.Test.YthgflkfhjnbheaaM7
import Derived.Test.YthgflkfhjnbheaaE6
import Derived.Test.YthgflkfhjnbheaaRows
import Derived.WalkKit
import Derived.ProofKit
import Derived.OpenShut
namespace Go.Proofs.Ythgflkfhjnbheaa.stateParts
open Go Go.ChangeShapes Go.WideShapes Go.ChangeAt Go.RowKit Go.Proofs.Ythgflkfhjnbheaa.Eng
theorem imp3 : Imp Try.prog 3 [.int .i64] := imp_int Try.underlying3
theorem imp24 : Imp Try.prog 24 [.sl [.int .i64]] := imp_slice Try.underlying24 (by kernel_rfl) (by decide) imp3
theorem imp5 : Imp Try.prog 5 [.int .u8] := imp_int Try.underlying5
theorem imp31 : Imp Try.prog 31 [.sl [.int .u8]] := imp_slice Try.underlying31 (by kernel_rfl) (by decide) imp5
theorem imp57 : Imp Try.prog 57 [.int .i64, .int .i64] := imp_struct (fields := [[.int .i64], [.int .i64]]) Try.underlying57 (by kernel_rfl) (by kernel_rfl) (by
  intro i f ls hf hl
  rcases i with _ | _ | i
  ·cases hl; have hf := Option.some.inj hf; subst hf; exact ⟨by kernel_rfl, by kernel_rfl, imp3⟩
  ·cases hl; have hf := Option.some.inj hf; subst hf; exact ⟨by kernel_rfl, by kernel_rfl, imp3⟩
  ·simp at hl)
theorem imp26 : Imp Try.prog 26 [.sl [.int .i64, .int .i64]] := imp_slice Try.underlying26 (by kernel_rfl) (by decide) imp57
theorem imp55 : Imp Try.prog 55 [.int .i64, .sl [.int .u8], .sl [.int .i64, .int .i64]] := imp_struct (fields := [[.int .i64], [.sl [.int .u8]], [.sl [.int .i64, .int .i64]]]) Try.underlying55 (by kernel_rfl) (by kernel_rfl) (by
  intro i f ls hf hl
  rcases i with _ | _ | _ | i
  ·cases hl; have hf := Option.some.inj hf; subst hf; exact ⟨by kernel_rfl, by kernel_rfl, imp3⟩
  ·cases hl; have hf := Option.some.inj hf; subst hf; exact ⟨by kernel_rfl, by kernel_rfl, imp31⟩
  ·cases hl; have hf := Option.some.inj hf; subst hf; exact ⟨by kernel_rfl, by kernel_rfl, imp26⟩
  ·simp at hl)
theorem imp25 : Imp Try.prog 25 [.sl [.int .i64, .sl [.int .u8], .sl [.int .i64, .int .i64]]] := imp_slice Try.underlying25 (by kernel_rfl) (by decide) imp55
theorem good : Go.Proofs.Ythgflkfhjnbheaa.Eng.Good Try.prog := zS4 (by kernel_rfl) (by kernel_rfl)
theorem own : ownKnob Try.prog.godebug = none := by kernel_rfl
set_option maxRecDepth 100000 in
theorem lifted (os : Os) (started : os.Started) (H : Type) (enc : TypeId × Value → H) :
  ReturnsInHanded {} Try.checked os 5 .any (Rows.statePartsSpec.pre6 enc Try.prog Try.f5 Rows.statePartsRow.domain false) (Rows.statePartsSpec.post enc Try.prog Try.f5 false true false false) := by
 refine returnsInHanded_of_change (C := Try.checked) own started (by kernel_rfl) Try.func5
  (ChangeSpec.witness6 (enc := enc) (C := Try.checked) false ⟨#[], #[.agg #[.int .i64 0, .int .i64 0, .int .i64 0, .int .i64 0, .int .i64 0], .agg #[.slice none 0 0, .slice none 0 0, .int .i64 0, .int .i64 0, .int .i64 0, .slice none 0 0], .agg #[.int .u8 0, .int .u8 0]], []⟩ 12 (by kernel_rfl) (by kernel_rfl) (by kernel_rfl) (by kernel_rfl)) ?_
 intro W base args ds gs before hval0 hW _ _
 have hval : ∀ (j : Nat) t v, Try.f5.params[j]? = some t → args[j]? = some v → Value.okWide Try.prog W .any base t v := hval0
 have hW' := hW
 obtain ⟨p, q, hA0, hV, rfl, hfz, hnd⟩ := hW
 have hA : DataW.TrodAll enc Try.prog W 0 (fun _ => true) true Try.f5.params.toList args.toList ds p := hA0
 rw [Try.params5] at hA hval
 obtain ⟨v0, vs0, d0, ds0, p0, q0, hargs, rfl, rfl, h0, r0⟩ := trodAll_cons hA
 obtain ⟨v1, vs1, d1, ds1, p1, q1, rfl, rfl, rfl, h1, r1⟩ := trodAll_cons r0
 obtain ⟨v2, vs2, d2, ds2, p2, q2, rfl, rfl, rfl, h2, r2⟩ := trodAll_cons r1
 obtain ⟨rfl, rfl, rfl⟩ := trodAll_nil r2
 obtain rfl : args = #[v0, v1, v2] := by cases args; simp_all
 obtain ⟨cs0, hl0, rfl, hc0⟩ := zLn (P := Try.prog) (n := 5) (ts := [3, 3, 3, 3, 3]) Try.underlying23 (by kernel_rfl) (by kernel_rfl) (hval 0 23 v0 rfl rfl)
 obtain ⟨c0_0, c0_1, c0_2, c0_3, c0_4, rfl⟩ := len5 hl0
 obtain ⟨x0, rfl, k0⟩ := zBu (P := Try.prog) Try.underlying3 (hc0 0 _ _ rfl rfl)
 obtain ⟨x1, rfl, k1⟩ := zBu (P := Try.prog) Try.underlying3 (hc0 1 _ _ rfl rfl)
 obtain ⟨x2, rfl, k2⟩ := zBu (P := Try.prog) Try.underlying3 (hc0 2 _ _ rfl rfl)
 obtain ⟨x3, rfl, k3⟩ := zBu (P := Try.prog) Try.underlying3 (hc0 3 _ _ rfl rfl)
 obtain ⟨x4, rfl, k4⟩ := zBu (P := Try.prog) Try.underlying3 (hc0 4 _ _ rfl rfl)
 obtain ⟨cs1, hl1, rfl, hc1⟩ := zLn (P := Try.prog) (n := 6) (ts := [24, 25, 3, 3, 3, 26]) Try.underlying30 (by kernel_rfl) (by kernel_rfl) (hval 1 30 v1 rfl rfl)
 obtain ⟨c1_0, c1_1, c1_2, c1_3, c1_4, c1_5, rfl⟩ := len6 hl1
 have g1_0 : OkSl W c1_0 := zDb (P := Try.prog) Try.underlying24 (hc1 0 _ _ rfl rfl)
 obtain ⟨dd1_0, pp1_0, t1_0⟩ := zJk (P := Try.prog) Try.underlying30 0 rfl rfl (by kernel_rfl) h1 _ rfl g1_0
 obtain ⟨B0, a0, g0⟩ := imp_arg imp24 (zDb (P := Try.prog) Try.underlying24 (hc1 0 _ _ rfl rfl)) t1_0 0
 have G0 := g0
 have g1_1 : OkSl W c1_1 := zDb (P := Try.prog) Try.underlying25 (hc1 1 _ _ rfl rfl)
 obtain ⟨dd1_1, pp1_1, t1_1⟩ := zJk (P := Try.prog) Try.underlying30 1 rfl rfl (by kernel_rfl) h1 _ rfl g1_1
 obtain ⟨B1, a1, g1⟩ := imp_arg imp25 (zDb (P := Try.prog) Try.underlying25 (hc1 1 _ _ rfl rfl)) t1_1 (0 + (B0).length)
 have G1 := G0.app g1
 obtain ⟨x7, rfl, k7⟩ := zBu (P := Try.prog) Try.underlying3 (hc1 2 _ _ rfl rfl)
 obtain ⟨x8, rfl, k8⟩ := zBu (P := Try.prog) Try.underlying3 (hc1 3 _ _ rfl rfl)
 obtain ⟨x9, rfl, k9⟩ := zBu (P := Try.prog) Try.underlying3 (hc1 4 _ _ rfl rfl)
 have g1_5 : OkSl W c1_5 := zDb (P := Try.prog) Try.underlying26 (hc1 5 _ _ rfl rfl)
 obtain ⟨de1_5_0, pe1_5_0, s1_5_0⟩ := trod_sub (P := Try.prog) Try.underlying30 3 rfl rfl (n := 3) (by kernel_rfl) h1 (xs := [_, _, _]) rfl
 obtain ⟨dd1_5, pp1_5, t1_5⟩ := zJk (P := Try.prog) Try.underlying28 2 rfl rfl (by kernel_rfl) s1_5_0 _ rfl g1_5
 obtain ⟨B2, a2, g2⟩ := imp_arg imp26 (zDb (P := Try.prog) Try.underlying26 (hc1 5 _ _ rfl rfl)) t1_5 (0 + (B0 ++ B1).length)
 have G2 := G1.app g2
 obtain ⟨cs2, hl2, rfl, hc2⟩ := zJy (P := Try.prog) (n := 2) (ts := [5, 5]) Try.underlying53 (by kernel_rfl) (by kernel_rfl) (hval 2 53 v2 rfl rfl)
 obtain ⟨c2_0, c2_1, rfl⟩ := len2 hl2
 obtain ⟨x11, rfl, k11⟩ := zBu (P := Try.prog) Try.underlying5 (hc2 0 _ _ rfl rfl)
 obtain ⟨x12, rfl, k12⟩ := zBu (P := Try.prog) Try.underlying5 (hc2 1 _ _ rfl rfl)
 have R := G2.rel (fun i => ((B0 ++ B1 ++ B2)[i]?).map (·.2)) (fun i be h => by rw [Nat.zero_add]; simp only [h, Option.map_some])
 have D := G2.dat ((B0 ++ B1 ++ B2).map (·.1)) (fun i be h => by rw [Nat.zero_add, List.getElem?_map, h]; rfl)
 refine (zNm good Go.Proofs.Ythgflkfhjnbheaa.G14.xw_ok (own_got _ G2.own) ((Go.Proofs.Ythgflkfhjnbheaa.G14.stateParts x0 x1 x2 x3 x4 x7 x8 x9 x11 x12 a0 a1 a2 k11 k12 ((B0 ++ B1 ++ B2).map (·.1)) D.head D.tail.head D.tail.tail.head).choose_spec) (st_got W _ G2.own fun φ hφ => G2.blk φ fun i be h => by rw [Nat.zero_add]; exact hφ i be h) (.cons (.agg (.cons (.int .i64 x0) (.cons (.int .i64 x1) (.cons (.int .i64 x2) (.cons (.int .i64 x3) (.cons (.int .i64 x4) .nil)))))) (.cons (.agg (.cons (zH0 R) (.cons (zH0 (zHz R)) (.cons (.int .i64 x7) (.cons (.int .i64 x8) (.cons (.int .i64 x9) (.cons (zH0 (zHz (zHz R))) .nil))))))) (.cons (.agg (.cons (.int .u8 x11) (.cons (.int .u8 x12) .nil))) .nil)))).mono fun e W' ⟨he, hg⟩ => ?_
 subst he
 exact ⟨_, rfl, post_law (t := 4) (by kernel_rfl) (by kernel_rfl) (by kernel_rfl) (by kernel_rfl) rfl hW' ⟨rfl, rfl, rfl⟩ hg⟩
theorem over : Rows.statePartsRow.holds Try.pinned (OpenSpec.ofChange Rows.statePartsSpec) :=
 OpenClaim.holds_of_wide 5 Try.f5 rfl rfl rfl rfl rfl rfl rfl ⟨rfl, rfl, rfl, rfl, rfl⟩ rfl rfl rfl rfl rfl (by kernel_rfl) Try.func5 (by kernel_rfl)
  (of_decide_eq_true (by kernel_rfl)) (by unfold Func.isWrapper; first | (rw [if_pos (by decide +kernel)]; kernel_rfl) | (rw [if_neg (by decide +kernel)]; exact ⟨rfl, rfl⟩))
  (fun os started H enc _ => lifted os started H enc)
theorem proved : Rows.StatePartsSaid := over
#print axioms proved
end Go.Proofs.Ythgflkfhjnbheaa.stateParts
