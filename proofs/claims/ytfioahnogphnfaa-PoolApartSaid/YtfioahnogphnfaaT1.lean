/- PoolApart returns true at every input and leaves its arguments as they were. No condition. -/
import Derived.Test.YtfioahnogphnfaaGRB
import Derived.Test.YtfioahnogphnfaaE6
import Derived.Test.YtfioahnogphnfaaRows
import Derived.WalkKit
import Derived.ProofKit
import Derived.OpenShut
namespace Go.Proofs.Ytfioahnogphnfaa.poolApart
open Go Go.ChangeShapes Go.WideShapes Go.ChangeAt Go.RowKit Go.Proofs.Ytfioahnogphnfaa.Eng
theorem imp3 : Imp Try.prog 3 [.int .i64] := imp_int Try.underlying3
theorem imp22 : Imp Try.prog 22 [.sl [.int .i64]] := imp_slice Try.underlying22 (by kernel_rfl) (by decide) imp3
theorem imp5 : Imp Try.prog 5 [.int .u8] := imp_int Try.underlying5
theorem imp41 : Imp Try.prog 41 [.sl [.int .u8]] := imp_slice Try.underlying41 (by kernel_rfl) (by decide) imp5
theorem imp47 : Imp Try.prog 47 [.int .i64, .int .i64] := imp_struct (fields := [[.int .i64], [.int .i64]]) Try.underlying47 (by kernel_rfl) (by kernel_rfl) (by
  intro i f ls hf hl
  rcases i with _ | _ | i
  ·cases hl; have hf := Option.some.inj hf; subst hf; exact ⟨by kernel_rfl, by kernel_rfl, imp3⟩
  ·cases hl; have hf := Option.some.inj hf; subst hf; exact ⟨by kernel_rfl, by kernel_rfl, imp3⟩
  ·simp at hl)
theorem imp24 : Imp Try.prog 24 [.sl [.int .i64, .int .i64]] := imp_slice Try.underlying24 (by kernel_rfl) (by decide) imp47
theorem imp43 : Imp Try.prog 43 [.int .i64, .sl [.int .u8], .sl [.int .i64, .int .i64]] := imp_struct (fields := [[.int .i64], [.sl [.int .u8]], [.sl [.int .i64, .int .i64]]]) Try.underlying43 (by kernel_rfl) (by kernel_rfl) (by
  intro i f ls hf hl
  rcases i with _ | _ | _ | i
  ·cases hl; have hf := Option.some.inj hf; subst hf; exact ⟨by kernel_rfl, by kernel_rfl, imp3⟩
  ·cases hl; have hf := Option.some.inj hf; subst hf; exact ⟨by kernel_rfl, by kernel_rfl, imp41⟩
  ·cases hl; have hf := Option.some.inj hf; subst hf; exact ⟨by kernel_rfl, by kernel_rfl, imp24⟩
  ·simp at hl)
theorem imp23 : Imp Try.prog 23 [.sl [.int .i64, .sl [.int .u8], .sl [.int .i64, .int .i64]]] := imp_slice Try.underlying23 (by kernel_rfl) (by decide) imp43
theorem good : Go.Proofs.Ytfioahnogphnfaa.Eng.Good Try.prog := good_of (by kernel_rfl) (by kernel_rfl)
theorem own : ownKnob Try.prog.godebug = none := by kernel_rfl
set_option maxRecDepth 100000 in
theorem lifted (os : Os) (started : os.Started) (H : Type) (enc : TypeId × Value → H) :
  ReturnsInHanded {} Try.checked os 3 .any (Rows.poolApartSpec.pre6 enc Try.prog Try.f3 Rows.poolApartRow.domain false) (Rows.poolApartSpec.post enc Try.prog Try.f3 false true false false) := by
 refine returnsInHanded_of_change (C := Try.checked) own started (by kernel_rfl) Try.func3
  (ChangeSpec.witness6 (enc := enc) (C := Try.checked) false ⟨#[], #[.agg #[.slice none 0 0, .slice none 0 0, .int .i64 0, .int .i64 0, .int .i64 0, .slice none 0 0], .agg #[.int .u8 0, .int .u8 0]], []⟩ 12 (by kernel_rfl) (by kernel_rfl) (by kernel_rfl) (by kernel_rfl)) ?_
 intro W base args ds gs before hval0 hW _ _
 have hval : ∀ (j : Nat) t v, Try.f3.params[j]? = some t → args[j]? = some v → Value.okWide Try.prog W .any base t v := hval0
 have hW' := hW
 obtain ⟨p, q, hA0, hV, rfl, hfz, hnd⟩ := hW
 have hA : DataW.TrodAll enc Try.prog W 0 (fun _ => true) true Try.f3.params.toList args.toList ds p := hA0
 rw [Try.params3] at hA hval
 obtain ⟨v0, vs0, d0, ds0, p0, q0, hargs, rfl, rfl, h0, r0⟩ := trodAll_cons hA
 obtain ⟨v1, vs1, d1, ds1, p1, q1, rfl, rfl, rfl, h1, r1⟩ := trodAll_cons r0
 obtain ⟨rfl, rfl, rfl⟩ := trodAll_nil r1
 obtain rfl : args = #[v0, v1] := by cases args; simp_all
 obtain ⟨cs0, hl0, rfl, hc0⟩ := okv_cells (P := Try.prog) (n := 6) (ts := [22, 23, 3, 3, 3, 24]) Try.underlying28 (by kernel_rfl) (by kernel_rfl) (hval 0 28 v0 rfl rfl)
 obtain ⟨c0_0, c0_1, c0_2, c0_3, c0_4, c0_5, rfl⟩ := len6 hl0
 have g0_0 : OkSl W c0_0 := cell_sl_of (P := Try.prog) Try.underlying22 (hc0 0 _ _ rfl rfl)
 obtain ⟨dd0_0, pp0_0, t0_0⟩ := trod_fld (P := Try.prog) Try.underlying28 0 rfl rfl (by kernel_rfl) h0 _ rfl g0_0
 obtain ⟨B0, a0, g0⟩ := imp_arg imp22 (cell_sl_of (P := Try.prog) Try.underlying22 (hc0 0 _ _ rfl rfl)) t0_0 0
 have G0 := g0
 have g0_1 : OkSl W c0_1 := cell_sl_of (P := Try.prog) Try.underlying23 (hc0 1 _ _ rfl rfl)
 obtain ⟨dd0_1, pp0_1, t0_1⟩ := trod_fld (P := Try.prog) Try.underlying28 1 rfl rfl (by kernel_rfl) h0 _ rfl g0_1
 obtain ⟨B1, a1, g1⟩ := imp_arg imp23 (cell_sl_of (P := Try.prog) Try.underlying23 (hc0 1 _ _ rfl rfl)) t0_1 (0 + (B0).length)
 have G1 := G0.app g1
 obtain ⟨x2, rfl, k2⟩ := cell_int_of (P := Try.prog) Try.underlying3 (hc0 2 _ _ rfl rfl)
 obtain ⟨x3, rfl, k3⟩ := cell_int_of (P := Try.prog) Try.underlying3 (hc0 3 _ _ rfl rfl)
 obtain ⟨x4, rfl, k4⟩ := cell_int_of (P := Try.prog) Try.underlying3 (hc0 4 _ _ rfl rfl)
 have g0_5 : OkSl W c0_5 := cell_sl_of (P := Try.prog) Try.underlying24 (hc0 5 _ _ rfl rfl)
 obtain ⟨de0_5_0, pe0_5_0, s0_5_0⟩ := trod_sub (P := Try.prog) Try.underlying28 3 rfl rfl (n := 3) (by kernel_rfl) h0 (xs := [_, _, _]) rfl
 obtain ⟨dd0_5, pp0_5, t0_5⟩ := trod_fld (P := Try.prog) Try.underlying26 2 rfl rfl (by kernel_rfl) s0_5_0 _ rfl g0_5
 obtain ⟨B2, a2, g2⟩ := imp_arg imp24 (cell_sl_of (P := Try.prog) Try.underlying24 (hc0 5 _ _ rfl rfl)) t0_5 (0 + (B0 ++ B1).length)
 have G2 := G1.app g2
 obtain ⟨cs1, hl1, rfl, hc1⟩ := okv_cells_arr (P := Try.prog) (n := 2) (ts := [5, 5]) Try.underlying29 (by kernel_rfl) (by kernel_rfl) (hval 1 29 v1 rfl rfl)
 obtain ⟨c1_0, c1_1, rfl⟩ := len2 hl1
 obtain ⟨x6, rfl, k6⟩ := cell_int_of (P := Try.prog) Try.underlying5 (hc1 0 _ _ rfl rfl)
 obtain ⟨x7, rfl, k7⟩ := cell_int_of (P := Try.prog) Try.underlying5 (hc1 1 _ _ rfl rfl)
 have R := G2.rel (fun i => ((B0 ++ B1 ++ B2)[i]?).map (·.2)) (fun i be h => by rw [Nat.zero_add]; simp only [h, Option.map_some])
 have D := G2.dat ((B0 ++ B1 ++ B2).map (·.1)) (fun i be h => by rw [Nat.zero_add, List.getElem?_map, h]; rfl)
 refine (calls_trueX good Go.Proofs.Ytfioahnogphnfaa.G12.x4_ok (own_got _ G2.own) ((Go.Proofs.Ytfioahnogphnfaa.G12.poolApart a0 a1 a2 x2 x3 x4 x6 x7 k6 k7 ((B0 ++ B1 ++ B2).map (·.1)) D.head D.tail.head D.tail.tail.head).choose_spec) (st_got W _ G2.own fun φ hφ => G2.blk φ fun i be h => by rw [Nat.zero_add]; exact hφ i be h) (.cons (.agg (.cons (rels_head R) (.cons (rels_head (rels_tail R)) (.cons (.int .i64 x2) (.cons (.int .i64 x3) (.cons (.int .i64 x4) (.cons (rels_head (rels_tail (rels_tail R))) .nil))))))) (.cons (.agg (.cons (.int .u8 x6) (.cons (.int .u8 x7) .nil))) .nil))).mono fun e W' ⟨he, hg⟩ => ?_
 subst he
 exact ⟨_, rfl, post_law (t := 4) (by kernel_rfl) (by kernel_rfl) (by kernel_rfl) (by kernel_rfl) rfl hW' ⟨rfl, rfl, rfl⟩ hg⟩
theorem over : Rows.poolApartRow.holds Try.pinned (OpenSpec.ofChange Rows.poolApartSpec) :=
 OpenClaim.holds_of_wide 3 Try.f3 rfl rfl rfl rfl rfl rfl rfl ⟨rfl, rfl, rfl, rfl, rfl⟩ rfl rfl rfl rfl rfl (by kernel_rfl) Try.func3 (by kernel_rfl)
  (of_decide_eq_true (by kernel_rfl)) (by unfold Func.isWrapper; first | (rw [if_pos (by decide +kernel)]; kernel_rfl) | (rw [if_neg (by decide +kernel)]; exact ⟨rfl, rfl⟩))
  (fun os started H enc _ => lifted os started H enc)
theorem proved : Rows.PoolApartSaid := over
#print axioms proved
end Go.Proofs.Ytfioahnogphnfaa.poolApart
