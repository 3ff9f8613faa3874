/- PoolFrees returns true at every input and leaves its arguments as they were. No condition. -/
import Derived.Test.YtfioahnogphnfaaGRC
import Derived.Test.YtfioahnogphnfaaE6
import Derived.Test.YtfioahnogphnfaaRows
import Derived.WalkKit
import Derived.ProofKit
import Derived.OpenShut
namespace Go.Proofs.Ytfioahnogphnfaa.poolFrees
open Go Go.ChangeShapes Go.WideShapes Go.ChangeAt Go.RowKit Go.Proofs.Ytfioahnogphnfaa.Eng
theorem imp3 : Imp Try.prog 3 [.int .i64] := imp_int Try.underlying3
theorem imp5 : Imp Try.prog 5 [.int .u8] := imp_int Try.underlying5
theorem imp41 : Imp Try.prog 41 [.sl [.int .u8]] := imp_slice Try.underlying41 (by kernel_rfl) (by decide) imp5
theorem imp47 : Imp Try.prog 47 [.int .i64, .int .i64] := imp_struct (fields := [[.int .i64], [.int .i64]]) Try.underlying47 (by kernel_rfl) (by kernel_rfl) (by
  intro i f ls hf hl
  rcases i with _ | _ | i
  ·cases hl; have hf := Option.some.inj hf; subst hf; exact ⟨by kernel_rfl, by kernel_rfl, imp3⟩
  ·cases hl; have hf := Option.some.inj hf; subst hf; exact ⟨by kernel_rfl, by kernel_rfl, imp3⟩
  ·simp at hl)
theorem imp24 : Imp Try.prog 24 [.sl [.int .i64, .int .i64]] := imp_slice Try.underlying24 (by kernel_rfl) (by decide) imp47
theorem imp43 : Imp Try.prog 43 [.int .i64, .sl [.int .u8], .sl [.int .i64, .int .i64]] := imp_struct (fields := [[.int .i64], [.sl [.int .u8]], [.sl [.int .i64, .int .i64]]]) Try.underlying43 (by kernel_rfl) (by kernel_rfl) (by
  intro i f ls hf hl
  rcases i with _ | _ | _ | i
  ·cases hl; have hf := Option.some.inj hf; subst hf; exact ⟨by kernel_rfl, by kernel_rfl, imp3⟩
  ·cases hl; have hf := Option.some.inj hf; subst hf; exact ⟨by kernel_rfl, by kernel_rfl, imp41⟩
  ·cases hl; have hf := Option.some.inj hf; subst hf; exact ⟨by kernel_rfl, by kernel_rfl, imp24⟩
  ·simp at hl)
theorem imp23 : Imp Try.prog 23 [.sl [.int .i64, .sl [.int .u8], .sl [.int .i64, .int .i64]]] := imp_slice Try.underlying23 (by kernel_rfl) (by decide) imp43
theorem good : Go.Proofs.Ytfioahnogphnfaa.Eng.Good Try.prog := good_of (by kernel_rfl) (by kernel_rfl)
theorem own : ownKnob Try.prog.godebug = none := by kernel_rfl
set_option maxRecDepth 100000 in
theorem lifted (os : Os) (started : os.Started) (H : Type) (enc : TypeId × Value → H) :
  ReturnsInHanded {} Try.checked os 5 .any (Rows.poolFreesSpec.pre6 enc Try.prog Try.f5 Rows.poolFreesRow.domain false) (Rows.poolFreesSpec.post enc Try.prog Try.f5 false true false false) := by
 refine returnsInHanded_of_change (C := Try.checked) own started (by kernel_rfl) Try.func5
  (ChangeSpec.witness6 (enc := enc) (C := Try.checked) false ⟨#[], #[.slice none 0 0, .int .u8 0], []⟩ 12 (by kernel_rfl) (by kernel_rfl) (by kernel_rfl) (by kernel_rfl)) ?_
 intro W base args ds gs before hval0 hW _ _
 have hval : ∀ (j : Nat) t v, Try.f5.params[j]? = some t → args[j]? = some v → Value.okWide Try.prog W .any base t v := hval0
 have hW' := hW
 obtain ⟨p, q, hA0, hV, rfl, hfz, hnd⟩ := hW
 have hA : DataW.TrodAll enc Try.prog W 0 (fun _ => true) true Try.f5.params.toList args.toList ds p := hA0
 rw [Try.params5] at hA hval
 obtain ⟨v0, vs0, d0, ds0, p0, q0, hargs, rfl, rfl, h0, r0⟩ := trodAll_cons hA
 obtain ⟨v1, vs1, d1, ds1, p1, q1, rfl, rfl, rfl, h1, r1⟩ := trodAll_cons r0
 obtain ⟨rfl, rfl, rfl⟩ := trodAll_nil r1
 obtain rfl : args = #[v0, v1] := by cases args; simp_all
 obtain ⟨B0, a0, g0⟩ := imp_arg imp23 (okv_sl (P := Try.prog) Try.underlying23 (hval 0 23 v0 rfl rfl)) h0 0
 have G0 := g0
 obtain ⟨x1, rfl, k1⟩ := okv_int (P := Try.prog) Try.underlying5 (hval 1 5 v1 rfl rfl)
 have R := G0.rel (fun i => ((B0)[i]?).map (·.2)) (fun i be h => by rw [Nat.zero_add]; simp only [h, Option.map_some])
 have D := G0.dat ((B0).map (·.1)) (fun i be h => by rw [Nat.zero_add, List.getElem?_map, h]; rfl)
 refine (calls_trueX good Go.Proofs.Ytfioahnogphnfaa.G12.x4_ok (own_got _ G0.own) ((Go.Proofs.Ytfioahnogphnfaa.G12.poolFrees a0 x1 k1 ((B0).map (·.1)) D.head).choose_spec) (st_got W _ G0.own fun φ hφ => G0.blk φ fun i be h => by rw [Nat.zero_add]; exact hφ i be h) (.cons (rels_head R) (.cons (.int .u8 x1) .nil))).mono fun e W' ⟨he, hg⟩ => ?_
 subst he
 exact ⟨_, rfl, post_law (t := 4) (by kernel_rfl) (by kernel_rfl) (by kernel_rfl) (by kernel_rfl) rfl hW' ⟨rfl, rfl, rfl⟩ hg⟩
theorem over : Rows.poolFreesRow.holds Try.pinned (OpenSpec.ofChange Rows.poolFreesSpec) :=
 OpenClaim.holds_of_wide 5 Try.f5 rfl rfl rfl rfl rfl rfl rfl ⟨rfl, rfl, rfl, rfl, rfl⟩ rfl rfl rfl rfl rfl (by kernel_rfl) Try.func5 (by kernel_rfl)
  (of_decide_eq_true (by kernel_rfl)) (by unfold Func.isWrapper; first | (rw [if_pos (by decide +kernel)]; kernel_rfl) | (rw [if_neg (by decide +kernel)]; exact ⟨rfl, rfl⟩))
  (fun os started H enc _ => lifted os started H enc)
theorem proved : Rows.PoolFreesSaid := over
#print axioms proved
end Go.Proofs.Ytfioahnogphnfaa.poolFrees
