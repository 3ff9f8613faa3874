/- At every geometry GeomApart returns true and leaves its argument as it was. No condition. -/
import Derived.Test.YtbkjhapaacamnaaL6
import Derived.Test.YtbkjhapaacamnaaE3
import Derived.Test.YtbkjhapaacamnaaRows
import Derived.WalkKit
import Derived.ProofKit
import Derived.OpenShut
namespace Go.Proofs.Ytbkjhapaacamnaa.geomApart
open Go Go.ChangeShapes Go.WideShapes Go.ChangeAt Go.RowKit Go.Proofs.Ytbkjhapaacamnaa.Eng
theorem good : Go.Proofs.Ytbkjhapaacamnaa.Eng.Good Try.prog := good_of (by kernel_rfl) (by kernel_rfl)
theorem own : ownKnob Try.prog.godebug = none := by kernel_rfl
set_option maxRecDepth 100000 in
theorem lifted (os : Os) (started : os.Started) (H : Type) (enc : TypeId × Value → H) :
    ReturnsInHanded {} Try.checked os 4 .any (Rows.geomApartSpec.pre6 enc Try.prog Try.f4 Rows.geomApartRow.domain false) (Rows.geomApartSpec.post enc Try.prog Try.f4 false true false false) := by
  refine returnsInHanded_of_change (C := Try.checked) own started (by kernel_rfl) Try.func4
    (ChangeSpec.witness6 (enc := enc) (C := Try.checked) false ⟨#[], #[.agg #[.int .i64 0, .int .i64 0, .int .i64 0, .int .i64 0, .int .i64 0]], []⟩ 8 (by kernel_rfl) (by kernel_rfl) (by kernel_rfl) (by kernel_rfl)) ?_
  intro W base args ds gs before hval0 hW _ _
  have hval : ∀ (j : Nat) t v, Try.f4.params[j]? = some t → args[j]? = some v → Value.okWide Try.prog W .any base t v := hval0
  have hW' := hW
  obtain ⟨p, q, hA0, hV, rfl, hfz, hnd⟩ := hW
  have hA : DataW.TrodAll enc Try.prog W 0 (fun _ => true) true Try.f4.params.toList args.toList ds p := hA0
  rw [Try.params4] at hA hval
  obtain ⟨v0, vs0, d0, ds0, p0, q0, hargs, rfl, rfl, h0, r0⟩ := trodAll_cons hA
  obtain ⟨rfl, rfl, rfl⟩ := trodAll_nil r0
  obtain rfl : args = #[v0] := by cases args; simp_all
  obtain ⟨n0, hn0, rfl, k0⟩ := okv_ints (P := Try.prog) (k := .i64) (fs := _) (n := 5) (ts := [3, 3, 3, 3, 3]) Try.underlying23 (by kernel_rfl) (by kernel_rfl) (by intro u hu; simp at hu; subst hu; exact Try.underlying3) (hval 0 23 v0 rfl rfl)
  obtain ⟨v0_0, v0_1, v0_2, v0_3, v0_4, rfl⟩ := len5 hn0
  refine (calls_true good (Go.Proofs.Ytbkjhapaacamnaa.G07.apart v0_0 v0_1 v0_2 v0_3 v0_4 []) (.cons (.agg (rel_ints _ .i64 [v0_0, v0_1, v0_2, v0_3, v0_4])) .nil)).mono fun e W' ⟨he, hg⟩ => ?_
  subst he
  exact ⟨_, rfl, post_law (t := 4) (by kernel_rfl) (by kernel_rfl) (by kernel_rfl) (by kernel_rfl) rfl hW' ⟨rfl, rfl, rfl⟩ hg⟩

theorem over : Rows.geomApartRow.holds Try.pinned (OpenSpec.ofChange Rows.geomApartSpec) :=
  OpenClaim.holds_of_wide 4 Try.f4 rfl rfl rfl rfl rfl rfl rfl ⟨rfl, rfl, rfl, rfl, rfl⟩ rfl rfl rfl rfl rfl (by kernel_rfl) Try.func4 (by kernel_rfl)
    (of_decide_eq_true (by kernel_rfl)) (by unfold Func.isWrapper; first | (rw [if_pos (by decide +kernel)]; kernel_rfl) | (rw [if_neg (by decide +kernel)]; exact ⟨rfl, rfl⟩))
    (fun os started H enc _ => lifted os started H enc)
theorem proved : Rows.GeomApartSaid := over
#print axioms proved
end Go.Proofs.Ytbkjhapaacamnaa.geomApart
