/- At every geometry and number GeomTells returns true and leaves its arguments as they were. No condition. -/
import Derived.Test.YtbkjhapaacamnaaL4
import Derived.Test.YtbkjhapaacamnaaE3
import Derived.Test.YtbkjhapaacamnaaRows
import Derived.WalkKit
import Derived.ProofKit
import Derived.OpenShut
namespace Go.Proofs.Ytbkjhapaacamnaa.geomTells
open Go Go.ChangeShapes Go.WideShapes Go.ChangeAt Go.RowKit Go.Proofs.Ytbkjhapaacamnaa.Eng
theorem good : Go.Proofs.Ytbkjhapaacamnaa.Eng.Good Try.prog := good_of (by kernel_rfl) (by kernel_rfl)
theorem own : ownKnob Try.prog.godebug = none := by kernel_rfl
set_option maxRecDepth 100000 in
theorem lifted (os : Os) (started : os.Started) (H : Type) (enc : TypeId × Value → H) :
    ReturnsInHanded {} Try.checked os 3 .any (Rows.geomTellsSpec.pre6 enc Try.prog Try.f3 Rows.geomTellsRow.domain false) (Rows.geomTellsSpec.post enc Try.prog Try.f3 false true false false) := by
  refine returnsInHanded_of_change (C := Try.checked) own started (by kernel_rfl) Try.func3
    (ChangeSpec.witness6 (enc := enc) (C := Try.checked) false ⟨#[], #[.agg #[.int .i64 0, .int .i64 0, .int .i64 0, .int .i64 0, .int .i64 0], .int .i64 0], []⟩ 8 (by kernel_rfl) (by kernel_rfl) (by kernel_rfl) (by kernel_rfl)) ?_
  intro W base args ds gs before hval0 hW _ _
  have hval : ∀ (j : Nat) t v, Try.f3.params[j]? = some t → args[j]? = some v → Value.okWide Try.prog W .any base t v := hval0
  have hW' := hW
  obtain ⟨p, q, hA0, hV, rfl, hfz, hnd⟩ := hW
  have hA : DataW.TrodAll enc Try.prog W 0 (fun _ => true) true Try.f3.params.toList args.toList ds p := hA0
  rw [Try.params3] at hA hval
  obtain ⟨v0, vs0, d0, ds0, p0, q0, hargs, rfl, rfl, h0, r0⟩ := trodAll_cons hA
  obtain ⟨v1, vs1, d1, ds1, p1, q1, rfl, rfl, rfl, h1, r1⟩ := trodAll_cons r0
  obtain ⟨rfl, rfl, rfl⟩ := trodAll_nil r1
  obtain rfl : args = #[v0, v1] := by cases args; simp_all
  obtain ⟨n0, hn0, rfl, k0⟩ := okv_ints (P := Try.prog) (k := .i64) (fs := _) (n := 5) (ts := [3, 3, 3, 3, 3]) Try.underlying23 (by kernel_rfl) (by kernel_rfl) (by intro u hu; simp at hu; subst hu; exact Try.underlying3) (hval 0 23 v0 rfl rfl)
  obtain ⟨v0_0, v0_1, v0_2, v0_3, v0_4, rfl⟩ := len5 hn0
  obtain ⟨v1, rfl, k1⟩ := okv_int (P := Try.prog) Try.underlying3 (hval 1 3 v1 rfl rfl)
  refine (calls_true good (Go.Proofs.Ytbkjhapaacamnaa.G07.tells v0_0 v0_1 v0_2 v0_3 v0_4 v1 []) (.cons (.agg (rel_ints _ .i64 [v0_0, v0_1, v0_2, v0_3, v0_4])) (.cons (.int .i64 v1) .nil))).mono fun e W' ⟨he, hg⟩ => ?_
  subst he
  exact ⟨_, rfl, post_law (t := 4) (by kernel_rfl) (by kernel_rfl) (by kernel_rfl) (by kernel_rfl) rfl hW' ⟨rfl, rfl, rfl⟩ hg⟩

theorem over : Rows.geomTellsRow.holds Try.pinned (OpenSpec.ofChange Rows.geomTellsSpec) :=
  OpenClaim.holds_of_wide 3 Try.f3 rfl rfl rfl rfl rfl rfl rfl ⟨rfl, rfl, rfl, rfl, rfl⟩ rfl rfl rfl rfl rfl (by kernel_rfl) Try.func3 (by kernel_rfl)
    (of_decide_eq_true (by kernel_rfl)) (by unfold Func.isWrapper; first | (rw [if_pos (by decide +kernel)]; kernel_rfl) | (rw [if_neg (by decide +kernel)]; exact ⟨rfl, rfl⟩))
    (fun os started H enc _ => lifted os started H enc)
theorem proved : Rows.GeomTellsSaid := over
#print axioms proved
end Go.Proofs.Ytbkjhapaacamnaa.geomTells
