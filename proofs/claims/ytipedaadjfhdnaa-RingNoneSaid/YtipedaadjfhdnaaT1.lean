/- At every ring RingNone returns true. No condition. -/
import Derived.Test.YtipedaadjfhdnaaL2
import Derived.Test.YtipedaadjfhdnaaE4
import Derived.Test.YtipedaadjfhdnaaRows
import Derived.WalkKit
import Derived.ProofKit
import Derived.OpenShut
namespace Go.Proofs.Ytipedaadjfhdnaa.ringNone
open Go Go.ChangeShapes Go.WideShapes Go.ChangeAt Go.RowKit Go.Proofs.Ytipedaadjfhdnaa.Eng
theorem good : Go.Proofs.Ytipedaadjfhdnaa.Eng.Good Try.prog := good_of (by kernel_rfl) (by kernel_rfl)
theorem own : ownKnob Try.prog.godebug = none := by kernel_rfl
set_option maxRecDepth 100000 in
theorem lifted (os : Os) (started : os.Started) (H : Type) (enc : TypeId × Value → H) :
    ReturnsInHanded {} Try.checked os 3 .any (Rows.ringNoneSpec.pre6 enc Try.prog Try.f3 Rows.ringNoneRow.domain false) (Rows.ringNoneSpec.post enc Try.prog Try.f3 false true false false) := by
  refine returnsInHanded_of_change (C := Try.checked) own started (by kernel_rfl) Try.func3
    (ChangeSpec.witness6 (enc := enc) (C := Try.checked) false ⟨#[], #[.int .i64 0, .int .i64 0, .int .u32 0], []⟩ 12 (by kernel_rfl) (by kernel_rfl) (by kernel_rfl) (by kernel_rfl)) ?_
  intro W base args ds gs before hval0 hW _ _
  have hval : ∀ (j : Nat) t v, Try.f3.params[j]? = some t → args[j]? = some v → Value.okWide Try.prog W .any base t v := hval0
  have hW' := hW
  obtain ⟨p, q, hA0, hV, rfl, hfz, hnd⟩ := hW
  have hA : DataW.TrodAll enc Try.prog W 0 (fun _ => true) true Try.f3.params.toList args.toList ds p := hA0
  rw [Try.params3] at hA hval
  obtain ⟨v0, vs0, d0, ds0, p0, q0, hargs, rfl, rfl, h0, r0⟩ := trodAll_cons hA
  obtain ⟨v1, vs1, d1, ds1, p1, q1, rfl, rfl, rfl, h1, r1⟩ := trodAll_cons r0
  obtain ⟨v2, vs2, d2, ds2, p2, q2, rfl, rfl, rfl, h2, r2⟩ := trodAll_cons r1
  obtain ⟨rfl, rfl, rfl⟩ := trodAll_nil r2
  obtain rfl : args = #[v0, v1, v2] := by cases args; simp_all
  obtain ⟨x0, rfl, k0⟩ := okv_int (P := Try.prog) Try.underlying3 (hval 0 3 v0 rfl rfl)
  obtain ⟨x1, rfl, k1⟩ := okv_int (P := Try.prog) Try.underlying3 (hval 1 3 v1 rfl rfl)
  obtain ⟨x2, rfl, k2⟩ := okv_int (P := Try.prog) Try.underlying22 (hval 2 22 v2 rfl rfl)
  refine (calls_trueO good Go.Proofs.Ytipedaadjfhdnaa.G06.known noOwn_nil ((Go.Proofs.Ytipedaadjfhdnaa.G06.ringNone x0 x1 x2 k0 k1 []).choose_spec) (St.none W) (.cons (.int .i64 x0) (.cons (.int .i64 x1) (.cons (.int .u32 x2) .nil)))).mono fun e W' ⟨he, hg⟩ => ?_
  subst he
  exact ⟨_, rfl, post_law (t := 4) (by kernel_rfl) (by kernel_rfl) (by kernel_rfl) (by kernel_rfl) rfl hW' ⟨rfl, rfl, rfl⟩ hg⟩

theorem over : Rows.ringNoneRow.holds Try.pinned (OpenSpec.ofChange Rows.ringNoneSpec) :=
  OpenClaim.holds_of_wide 3 Try.f3 rfl rfl rfl rfl rfl rfl rfl ⟨rfl, rfl, rfl, rfl, rfl⟩ rfl rfl rfl rfl rfl (by kernel_rfl) Try.func3 (by kernel_rfl)
    (of_decide_eq_true (by kernel_rfl)) (by unfold Func.isWrapper; first | (rw [if_pos (by decide +kernel)]; kernel_rfl) | (rw [if_neg (by decide +kernel)]; exact ⟨rfl, rfl⟩))
    (fun os started H enc _ => lifted os started H enc)
theorem proved : Rows.RingNoneSaid := over
#print axioms proved
end Go.Proofs.Ytipedaadjfhdnaa.ringNone
