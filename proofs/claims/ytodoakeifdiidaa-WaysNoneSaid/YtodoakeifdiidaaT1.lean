/- At every step WaysNone returns true and leaves its argument as it was. No condition. -/
import Derived.Test.YtodoakeifdiidaaL1
import Derived.Test.YtodoakeifdiidaaE4
import Derived.Test.YtodoakeifdiidaaRows
import Derived.WalkKit
import Derived.ProofKit
import Derived.OpenShut
namespace Go.Proofs.Ytodoakeifdiidaa.waysNone
open Go Go.ChangeShapes Go.WideShapes Go.ChangeAt Go.RowKit Go.Proofs.Ytodoakeifdiidaa.Eng
theorem good : Go.Proofs.Ytodoakeifdiidaa.Eng.Good Try.prog := good_of (by kernel_rfl) (by kernel_rfl)
theorem own : ownKnob Try.prog.godebug = none := by kernel_rfl
set_option maxRecDepth 100000 in
theorem lifted (os : Os) (started : os.Started) (H : Type) (enc : TypeId × Value → H) :
    ReturnsInHanded {} Try.checked os 7 .any (Rows.waysNoneSpec.pre6 enc Try.prog Try.f7 Rows.waysNoneRow.domain false) (Rows.waysNoneSpec.post enc Try.prog Try.f7 false true false false) := by
  refine returnsInHanded_of_change (C := Try.checked) own started (by kernel_rfl) Try.func7
    (ChangeSpec.witness6 (enc := enc) (C := Try.checked) false ⟨#[], #[.agg #[.int .i64 0, .int .i64 0, .int .i64 0, .bool false]], []⟩ 12 (by kernel_rfl) (by kernel_rfl) (by kernel_rfl) (by kernel_rfl)) ?_
  intro W base args ds gs before hval0 hW _ _
  have hval : ∀ (j : Nat) t v, Try.f7.params[j]? = some t → args[j]? = some v → Value.okWide Try.prog W .any base t v := hval0
  have hW' := hW
  obtain ⟨p, q, hA0, hV, rfl, hfz, hnd⟩ := hW
  have hA : DataW.TrodAll enc Try.prog W 0 (fun _ => true) true Try.f7.params.toList args.toList ds p := hA0
  rw [Try.params7] at hA hval
  obtain ⟨v0, vs0, d0, ds0, p0, q0, hargs, rfl, rfl, h0, r0⟩ := trodAll_cons hA
  obtain ⟨rfl, rfl, rfl⟩ := trodAll_nil r0
  obtain rfl : args = #[v0] := by cases args; simp_all
  obtain ⟨cs0, hl0, rfl, hc0⟩ := okv_cells (P := Try.prog) (n := 4) (ts := [3, 3, 3, 4]) Try.underlying31 (by kernel_rfl) (by kernel_rfl) (hval 0 31 v0 rfl rfl)
  obtain ⟨c0_0, c0_1, c0_2, c0_3, rfl⟩ := len4 hl0
  obtain ⟨x0, rfl, k0⟩ := cell_int_of (P := Try.prog) Try.underlying3 (hc0 0 _ _ rfl rfl)
  obtain ⟨x1, rfl, k1⟩ := cell_int_of (P := Try.prog) Try.underlying3 (hc0 1 _ _ rfl rfl)
  obtain ⟨x2, rfl, k2⟩ := cell_int_of (P := Try.prog) Try.underlying3 (hc0 2 _ _ rfl rfl)
  obtain ⟨x3, rfl⟩ := cell_bool_of (P := Try.prog) Try.underlying4 (hc0 3 _ _ rfl rfl)
  refine (calls_trueO good Go.Proofs.Ytodoakeifdiidaa.G13.known noOwn_nil (Go.Proofs.Ytodoakeifdiidaa.G13.waysNone x0 x1 x2 x3 []) (St.none W) (.cons (.agg (.cons (.int .i64 x0) (.cons (.int .i64 x1) (.cons (.int .i64 x2) (.cons (.bool x3) .nil))))) .nil)).mono fun e W' ⟨he, hg⟩ => ?_
  subst he
  exact ⟨_, rfl, post_law (t := 4) (by kernel_rfl) (by kernel_rfl) (by kernel_rfl) (by kernel_rfl) rfl hW' ⟨rfl, rfl, rfl⟩ hg⟩

theorem over : Rows.waysNoneRow.holds Try.pinned (OpenSpec.ofChange Rows.waysNoneSpec) :=
  OpenClaim.holds_of_wide 7 Try.f7 rfl rfl rfl rfl rfl rfl rfl ⟨rfl, rfl, rfl, rfl, rfl⟩ rfl rfl rfl rfl rfl (by kernel_rfl) Try.func7 (by kernel_rfl)
    (of_decide_eq_true (by kernel_rfl)) (by unfold Func.isWrapper; first | (rw [if_pos (by decide +kernel)]; kernel_rfl) | (rw [if_neg (by decide +kernel)]; exact ⟨rfl, rfl⟩))
    (fun os started H enc _ => lifted os started H enc)
theorem proved : Rows.WaysNoneSaid := over
#print axioms proved
end Go.Proofs.Ytodoakeifdiidaa.waysNone
