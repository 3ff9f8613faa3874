/- At every step RigNone returns true and leaves its argument as it was. No condition. -/
import Derived.Test.YthjkfincekckhaaL2
import Derived.Test.YthjkfincekckhaaE4
import Derived.Test.YthjkfincekckhaaRows
import Derived.WalkKit
import Derived.ProofKit
import Derived.OpenShut
namespace Go.Proofs.Ythjkfincekckhaa.rigNone
open Go Go.ChangeShapes Go.WideShapes Go.ChangeAt Go.RowKit Go.Proofs.Ythjkfincekckhaa.Eng
theorem good : Go.Proofs.Ythjkfincekckhaa.Eng.Good Try.prog := good_of (by kernel_rfl) (by kernel_rfl)
theorem own : ownKnob Try.prog.godebug = none := by kernel_rfl
set_option maxRecDepth 100000 in
theorem lifted (os : Os) (started : os.Started) (H : Type) (enc : TypeId × Value → H) :
    ReturnsInHanded {} Try.checked os 5 .any (Rows.rigNoneSpec.pre6 enc Try.prog Try.f5 Rows.rigNoneRow.domain false) (Rows.rigNoneSpec.post enc Try.prog Try.f5 false true false false) := by
  refine returnsInHanded_of_change (C := Try.checked) own started (by kernel_rfl) Try.func5
    (ChangeSpec.witness6 (enc := enc) (C := Try.checked) false ⟨#[], #[.agg #[.int .i64 0, .int .i64 0, .int .i64 0, .int .u8 0, .slice none 0 0, .slice none 0 0]], []⟩ 12 (by kernel_rfl) (by kernel_rfl) (by kernel_rfl) (by kernel_rfl)) ?_
  intro W base args ds gs before hval0 hW _ _
  have hval : ∀ (j : Nat) t v, Try.f5.params[j]? = some t → args[j]? = some v → Value.okWide Try.prog W .any base t v := hval0
  have hW' := hW
  obtain ⟨p, q, hA0, hV, rfl, hfz, hnd⟩ := hW
  have hA : DataW.TrodAll enc Try.prog W 0 (fun _ => true) true Try.f5.params.toList args.toList ds p := hA0
  rw [Try.params5] at hA hval
  obtain ⟨v0, vs0, d0, ds0, p0, q0, hargs, rfl, rfl, h0, r0⟩ := trodAll_cons hA
  obtain ⟨rfl, rfl, rfl⟩ := trodAll_nil r0
  obtain rfl : args = #[v0] := by cases args; simp_all
  obtain ⟨cs0, hl0, rfl, hc0⟩ := okv_cells (P := Try.prog) (n := 6) (ts := [3, 3, 3, 5, 33, 33]) Try.underlying35 (by kernel_rfl) (by kernel_rfl) (hval 0 35 v0 rfl rfl)
  obtain ⟨c0_0, c0_1, c0_2, c0_3, c0_4, c0_5, rfl⟩ := len6 hl0
  obtain ⟨x0, rfl, k0⟩ := cell_int_of (P := Try.prog) Try.underlying3 (hc0 0 _ _ rfl rfl)
  obtain ⟨x1, rfl, k1⟩ := cell_int_of (P := Try.prog) Try.underlying3 (hc0 1 _ _ rfl rfl)
  obtain ⟨x2, rfl, k2⟩ := cell_int_of (P := Try.prog) Try.underlying3 (hc0 2 _ _ rfl rfl)
  obtain ⟨x3, rfl, k3⟩ := cell_int_of (P := Try.prog) Try.underlying5 (hc0 3 _ _ rfl rfl)
  have s0 := cell_sl_of (P := Try.prog) Try.underlying33 (hc0 4 _ _ rfl rfl)
  have s1 := cell_sl_of (P := Try.prog) Try.underlying33 (hc0 5 _ _ rfl rfl)
  have hs : ∀ v ∈ [c0_4, c0_5], OkSl W v := by
    intro v hv
    simp only [List.mem_cons, List.not_mem_nil, or_false] at hv
    rcases hv with rfl | rfl
    · exact s0
    · exact s1
  refine (calls_trueO good Go.Proofs.Ythjkfincekckhaa.G04.known (sls_own _) ((Go.Proofs.Ythjkfincekckhaa.G04.rigNone x0 x1 x2 x3 (slA_is _ _ _) (slA_is _ _ _) (List.replicate 2 .dead)).choose_spec) (sls_st (sz := 1) hs) (.cons (.agg (.cons (.int .i64 x0) (.cons (.int .i64 x1) (.cons (.int .i64 x2) (.cons (.int .u8 x3) (.cons (sls_rel hs 0 _ rfl) (.cons (sls_rel hs 1 _ rfl) .nil))))))) .nil)).mono fun e W' ⟨he, hg⟩ => ?_
  subst he
  exact ⟨_, rfl, post_law (t := 4) (by kernel_rfl) (by kernel_rfl) (by kernel_rfl) (by kernel_rfl) rfl hW' ⟨rfl, rfl, rfl⟩ hg⟩

theorem over : Rows.rigNoneRow.holds Try.pinned (OpenSpec.ofChange Rows.rigNoneSpec) :=
  OpenClaim.holds_of_wide 5 Try.f5 rfl rfl rfl rfl rfl rfl rfl ⟨rfl, rfl, rfl, rfl, rfl⟩ rfl rfl rfl rfl rfl (by kernel_rfl) Try.func5 (by kernel_rfl)
    (of_decide_eq_true (by kernel_rfl)) (by unfold Func.isWrapper; first | (rw [if_pos (by decide +kernel)]; kernel_rfl) | (rw [if_neg (by decide +kernel)]; exact ⟨rfl, rfl⟩))
    (fun os started H enc _ => lifted os started H enc)
theorem proved : Rows.RigNoneSaid := over
#print axioms proved
end Go.Proofs.Ythjkfincekckhaa.rigNone
