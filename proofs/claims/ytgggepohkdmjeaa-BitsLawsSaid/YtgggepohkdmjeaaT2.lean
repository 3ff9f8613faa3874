/- Sets of bits: together in any order, with itself the same; what is in, put in, is in once. -/
import Derived.Test.YtgggepohkdmjeaaLC
import Derived.Test.YtgggepohkdmjeaaE4
import Derived.Test.YtgggepohkdmjeaaRows
import Derived.WalkKit
import Derived.ProofKit
import Derived.OpenShut
namespace Go.Proofs.Ytgggepohkdmjeaa.bitsLaws
open Go Go.ChangeShapes Go.WideShapes Go.ChangeAt Go.RowKit Go.Proofs.Ytgggepohkdmjeaa.Eng
theorem good : Go.Proofs.Ytgggepohkdmjeaa.Eng.Good Try.prog := good_of (by kernel_rfl) (by kernel_rfl)
theorem own : ownKnob Try.prog.godebug = none := by kernel_rfl
set_option maxRecDepth 100000 in
theorem lifted (os : Os) (started : os.Started) (H : Type) (enc : TypeId × Value → H) :
    ReturnsInHanded {} Try.checked os 5 .any (Rows.bitsLawsSpec.pre6 enc Try.prog Try.f5 Rows.bitsLawsRow.domain false) (Rows.bitsLawsSpec.post enc Try.prog Try.f5 false true false false) := by
  refine returnsInHanded_of_change (C := Try.checked) own started (by kernel_rfl) Try.func5
    (ChangeSpec.witness6 (enc := enc) (C := Try.checked) false ⟨#[], #[.slice none 0 0, .slice none 0 0, .slice none 0 0], []⟩ 12 (by kernel_rfl) (by kernel_rfl) (by kernel_rfl) (by kernel_rfl)) ?_
  intro W base args ds gs before hval0 hW _ _
  have hval : ∀ (j : Nat) t v, Try.f5.params[j]? = some t → args[j]? = some v → Value.okWide Try.prog W .any base t v := hval0
  have hW' := hW
  obtain ⟨p, q, hA0, hV, rfl, hfz, hnd⟩ := hW
  have hA : DataW.TrodAll enc Try.prog W 0 (fun _ => true) true Try.f5.params.toList args.toList ds p := hA0
  rw [Try.params5] at hA hval
  obtain ⟨v0, vs0, d0, ds0, p0, q0, hargs, rfl, rfl, h0, r0⟩ := trodAll_cons hA
  obtain ⟨v1, vs1, d1, ds1, p1, q1, rfl, rfl, rfl, h1, r1⟩ := trodAll_cons r0
  obtain ⟨v2, vs2, d2, ds2, p2, q2, rfl, rfl, rfl, h2, r2⟩ := trodAll_cons r1
  obtain ⟨rfl, rfl, rfl⟩ := trodAll_nil r2
  obtain rfl : args = #[v0, v1, v2] := by cases args; simp_all
  obtain ⟨b0, oe0, a0, zs0, B0⟩ := bytes_arg (P := Try.prog) Try.underlying22 Try.underlying5 (by kernel_rfl) (okv_sl (P := Try.prog) Try.underlying22 (hval 0 22 v0 rfl rfl)) h0
  obtain ⟨b1, oe1, a1, zs1, B1⟩ := bytes_arg (P := Try.prog) Try.underlying22 Try.underlying5 (by kernel_rfl) (okv_sl (P := Try.prog) Try.underlying22 (hval 1 22 v1 rfl rfl)) h1
  obtain ⟨b2, oe2, a2, zs2, B2⟩ := bytes_arg (P := Try.prog) Try.underlying22 Try.underlying5 (by kernel_rfl) (okv_sl (P := Try.prog) Try.underlying22 (hval 2 22 v2 rfl rfl)) h2
  have hs : ∀ x ∈ ([(b0, oe0), (b1, oe1), (b2, oe2)] : List (ABlk × Option Ent)), x.1.own = false ∧ ∀ e, x.2 = some e → ∃ o, W.heap[e.blk]? = some o ∧ ∀ φ, BlkRel φ x.1 e o := by
    intro x hx
    simp only [List.mem_cons, List.not_mem_nil, or_false] at hx
    rcases hx with rfl | rfl | rfl
    · exact ⟨B0.own, B0.blk⟩
    · exact ⟨B1.own, B1.blk⟩
    · exact ⟨B2.own, B2.blk⟩
  refine (calls_trueO good Go.Proofs.Ytgggepohkdmjeaa.G09.known (own_of _ fun x hx => (hs x hx).1) ((Go.Proofs.Ytgggepohkdmjeaa.G09.bitsLaws (a0 0) (a1 1) (a2 2) zs0 zs1 zs2 (List.map (fun x : ABlk × Option Ent => x.1) [(b0, oe0), (b1, oe1), (b2, oe2)]) (B0.bs _ 0 rfl) (B1.bs _ 1 rfl) (B2.bs _ 2 rfl) B0.u8 B1.u8 B2.u8).choose_spec) (st_of _ hs) (.cons (B0.rel _ 0 rfl) (.cons (B1.rel _ 1 rfl) (.cons (B2.rel _ 2 rfl) .nil)))).mono fun e W' ⟨he, hg⟩ => ?_
  subst he
  exact ⟨_, rfl, post_law (t := 4) (by kernel_rfl) (by kernel_rfl) (by kernel_rfl) (by kernel_rfl) rfl hW' ⟨rfl, rfl, rfl⟩ hg⟩

theorem over : Rows.bitsLawsRow.holds Try.pinned (OpenSpec.ofChange Rows.bitsLawsSpec) :=
  OpenClaim.holds_of_wide 5 Try.f5 rfl rfl rfl rfl rfl rfl rfl ⟨rfl, rfl, rfl, rfl, rfl⟩ rfl rfl rfl rfl rfl (by kernel_rfl) Try.func5 (by kernel_rfl)
    (of_decide_eq_true (by kernel_rfl)) (by unfold Func.isWrapper; first | (rw [if_pos (by decide +kernel)]; kernel_rfl) | (rw [if_neg (by decide +kernel)]; exact ⟨rfl, rfl⟩))
    (fun os started H enc _ => lifted os started H enc)
theorem proved : Rows.BitsLawsSaid := over
#print axioms proved
end Go.Proofs.Ytgggepohkdmjeaa.bitsLaws
