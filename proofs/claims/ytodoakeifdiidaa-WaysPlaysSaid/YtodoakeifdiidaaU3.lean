/- Blocks that come into slots, are found, cleaned, dropped: each answer is the document's, at every input. -/
import Derived.Test.YtodoakeifdiidaaY7
import Derived.Test.YtodoakeifdiidaaE5
import Derived.Test.YtodoakeifdiidaaRows
import Derived.WalkKit
import Derived.ProofKit
import Derived.OpenShut
namespace Go.Proofs.Ytodoakeifdiidaa.waysPlays
open Go Go.ChangeShapes Go.WideShapes Go.ChangeAt Go.RowKit Go.Proofs.Ytodoakeifdiidaa.Eng
theorem good : Go.Proofs.Ytodoakeifdiidaa.Eng.Good Try.prog := good_of (by kernel_rfl) (by kernel_rfl)
theorem own : ownKnob Try.prog.godebug = none := by kernel_rfl
set_option maxRecDepth 100000 in
theorem lifted (os : Os) (started : os.Started) (H : Type) (enc : TypeId × Value → H) :
    ReturnsInHanded {} Try.checked os 6 .any (Rows.waysPlaysSpec.pre6 enc Try.prog Try.f6 Rows.waysPlaysRow.domain false) (Rows.waysPlaysSpec.post enc Try.prog Try.f6 false true false false) := by
  refine returnsInHanded_of_change (C := Try.checked) own started (by kernel_rfl) Try.func6
    (ChangeSpec.witness6 (enc := enc) (C := Try.checked) false ⟨#[], #[.agg #[.int .i64 0, .int .i64 0], .slice none 0 0], []⟩ 12 (by kernel_rfl) (by kernel_rfl) (by kernel_rfl) (by kernel_rfl)) ?_
  intro W base args ds gs before hval0 hW _ _
  have hval : ∀ (j : Nat) t v, Try.f6.params[j]? = some t → args[j]? = some v → Value.okWide Try.prog W .any base t v := hval0
  have hW' := hW
  obtain ⟨p, q, hA0, hV, rfl, hfz, hnd⟩ := hW
  have hA : DataW.TrodAll enc Try.prog W 0 (fun _ => true) true Try.f6.params.toList args.toList ds p := hA0
  rw [Try.params6] at hA hval
  obtain ⟨v0, vs0, d0, ds0, p0, q0, hargs, rfl, rfl, h0, r0⟩ := trodAll_cons hA
  obtain ⟨v1, vs1, d1, ds1, p1, q1, rfl, rfl, rfl, h1, r1⟩ := trodAll_cons r0
  obtain ⟨rfl, rfl, rfl⟩ := trodAll_nil r1
  obtain rfl : args = #[v0, v1] := by cases args; simp_all
  obtain ⟨cs0, hl0, rfl, hc0⟩ := okv_cells_arr (P := Try.prog) (n := 2) (ts := [3, 3]) Try.underlying43 (by kernel_rfl) (by kernel_rfl) (hval 0 43 v0 rfl rfl)
  obtain ⟨c0_0, c0_1, rfl⟩ := len2 hl0
  obtain ⟨x0, rfl, k0⟩ := cell_int_of (P := Try.prog) Try.underlying3 (hc0 0 _ _ rfl rfl)
  obtain ⟨x1, rfl, k1⟩ := cell_int_of (P := Try.prog) Try.underlying3 (hc0 1 _ _ rfl rfl)
  have F0 : Flat Try.prog 31 [some .i64, some .i64, some .i64, none] := (flat_fields (fields := [[some .i64], [some .i64], [some .i64], [none]]) Try.underlying31 (by kernel_rfl) (by kernel_rfl) (by
      intro i f ls hf hl
      rcases i with _ | _ | _ | _ | i
      · cases hl; have hf := Option.some.inj hf; subst hf; exact ⟨by kernel_rfl, by kernel_rfl, (flat_int Try.underlying3)⟩
      · cases hl; have hf := Option.some.inj hf; subst hf; exact ⟨by kernel_rfl, by kernel_rfl, (flat_int Try.underlying3)⟩
      · cases hl; have hf := Option.some.inj hf; subst hf; exact ⟨by kernel_rfl, by kernel_rfl, (flat_int Try.underlying3)⟩
      · cases hl; have hf := Option.some.inj hf; subst hf; exact ⟨by kernel_rfl, by kernel_rfl, (flat_bool Try.underlying4)⟩
      · simp at hl))
  obtain ⟨b0, oe0, a0, zs0, B0, ro0⟩ := rows_arg (P := Try.prog) Try.underlying23 (by kernel_rfl) (by decide) F0 (okv_sl (P := Try.prog) Try.underlying23 (hval 1 23 v1 rfl rfl)) h1
  have hs : ∀ x ∈ ([(b0, oe0)] : List (ABlk × Option Ent)), x.1.own = false ∧ ∀ e, x.2 = some e → ∃ o, W.heap[e.blk]? = some o ∧ ∀ φ, BlkRel φ x.1 e o := by
    intro x hx
    simp only [List.mem_cons, List.not_mem_nil, or_false] at hx
    rcases hx with rfl
    · exact ⟨B0.own, B0.blk⟩
  refine (calls_trueO good Go.Proofs.Ytodoakeifdiidaa.G13.known (own_of _ fun x hx => (hs x hx).1) ((Go.Proofs.Ytodoakeifdiidaa.G13.waysPlays x0 x1 (a0 0) zs0 (List.map (fun x : ABlk × Option Ent => x.1) [(b0, oe0)]) (B0.rs _ 0 rfl) ro0).choose_spec) (st_of _ hs) (.cons (.agg (.cons (.int .i64 x0) (.cons (.int .i64 x1) .nil))) (.cons (B0.rel _ 0 rfl) .nil))).mono fun e W' ⟨he, hg⟩ => ?_
  subst he
  exact ⟨_, rfl, post_law (t := 4) (by kernel_rfl) (by kernel_rfl) (by kernel_rfl) (by kernel_rfl) rfl hW' ⟨rfl, rfl, rfl⟩ hg⟩

theorem over : Rows.waysPlaysRow.holds Try.pinned (OpenSpec.ofChange Rows.waysPlaysSpec) :=
  OpenClaim.holds_of_wide 6 Try.f6 rfl rfl rfl rfl rfl rfl rfl ⟨rfl, rfl, rfl, rfl, rfl⟩ rfl rfl rfl rfl rfl (by kernel_rfl) Try.func6 (by kernel_rfl)
    (of_decide_eq_true (by kernel_rfl)) (by unfold Func.isWrapper; first | (rw [if_pos (by decide +kernel)]; kernel_rfl) | (rw [if_neg (by decide +kernel)]; exact ⟨rfl, rfl⟩))
    (fun os started H enc _ => lifted os started H enc)
theorem proved : Rows.WaysPlaysSaid := over
#print axioms proved
end Go.Proofs.Ytodoakeifdiidaa.waysPlays
