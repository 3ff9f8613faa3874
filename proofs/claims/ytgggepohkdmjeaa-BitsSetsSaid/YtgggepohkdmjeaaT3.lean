/- What is put in is in, and nothing else; both together have what either has. -/
import Derived.Test.YtgggepohkdmjeaaLF
import Derived.Test.YtgggepohkdmjeaaE5
import Derived.Test.YtgggepohkdmjeaaRows
import Derived.WalkKit
import Derived.ProofKit
import Derived.OpenShut
namespace Go.Proofs.Ytgggepohkdmjeaa.bitsSets
open Go Go.ChangeShapes Go.WideShapes Go.ChangeAt Go.RowKit Go.Proofs.Ytgggepohkdmjeaa.Eng
theorem good : Go.Proofs.Ytgggepohkdmjeaa.Eng.Good Try.prog := good_of (by kernel_rfl) (by kernel_rfl)
theorem own : ownKnob Try.prog.godebug = none := by kernel_rfl
set_option maxRecDepth 100000 in
theorem lifted (os : Os) (started : os.Started) (H : Type) (enc : TypeId × Value → H) :
    ReturnsInHanded {} Try.checked os 4 .any (Rows.bitsSetsSpec.pre6 enc Try.prog Try.f4 Rows.bitsSetsRow.domain false) (Rows.bitsSetsSpec.post enc Try.prog Try.f4 false true false false) := by
  refine returnsInHanded_of_change (C := Try.checked) own started (by kernel_rfl) Try.func4
    (ChangeSpec.witness6 (enc := enc) (C := Try.checked) false ⟨#[], #[.int .u8 0, .slice none 0 0, .agg #[.slice none 0 0, .slice none 0 0]], []⟩ 12 (by kernel_rfl) (by kernel_rfl) (by kernel_rfl) (by kernel_rfl)) ?_
  intro W base args ds gs before hval0 hW _ _
  have hval : ∀ (j : Nat) t v, Try.f4.params[j]? = some t → args[j]? = some v → Value.okWide Try.prog W .any base t v := hval0
  have hW' := hW
  obtain ⟨p, q, hA0, hV, rfl, hfz, hnd⟩ := hW
  have hA : DataW.TrodAll enc Try.prog W 0 (fun _ => true) true Try.f4.params.toList args.toList ds p := hA0
  rw [Try.params4] at hA hval
  obtain ⟨v0, vs0, d0, ds0, p0, q0, hargs, rfl, rfl, h0, r0⟩ := trodAll_cons hA
  obtain ⟨v1, vs1, d1, ds1, p1, q1, rfl, rfl, rfl, h1, r1⟩ := trodAll_cons r0
  obtain ⟨v2, vs2, d2, ds2, p2, q2, rfl, rfl, rfl, h2, r2⟩ := trodAll_cons r1
  obtain ⟨rfl, rfl, rfl⟩ := trodAll_nil r2
  obtain rfl : args = #[v0, v1, v2] := by cases args; simp_all
  obtain ⟨x0, rfl, k0⟩ := okv_int (P := Try.prog) Try.underlying5 (hval 0 5 v0 rfl rfl)
  obtain ⟨b0, oe0, a0, zs0, B0⟩ := bytes_arg (P := Try.prog) Try.underlying22 Try.underlying5 (by kernel_rfl) (okv_sl (P := Try.prog) Try.underlying22 (hval 1 22 v1 rfl rfl)) h1
  obtain ⟨cs2, hl2, rfl, hc2⟩ := okv_cells_arr (P := Try.prog) (n := 2) (ts := [22, 22]) Try.underlying35 (by kernel_rfl) (by kernel_rfl) (hval 2 35 v2 rfl rfl)
  obtain ⟨c2_0, c2_1, rfl⟩ := len2 hl2
  have g2_0 : OkSl W c2_0 := cell_sl_of (P := Try.prog) Try.underlying22 (hc2 0 _ _ rfl rfl)
  obtain ⟨dd2_0, pp2_0, t2_0⟩ := trod_slot (P := Try.prog) Try.underlying35 (by kernel_rfl) h2 0 (by decide) _ rfl g2_0
  obtain ⟨b1, oe1, a1, zs1, B1⟩ := bytes_arg (P := Try.prog) Try.underlying22 Try.underlying5 (by kernel_rfl) (cell_sl_of (P := Try.prog) Try.underlying22 (hc2 0 _ _ rfl rfl)) t2_0
  have g2_1 : OkSl W c2_1 := cell_sl_of (P := Try.prog) Try.underlying22 (hc2 1 _ _ rfl rfl)
  obtain ⟨dd2_1, pp2_1, t2_1⟩ := trod_slot (P := Try.prog) Try.underlying35 (by kernel_rfl) h2 1 (by decide) _ rfl g2_1
  obtain ⟨b2, oe2, a2, zs2, B2⟩ := bytes_arg (P := Try.prog) Try.underlying22 Try.underlying5 (by kernel_rfl) (cell_sl_of (P := Try.prog) Try.underlying22 (hc2 1 _ _ rfl rfl)) t2_1
  have hs : ∀ x ∈ ([(b0, oe0), (b1, oe1), (b2, oe2)] : List (ABlk × Option Ent)), x.1.own = false ∧ ∀ e, x.2 = some e → ∃ o, W.heap[e.blk]? = some o ∧ ∀ φ, BlkRel φ x.1 e o := by
    intro x hx
    simp only [List.mem_cons, List.not_mem_nil, or_false] at hx
    rcases hx with rfl | rfl | rfl
    · exact ⟨B0.own, B0.blk⟩
    · exact ⟨B1.own, B1.blk⟩
    · exact ⟨B2.own, B2.blk⟩
  refine (calls_trueO good Go.Proofs.Ytgggepohkdmjeaa.G09.known (own_of _ fun x hx => (hs x hx).1) ((Go.Proofs.Ytgggepohkdmjeaa.G09.bitsSets x0 (a0 0) (a1 1) (a2 2) zs0 zs1 zs2 (List.map (fun x : ABlk × Option Ent => x.1) [(b0, oe0), (b1, oe1), (b2, oe2)]) k0 (B0.bs _ 0 rfl) (B1.bs _ 1 rfl) (B2.bs _ 2 rfl) B0.u8 B1.u8 B2.u8).choose_spec) (st_of _ hs) (.cons (.int .u8 x0) (.cons (B0.rel _ 0 rfl) (.cons (.agg (.cons (B1.rel _ 1 rfl) (.cons (B2.rel _ 2 rfl) .nil))) .nil)))).mono fun e W' ⟨he, hg⟩ => ?_
  subst he
  exact ⟨_, rfl, post_law (t := 4) (by kernel_rfl) (by kernel_rfl) (by kernel_rfl) (by kernel_rfl) rfl hW' ⟨rfl, rfl, rfl⟩ hg⟩

theorem over : Rows.bitsSetsRow.holds Try.pinned (OpenSpec.ofChange Rows.bitsSetsSpec) :=
  OpenClaim.holds_of_wide 4 Try.f4 rfl rfl rfl rfl rfl rfl rfl ⟨rfl, rfl, rfl, rfl, rfl⟩ rfl rfl rfl rfl rfl (by kernel_rfl) Try.func4 (by kernel_rfl)
    (of_decide_eq_true (by kernel_rfl)) (by unfold Func.isWrapper; first | (rw [if_pos (by decide +kernel)]; kernel_rfl) | (rw [if_neg (by decide +kernel)]; exact ⟨rfl, rfl⟩))
    (fun os started H enc _ => lifted os started H enc)
theorem proved : Rows.BitsSetsSaid := over
#print axioms proved
end Go.Proofs.Ytgggepohkdmjeaa.bitsSets
