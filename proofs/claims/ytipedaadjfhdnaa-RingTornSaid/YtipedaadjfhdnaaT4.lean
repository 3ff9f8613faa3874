/- Whatever a crash leaves of an Append that was cut, Replay tells all that were ahead, and that one whole, or not at all; one more behind it is told, too: for every argument of the statement. -/
import Derived.Test.YtipedaadjfhdnaaJA
import Derived.Test.YtipedaadjfhdnaaE6
import Derived.Test.YtipedaadjfhdnaaRows
import Derived.WalkKit
import Derived.ProofKit
import Derived.OpenShut
namespace Go.Proofs.Ytipedaadjfhdnaa.ringTorn
open Go Go.ChangeShapes Go.WideShapes Go.ChangeAt Go.RowKit Go.Proofs.Ytipedaadjfhdnaa.Eng
theorem imp3 : Imp Try.prog 3 [.int .i64] := imp_int Try.underlying3
theorem imp99 : Imp Try.prog 99 [.int .i64, .int .i64] := imp_array (n := 2) Try.underlying99 (by kernel_rfl) (by kernel_rfl) imp3
theorem imp43 : Imp Try.prog 43 [.sl [.int .i64, .int .i64]] := imp_slice Try.underlying43 (by kernel_rfl) (by decide) imp99
theorem imp41 : Imp Try.prog 41 [.sl [.sl [.int .i64, .int .i64]]] := imp_slice Try.underlying41 (by kernel_rfl) (by decide) imp43
theorem imp5 : Imp Try.prog 5 [.int .u8] := imp_int Try.underlying5
theorem imp59 : Imp Try.prog 59 [.sl [.int .u8]] := imp_slice Try.underlying59 (by kernel_rfl) (by decide) imp5
theorem good : Go.Proofs.Ytipedaadjfhdnaa.Eng.Good Try.prog := good_of (by kernel_rfl) (by kernel_rfl)
theorem own : ownKnob Try.prog.godebug = none := by kernel_rfl
set_option maxRecDepth 100000 in
theorem lifted (os : Os) (started : os.Started) (H : Type) (enc : TypeId × Value → H) :
  ReturnsInHanded {} Try.checked os 7 .any (Rows.ringTornSpec.pre6 enc Try.prog Try.f7 Rows.ringTornRow.domain false) (Rows.ringTornSpec.post enc Try.prog Try.f7 false true false false) := by
 refine returnsInHanded_of_change (C := Try.checked) own started (by kernel_rfl) Try.func7
  (ChangeSpec.witness6 (enc := enc) (C := Try.checked) false ⟨#[], #[.agg #[.slice none 0 0, .slice none 0 0, .int .u8 0, .slice none 0 0, .slice none 0 0]], []⟩ 12 (by kernel_rfl) (by kernel_rfl) (by kernel_rfl) (by kernel_rfl)) ?_
 intro W base args ds gs before hval0 hW _ _
 have hval : ∀ (j : Nat) t v, Try.f7.params[j]? = some t → args[j]? = some v → Value.okWide Try.prog W .any base t v := hval0
 have hW' := hW
 obtain ⟨p, q, hA0, hV, rfl, hfz, hnd⟩ := hW
 have hA : DataW.TrodAll enc Try.prog W 0 (fun _ => true) true Try.f7.params.toList args.toList ds p := hA0
 rw [Try.params7] at hA hval
 obtain ⟨v0, vs0, d0, ds0, p0, q0, hargs, rfl, rfl, h0, r0⟩ := trodAll_cons hA
 obtain ⟨rfl, rfl, rfl⟩ := trodAll_nil r0
 obtain rfl : args = #[v0] := by cases args; simp_all
 obtain ⟨cs0, hl0, rfl, hc0⟩ := okv_cells (P := Try.prog) (n := 5) (ts := [41, 43, 5, 59, 43]) Try.underlying83 (by kernel_rfl) (by kernel_rfl) (hval 0 83 v0 rfl rfl)
 obtain ⟨c0_0, c0_1, c0_2, c0_3, c0_4, rfl⟩ := len5 hl0
 have g0_0 : OkSl W c0_0 := cell_sl_of (P := Try.prog) Try.underlying41 (hc0 0 _ _ rfl rfl)
 obtain ⟨dd0_0, pp0_0, t0_0⟩ := trod_fld (P := Try.prog) Try.underlying83 0 rfl rfl (by kernel_rfl) h0 _ rfl g0_0
 obtain ⟨B0, a0, g0⟩ := imp_arg imp41 (cell_sl_of (P := Try.prog) Try.underlying41 (hc0 0 _ _ rfl rfl)) t0_0 0
 have G0 := g0
 have g0_1 : OkSl W c0_1 := cell_sl_of (P := Try.prog) Try.underlying43 (hc0 1 _ _ rfl rfl)
 obtain ⟨dd0_1, pp0_1, t0_1⟩ := trod_fld (P := Try.prog) Try.underlying83 1 rfl rfl (by kernel_rfl) h0 _ rfl g0_1
 obtain ⟨B1, a1, g1⟩ := imp_arg imp43 (cell_sl_of (P := Try.prog) Try.underlying43 (hc0 1 _ _ rfl rfl)) t0_1 (0 + (B0).length)
 have G1 := G0.app g1
 obtain ⟨x2, rfl, k2⟩ := cell_int_of (P := Try.prog) Try.underlying5 (hc0 2 _ _ rfl rfl)
 have g0_3 : OkSl W c0_3 := cell_sl_of (P := Try.prog) Try.underlying59 (hc0 3 _ _ rfl rfl)
 obtain ⟨dd0_3, pp0_3, t0_3⟩ := trod_fld (P := Try.prog) Try.underlying83 3 rfl rfl (by kernel_rfl) h0 _ rfl g0_3
 obtain ⟨B2, a2, g2⟩ := imp_arg imp59 (cell_sl_of (P := Try.prog) Try.underlying59 (hc0 3 _ _ rfl rfl)) t0_3 (0 + (B0 ++ B1).length)
 have G2 := G1.app g2
 have g0_4 : OkSl W c0_4 := cell_sl_of (P := Try.prog) Try.underlying43 (hc0 4 _ _ rfl rfl)
 obtain ⟨dd0_4, pp0_4, t0_4⟩ := trod_fld (P := Try.prog) Try.underlying83 4 rfl rfl (by kernel_rfl) h0 _ rfl g0_4
 obtain ⟨B3, a3, g3⟩ := imp_arg imp43 (cell_sl_of (P := Try.prog) Try.underlying43 (hc0 4 _ _ rfl rfl)) t0_4 (0 + (B0 ++ B1 ++ B2).length)
 have G3 := G2.app g3
 have R := G3.rel (fun i => ((B0 ++ B1 ++ B2 ++ B3)[i]?).map (·.2)) (fun i be h => by rw [Nat.zero_add]; simp only [h, Option.map_some])
 have D := G3.dat ((B0 ++ B1 ++ B2 ++ B3).map (·.1)) (fun i be h => by rw [Nat.zero_add, List.getElem?_map, h]; rfl)
 refine (calls_trueO good Go.Proofs.Ytipedaadjfhdnaa.G06.known (own_got _ G3.own) ((Go.Proofs.Ytipedaadjfhdnaa.G06.ringTorn a0 a1 x2 a2 a3 k2 ((B0 ++ B1 ++ B2 ++ B3).map (·.1)) D.head D.tail.head D.tail.tail.head D.tail.tail.tail.head).choose_spec) (st_got W _ G3.own fun φ hφ => G3.blk φ fun i be h => by rw [Nat.zero_add]; exact hφ i be h) (.cons (.agg (.cons (rels_head R) (.cons (rels_head (rels_tail R)) (.cons (.int .u8 x2) (.cons (rels_head (rels_tail (rels_tail R))) (.cons (rels_head (rels_tail (rels_tail (rels_tail R)))) .nil)))))) .nil)).mono fun e W' ⟨he, hg⟩ => ?_
 subst he
 exact ⟨_, rfl, post_law (t := 4) (by kernel_rfl) (by kernel_rfl) (by kernel_rfl) (by kernel_rfl) rfl hW' ⟨rfl, rfl, rfl⟩ hg⟩
theorem over : Rows.ringTornRow.holds Try.pinned (OpenSpec.ofChange Rows.ringTornSpec) :=
 OpenClaim.holds_of_wide 7 Try.f7 rfl rfl rfl rfl rfl rfl rfl ⟨rfl, rfl, rfl, rfl, rfl⟩ rfl rfl rfl rfl rfl (by kernel_rfl) Try.func7 (by kernel_rfl)
  (of_decide_eq_true (by kernel_rfl)) (by unfold Func.isWrapper; first | (rw [if_pos (by decide +kernel)]; kernel_rfl) | (rw [if_neg (by decide +kernel)]; exact ⟨rfl, rfl⟩))
  (fun os started H enc _ => lifted os started H enc)
theorem proved : Rows.RingTornSaid := over
#print axioms proved
end Go.Proofs.Ytipedaadjfhdnaa.ringTorn
