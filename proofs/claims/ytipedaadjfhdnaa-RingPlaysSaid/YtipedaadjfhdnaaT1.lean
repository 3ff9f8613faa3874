/- The document's ring and the program's answer alike, whatever is appended, replayed, crashed or overwritten, for every argument of the statement. -/
import Derived.Test.YtipedaadjfhdnaaIC
import Derived.Test.YtipedaadjfhdnaaE6
import Derived.Test.YtipedaadjfhdnaaRows
import Derived.WalkKit
import Derived.ProofKit
import Derived.OpenShut
namespace Go.Proofs.Ytipedaadjfhdnaa.ringPlays
open Go Go.ChangeShapes Go.WideShapes Go.ChangeAt Go.RowKit Go.Proofs.Ytipedaadjfhdnaa.Eng
theorem imp3 : Imp Try.prog 3 [.int .i64] := imp_int Try.underlying3
theorem imp99 : Imp Try.prog 99 [.int .i64, .int .i64] := imp_array (n := 2) Try.underlying99 (by kernel_rfl) (by kernel_rfl) imp3
theorem imp43 : Imp Try.prog 43 [.sl [.int .i64, .int .i64]] := imp_slice Try.underlying43 (by kernel_rfl) (by decide) imp99
theorem imp5 : Imp Try.prog 5 [.int .u8] := imp_int Try.underlying5
theorem imp59 : Imp Try.prog 59 [.sl [.int .u8]] := imp_slice Try.underlying59 (by kernel_rfl) (by decide) imp5
theorem imp4 : Imp Try.prog 4 [.bool] := imp_bool Try.underlying4
theorem imp61 : Imp Try.prog 61 [.int .i64, .int .i64, .sl [.int .i64, .int .i64], .sl [.int .u8], .bool] := imp_struct (fields := [[.int .i64], [.int .i64], [.sl [.int .i64, .int .i64]], [.sl [.int .u8]], [.bool]]) Try.underlying61 (by kernel_rfl) (by kernel_rfl) (by
  intro i f ls hf hl
  rcases i with _ | _ | _ | _ | _ | i
  ·cases hl; have hf := Option.some.inj hf; subst hf; exact ⟨by kernel_rfl, by kernel_rfl, imp3⟩
  ·cases hl; have hf := Option.some.inj hf; subst hf; exact ⟨by kernel_rfl, by kernel_rfl, imp3⟩
  ·cases hl; have hf := Option.some.inj hf; subst hf; exact ⟨by kernel_rfl, by kernel_rfl, imp43⟩
  ·cases hl; have hf := Option.some.inj hf; subst hf; exact ⟨by kernel_rfl, by kernel_rfl, imp59⟩
  ·cases hl; have hf := Option.some.inj hf; subst hf; exact ⟨by kernel_rfl, by kernel_rfl, imp4⟩
  ·simp at hl)
theorem imp54 : Imp Try.prog 54 [.sl [.int .i64, .int .i64, .sl [.int .i64, .int .i64], .sl [.int .u8], .bool]] := imp_slice Try.underlying54 (by kernel_rfl) (by decide) imp61
theorem good : Go.Proofs.Ytipedaadjfhdnaa.Eng.Good Try.prog := good_of (by kernel_rfl) (by kernel_rfl)
theorem own : ownKnob Try.prog.godebug = none := by kernel_rfl
set_option maxRecDepth 100000 in
theorem lifted (os : Os) (started : os.Started) (H : Type) (enc : TypeId × Value → H) :
  ReturnsInHanded {} Try.checked os 6 .any (Rows.ringPlaysSpec.pre6 enc Try.prog Try.f6 Rows.ringPlaysRow.domain false) (Rows.ringPlaysSpec.post enc Try.prog Try.f6 false true false false) := by
 refine returnsInHanded_of_change (C := Try.checked) own started (by kernel_rfl) Try.func6
  (ChangeSpec.witness6 (enc := enc) (C := Try.checked) false ⟨#[], #[.agg #[.int .i64 0, .int .i64 0, .int .i64 0], .slice none 0 0], []⟩ 12 (by kernel_rfl) (by kernel_rfl) (by kernel_rfl) (by kernel_rfl)) ?_
 intro W base args ds gs before hval0 hW _ _
 have hval : ∀ (j : Nat) t v, Try.f6.params[j]? = some t → args[j]? = some v → Value.okWide Try.prog W .any base t v := hval0
 have hW' := hW
 obtain ⟨p, q, hA0, hV, rfl, hfz, hnd⟩ := hW
 have hA : DataW.TrodAll enc Try.prog W 0 (fun _ => true) true Try.f6.params.toList args.toList ds p := hA0
 rw [Try.params6] at hA hval
 obtain ⟨v0, vs0, d0, ds0, p0, q0, hargs, rfl, rfl, h0, r0⟩ := trodAll_cons hA
 obtain ⟨v1, vs1, d1, ds1, p1, q1, rfl, rfl, rfl, h1, r1⟩ := trodAll_cons r0
 obtain ⟨rfl, rfl, rfl⟩ := trodAll_nil r1
 obtain rfl : args = #[v0, v1] := by cases args; simp_all
 obtain ⟨cs0, hl0, rfl, hc0⟩ := okv_cells_arr (P := Try.prog) (n := 3) (ts := [3, 3, 3]) Try.underlying53 (by kernel_rfl) (by kernel_rfl) (hval 0 53 v0 rfl rfl)
 obtain ⟨c0_0, c0_1, c0_2, rfl⟩ := len3 hl0
 obtain ⟨x0, rfl, k0⟩ := cell_int_of (P := Try.prog) Try.underlying3 (hc0 0 _ _ rfl rfl)
 obtain ⟨x1, rfl, k1⟩ := cell_int_of (P := Try.prog) Try.underlying3 (hc0 1 _ _ rfl rfl)
 obtain ⟨x2, rfl, k2⟩ := cell_int_of (P := Try.prog) Try.underlying3 (hc0 2 _ _ rfl rfl)
 obtain ⟨B0, a0, g0⟩ := imp_arg imp54 (okv_sl (P := Try.prog) Try.underlying54 (hval 1 54 v1 rfl rfl)) h1 0
 have G0 := g0
 have R := G0.rel (fun i => ((B0)[i]?).map (·.2)) (fun i be h => by rw [Nat.zero_add]; simp only [h, Option.map_some])
 have D := G0.dat ((B0).map (·.1)) (fun i be h => by rw [Nat.zero_add, List.getElem?_map, h]; rfl)
 refine (calls_trueO good Go.Proofs.Ytipedaadjfhdnaa.G06.known (own_got _ G0.own) ((Go.Proofs.Ytipedaadjfhdnaa.G06.ringPlays x0 x1 x2 a0 ((B0).map (·.1)) D.head).choose_spec) (st_got W _ G0.own fun φ hφ => G0.blk φ fun i be h => by rw [Nat.zero_add]; exact hφ i be h) (.cons (.agg (.cons (.int .i64 x0) (.cons (.int .i64 x1) (.cons (.int .i64 x2) .nil)))) (.cons (rels_head R) .nil))).mono fun e W' ⟨he, hg⟩ => ?_
 subst he
 exact ⟨_, rfl, post_law (t := 4) (by kernel_rfl) (by kernel_rfl) (by kernel_rfl) (by kernel_rfl) rfl hW' ⟨rfl, rfl, rfl⟩ hg⟩
theorem over : Rows.ringPlaysRow.holds Try.pinned (OpenSpec.ofChange Rows.ringPlaysSpec) :=
 OpenClaim.holds_of_wide 6 Try.f6 rfl rfl rfl rfl rfl rfl rfl ⟨rfl, rfl, rfl, rfl, rfl⟩ rfl rfl rfl rfl rfl (by kernel_rfl) Try.func6 (by kernel_rfl)
  (of_decide_eq_true (by kernel_rfl)) (by unfold Func.isWrapper; first | (rw [if_pos (by decide +kernel)]; kernel_rfl) | (rw [if_neg (by decide +kernel)]; exact ⟨rfl, rfl⟩))
  (fun os started H enc _ => lifted os started H enc)
theorem proved : Rows.RingPlaysSaid := over
#print axioms proved
end Go.Proofs.Ytipedaadjfhdnaa.ringPlays
