/- With one byte of a transaction's sectors turned that one, and all behind it, are not told; all ahead of it are: for every argument of the statement. -/
import Derived.Test.YtipedaadjfhdnaaJA
import Derived.Test.YtipedaadjfhdnaaE6
import Derived.Test.YtipedaadjfhdnaaRows
import Derived.WalkKit
import Derived.ProofKit
import Derived.OpenShut
namespace Go.Proofs.Ytipedaadjfhdnaa.ringSpoilt
open Go Go.ChangeShapes Go.WideShapes Go.ChangeAt Go.RowKit Go.Proofs.Ytipedaadjfhdnaa.Eng
theorem imp3 : Imp Try.prog 3 [.int .i64] := imp_int Try.underlying3
theorem imp99 : Imp Try.prog 99 [.int .i64, .int .i64] := imp_array (n := 2) Try.underlying99 (by kernel_rfl) (by kernel_rfl) imp3
theorem imp43 : Imp Try.prog 43 [.sl [.int .i64, .int .i64]] := imp_slice Try.underlying43 (by kernel_rfl) (by decide) imp99
theorem imp41 : Imp Try.prog 41 [.sl [.sl [.int .i64, .int .i64]]] := imp_slice Try.underlying41 (by kernel_rfl) (by decide) imp43
theorem good : Go.Proofs.Ytipedaadjfhdnaa.Eng.Good Try.prog := good_of (by kernel_rfl) (by kernel_rfl)
theorem own : ownKnob Try.prog.godebug = none := by kernel_rfl
set_option maxRecDepth 100000 in
theorem lifted (os : Os) (started : os.Started) (H : Type) (enc : TypeId × Value → H) :
  ReturnsInHanded {} Try.checked os 5 .any (Rows.ringSpoiltSpec.pre6 enc Try.prog Try.f5 Rows.ringSpoiltRow.domain false) (Rows.ringSpoiltSpec.post enc Try.prog Try.f5 false true false false) := by
 refine returnsInHanded_of_change (C := Try.checked) own started (by kernel_rfl) Try.func5
  (ChangeSpec.witness6 (enc := enc) (C := Try.checked) false ⟨#[], #[.slice none 0 0, .int .u8 0, .int .u8 0], []⟩ 12 (by kernel_rfl) (by kernel_rfl) (by kernel_rfl) (by kernel_rfl)) ?_
 intro W base args ds gs before hval0 hW _ _
 have hval : ∀ (j : Nat) t v, Try.f5.params[j]? = some t → args[j]? = some v → Value.okWide Try.prog W .any base t v := hval0
 have hW' := hW
 obtain ⟨p, q, hA0, hV, rfl, hfz, hnd⟩ := hW
 have hA : DataW.TrodAll enc Try.prog W 0 (fun _ => true) true Try.f5.params.toList args.toList ds p := hA0
 rw [Try.params5] at hA hval
 obtain ⟨v0, vs0, d0, ds0, p0, q0, hargs, rfl, rfl, h0, r0⟩ := trodAll_cons hA
 obtain ⟨v1, vs1, d1, ds1, p1, q1, rfl, rfl, rfl, h1, r1⟩ := trodAll_cons r0
 obtain ⟨v2, vs2, d2, ds2, p2, q2, rfl, rfl, rfl, h2, r2⟩ := trodAll_cons r1
 obtain ⟨rfl, rfl, rfl⟩ := trodAll_nil r2
 obtain rfl : args = #[v0, v1, v2] := by cases args; simp_all
 obtain ⟨B0, a0, g0⟩ := imp_arg imp41 (okv_sl (P := Try.prog) Try.underlying41 (hval 0 41 v0 rfl rfl)) h0 0
 have G0 := g0
 obtain ⟨x1, rfl, k1⟩ := okv_int (P := Try.prog) Try.underlying5 (hval 1 5 v1 rfl rfl)
 obtain ⟨x2, rfl, k2⟩ := okv_int (P := Try.prog) Try.underlying5 (hval 2 5 v2 rfl rfl)
 have R := G0.rel (fun i => ((B0)[i]?).map (·.2)) (fun i be h => by rw [Nat.zero_add]; simp only [h, Option.map_some])
 have D := G0.dat ((B0).map (·.1)) (fun i be h => by rw [Nat.zero_add, List.getElem?_map, h]; rfl)
 refine (calls_trueO good Go.Proofs.Ytipedaadjfhdnaa.G06.known (own_got _ G0.own) ((Go.Proofs.Ytipedaadjfhdnaa.G06.ringSpoilt a0 x1 x2 k1 k2 ((B0).map (·.1)) D.head).choose_spec) (st_got W _ G0.own fun φ hφ => G0.blk φ fun i be h => by rw [Nat.zero_add]; exact hφ i be h) (.cons (rels_head R) (.cons (.int .u8 x1) (.cons (.int .u8 x2) .nil)))).mono fun e W' ⟨he, hg⟩ => ?_
 subst he
 exact ⟨_, rfl, post_law (t := 4) (by kernel_rfl) (by kernel_rfl) (by kernel_rfl) (by kernel_rfl) rfl hW' ⟨rfl, rfl, rfl⟩ hg⟩
theorem over : Rows.ringSpoiltRow.holds Try.pinned (OpenSpec.ofChange Rows.ringSpoiltSpec) :=
 OpenClaim.holds_of_wide 5 Try.f5 rfl rfl rfl rfl rfl rfl rfl ⟨rfl, rfl, rfl, rfl, rfl⟩ rfl rfl rfl rfl rfl (by kernel_rfl) Try.func5 (by kernel_rfl)
  (of_decide_eq_true (by kernel_rfl)) (by unfold Func.isWrapper; first | (rw [if_pos (by decide +kernel)]; kernel_rfl) | (rw [if_neg (by decide +kernel)]; exact ⟨rfl, rfl⟩))
  (fun os started H enc _ => lifted os started H enc)
theorem proved : Rows.RingSpoiltSaid := over
#print axioms proved
end Go.Proofs.Ytipedaadjfhdnaa.ringSpoilt
