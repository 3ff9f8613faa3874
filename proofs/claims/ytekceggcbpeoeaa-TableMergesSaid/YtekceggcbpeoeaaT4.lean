/- Of two that may be, apart from each other, both together may be, each block of either is there, at the place of the first one if that has it, and what is free and what is kept are all, for every argument of the statement. -/
import Derived.Test.YtekceggcbpeoeaaBF
import Derived.Test.YtekceggcbpeoeaaE6
import Derived.Test.YtekceggcbpeoeaaRows
import Derived.WalkKit
import Derived.ProofKit
import Derived.OpenShut
namespace Go.Proofs.Ytekceggcbpeoeaa.tableMerges
open Go Go.ChangeShapes Go.WideShapes Go.ChangeAt Go.RowKit Go.Proofs.Ytekceggcbpeoeaa.Eng
theorem imp3 : Imp Try.prog 3 [.int .i64] := imp_int Try.underlying3
theorem imp29 : Imp Try.prog 29 [.int .i64, .int .i64] := imp_struct (fields := [[.int .i64], [.int .i64]]) Try.underlying29 (by kernel_rfl) (by kernel_rfl) (by
  intro i f ls hf hl
  rcases i with _ | _ | i
  ·cases hl; have hf := Option.some.inj hf; subst hf; exact ⟨by kernel_rfl, by kernel_rfl, imp3⟩
  ·cases hl; have hf := Option.some.inj hf; subst hf; exact ⟨by kernel_rfl, by kernel_rfl, imp3⟩
  ·simp at hl)
theorem imp22 : Imp Try.prog 22 [.sl [.int .i64, .int .i64]] := imp_slice Try.underlying22 (by kernel_rfl) (by decide) imp29
theorem good : Go.Proofs.Ytekceggcbpeoeaa.Eng.Good Try.prog := good_of (by kernel_rfl) (by kernel_rfl)
theorem own : ownKnob Try.prog.godebug = none := by kernel_rfl
set_option maxRecDepth 100000 in
theorem lifted (os : Os) (started : os.Started) (H : Type) (enc : TypeId × Value → H) :
  ReturnsInHanded {} Try.checked os 4 .any (Rows.tableMergesSpec.pre6 enc Try.prog Try.f4 Rows.tableMergesRow.domain false) (Rows.tableMergesSpec.post enc Try.prog Try.f4 false true false false) := by
 refine returnsInHanded_of_change (C := Try.checked) own started (by kernel_rfl) Try.func4
  (ChangeSpec.witness6 (enc := enc) (C := Try.checked) false ⟨#[], #[.slice none 0 0, .slice none 0 0], []⟩ 12 (by kernel_rfl) (by kernel_rfl) (by kernel_rfl) (by kernel_rfl)) ?_
 intro W base args ds gs before hval0 hW _ _
 have hval : ∀ (j : Nat) t v, Try.f4.params[j]? = some t → args[j]? = some v → Value.okWide Try.prog W .any base t v := hval0
 have hW' := hW
 obtain ⟨p, q, hA0, hV, rfl, hfz, hnd⟩ := hW
 have hA : DataW.TrodAll enc Try.prog W 0 (fun _ => true) true Try.f4.params.toList args.toList ds p := hA0
 rw [Try.params4] at hA hval
 obtain ⟨v0, vs0, d0, ds0, p0, q0, hargs, rfl, rfl, h0, r0⟩ := trodAll_cons hA
 obtain ⟨v1, vs1, d1, ds1, p1, q1, rfl, rfl, rfl, h1, r1⟩ := trodAll_cons r0
 obtain ⟨rfl, rfl, rfl⟩ := trodAll_nil r1
 obtain rfl : args = #[v0, v1] := by cases args; simp_all
 obtain ⟨B0, a0, g0⟩ := imp_arg imp22 (okv_sl (P := Try.prog) Try.underlying22 (hval 0 22 v0 rfl rfl)) h0 0
 have G0 := g0
 obtain ⟨B1, a1, g1⟩ := imp_arg imp22 (okv_sl (P := Try.prog) Try.underlying22 (hval 1 22 v1 rfl rfl)) h1 (0 + (B0).length)
 have G1 := G0.app g1
 have R := G1.rel (fun i => ((B0 ++ B1)[i]?).map (·.2)) (fun i be h => by rw [Nat.zero_add]; simp only [h, Option.map_some])
 have D := G1.dat ((B0 ++ B1).map (·.1)) (fun i be h => by rw [Nat.zero_add, List.getElem?_map, h]; rfl)
 refine (calls_trueX good Go.Proofs.Ytekceggcbpeoeaa.G10.x4_ok (own_got _ G1.own) ((Go.Proofs.Ytekceggcbpeoeaa.G10.tableMerges a0 a1 ((B0 ++ B1).map (·.1)) D.head D.tail.head).choose_spec) (st_got W _ G1.own fun φ hφ => G1.blk φ fun i be h => by rw [Nat.zero_add]; exact hφ i be h) (.cons (rels_head R) (.cons (rels_head (rels_tail R)) .nil))).mono fun e W' ⟨he, hg⟩ => ?_
 subst he
 exact ⟨_, rfl, post_law (t := 4) (by kernel_rfl) (by kernel_rfl) (by kernel_rfl) (by kernel_rfl) rfl hW' ⟨rfl, rfl, rfl⟩ hg⟩
theorem over : Rows.tableMergesRow.holds Try.pinned (OpenSpec.ofChange Rows.tableMergesSpec) :=
 OpenClaim.holds_of_wide 4 Try.f4 rfl rfl rfl rfl rfl rfl rfl ⟨rfl, rfl, rfl, rfl, rfl⟩ rfl rfl rfl rfl rfl (by kernel_rfl) Try.func4 (by kernel_rfl)
  (of_decide_eq_true (by kernel_rfl)) (by unfold Func.isWrapper; first | (rw [if_pos (by decide +kernel)]; kernel_rfl) | (rw [if_neg (by decide +kernel)]; exact ⟨rfl, rfl⟩))
  (fun os started H enc _ => lifted os started H enc)
theorem proved : Rows.TableMergesSaid := over
#print axioms proved
end Go.Proofs.Ytekceggcbpeoeaa.tableMerges
