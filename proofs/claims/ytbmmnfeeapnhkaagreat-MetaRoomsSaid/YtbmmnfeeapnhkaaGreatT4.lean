/- MetaRooms returns true at every input and leaves its arguments as they were. No condition. -/
import Derived.Test.YtbmmnfeeapnhkaaGreatGRC
import Derived.Test.YtbmmnfeeapnhkaaGreatE6
import Derived.Test.YtbmmnfeeapnhkaaGreatRows
import Derived.WalkKit
import Derived.ProofKit
import Derived.OpenShut
namespace Go.Proofs.YtbmmnfeeapnhkaaGreat.metaRooms
open Go Go.ChangeShapes Go.WideShapes Go.ChangeAt Go.RowKit Go.Proofs.YtbmmnfeeapnhkaaGreat.Eng
theorem imp3 : Imp Tryz.prog 3 [.int .i64] := imp_int Tryz.underlying3
theorem imp94 : Imp Tryz.prog 94 [.int .i64, .int .i64] := imp_array (n := 2) Tryz.underlying94 (by kernel_rfl) (by kernel_rfl) imp3
theorem imp47 : Imp Tryz.prog 47 [.sl [.int .i64, .int .i64]] := imp_slice Tryz.underlying47 (by kernel_rfl) (by decide) imp94
theorem imp88 : Imp Tryz.prog 88 [.sl [.sl [.int .i64, .int .i64]]] := imp_slice Tryz.underlying88 (by kernel_rfl) (by decide) imp47
theorem good : Go.Proofs.YtbmmnfeeapnhkaaGreat.Eng.Good Tryz.prog := zXn (by kernel_rfl) (by kernel_rfl)
theorem own : ownKnob Tryz.prog.godebug = none := by kernel_rfl
set_option maxRecDepth 100000 in
theorem lifted (os : Os) (started : os.Started) (H : Type) (enc : TypeId × Value → H) :
  ReturnsInHanded {} Tryz.checked os 6 .any (Rows.metaRoomsSpec.pre6 enc Tryz.prog Tryz.f6 Rows.metaRoomsRow.domain false) (Rows.metaRoomsSpec.post enc Tryz.prog Tryz.f6 false true false false) := by
 refine returnsInHanded_of_change (C := Tryz.checked) own started (by kernel_rfl) Tryz.func6
  (ChangeSpec.witness6 (enc := enc) (C := Tryz.checked) false ⟨#[], #[.agg #[.int .i64 0, .int .i64 0, .int .i64 0, .int .i64 0, .int .i64 0], .slice none 0 0], []⟩ 12 (by kernel_rfl) (by kernel_rfl) (by kernel_rfl) (by kernel_rfl)) ?_
 intro W base args ds gs before hval0 hW _ _
 have hval : ∀ (j : Nat) t v, Tryz.f6.params[j]? = some t → args[j]? = some v → Value.okWide Tryz.prog W .any base t v := hval0
 have hW' := hW
 obtain ⟨p, q, hA0, hV, rfl, hfz, hnd⟩ := hW
 have hA : DataW.TrodAll enc Tryz.prog W 0 (fun _ => true) true Tryz.f6.params.toList args.toList ds p := hA0
 rw [Tryz.params6] at hA hval
 obtain ⟨v0, vs0, d0, ds0, p0, q0, hargs, rfl, rfl, h0, r0⟩ := trodAll_cons hA
 obtain ⟨v1, vs1, d1, ds1, p1, q1, rfl, rfl, rfl, h1, r1⟩ := trodAll_cons r0
 obtain ⟨rfl, rfl, rfl⟩ := trodAll_nil r1
 obtain rfl : args = #[v0, v1] := by cases args; simp_all
 obtain ⟨cs0, hl0, rfl, hc0⟩ := zWu (P := Tryz.prog) (n := 5) (ts := [3, 3, 3, 3, 3]) Tryz.underlying23 (by kernel_rfl) (by kernel_rfl) (hval 0 23 v0 rfl rfl)
 obtain ⟨c0_0, c0_1, c0_2, c0_3, c0_4, rfl⟩ := len5 hl0
 obtain ⟨x0, rfl, k0⟩ := zE7 (P := Tryz.prog) Tryz.underlying3 (hc0 0 _ _ rfl rfl)
 obtain ⟨x1, rfl, k1⟩ := zE7 (P := Tryz.prog) Tryz.underlying3 (hc0 1 _ _ rfl rfl)
 obtain ⟨x2, rfl, k2⟩ := zE7 (P := Tryz.prog) Tryz.underlying3 (hc0 2 _ _ rfl rfl)
 obtain ⟨x3, rfl, k3⟩ := zE7 (P := Tryz.prog) Tryz.underlying3 (hc0 3 _ _ rfl rfl)
 obtain ⟨x4, rfl, k4⟩ := zE7 (P := Tryz.prog) Tryz.underlying3 (hc0 4 _ _ rfl rfl)
 obtain ⟨B0, a0, g0⟩ := imp_arg imp88 (okv_sl (P := Tryz.prog) Tryz.underlying88 (hval 1 88 v1 rfl rfl)) h1 0
 have G0 := g0
 have R := G0.rel (fun i => ((B0)[i]?).map (·.2)) (fun i be h => by rw [Nat.zero_add]; simp only [h, Option.map_some])
 have D := G0.dat ((B0).map (·.1)) (fun i be h => by rw [Nat.zero_add, List.getElem?_map, h]; rfl)
 refine (zQ6 good Go.Proofs.YtbmmnfeeapnhkaaGreat.G08.xw_ok (own_got _ G0.own) ((Go.Proofs.YtbmmnfeeapnhkaaGreat.G08.metaRooms x0 x1 x2 x3 x4 a0 ((B0).map (·.1)) D.head).choose_spec) (st_got W _ G0.own fun φ hφ => G0.blk φ fun i be h => by rw [Nat.zero_add]; exact hφ i be h) (.cons (.agg (.cons (.int .i64 x0) (.cons (.int .i64 x1) (.cons (.int .i64 x2) (.cons (.int .i64 x3) (.cons (.int .i64 x4) .nil)))))) (.cons (zV8 R) .nil))).mono fun e W' ⟨he, hg⟩ => ?_
 subst he
 exact ⟨_, rfl, post_law (t := 4) (by kernel_rfl) (by kernel_rfl) (by kernel_rfl) (by kernel_rfl) rfl hW' ⟨rfl, rfl, rfl⟩ hg⟩
theorem over : Rows.metaRoomsRow.holds Tryz.pinned (OpenSpec.ofChange Rows.metaRoomsSpec) :=
 OpenClaim.holds_of_wide 6 Tryz.f6 rfl rfl rfl rfl rfl rfl rfl ⟨rfl, rfl, rfl, rfl, rfl⟩ rfl rfl rfl rfl rfl (by kernel_rfl) Tryz.func6 (by kernel_rfl)
  (of_decide_eq_true (by kernel_rfl)) (by unfold Func.isWrapper; first | (rw [if_pos (by decide +kernel)]; kernel_rfl) | (rw [if_neg (by decide +kernel)]; exact ⟨rfl, rfl⟩))
  (fun os started H enc _ => lifted os started H enc)
theorem proved : Rows.MetaRoomsSaid := over
#print axioms proved
end Go.Proofs.YtbmmnfeeapnhkaaGreat.metaRooms
