/- An evaluator over abstract values, proved sound against the machine: what it says of a call, the call does. No condition. -/
import Derived.Test.YtgggepohkdmjeaaE4
section
/- A run that ends somehow, what is said of its end. -/
namespace Go.Proofs.Ytgggepohkdmjeaa.Eng
open Go
/-- The run ends, and Q is so of its end. -/
def Outs (r : Res) (Q : Ex → T → AHeap → Prop) : Prop := ∃ e t h, r = some (e, t, h) ∧ Q e t h
theorem Outs.mono {r : Res} {Q R : Ex → T → AHeap → Prop} (o : Outs r Q) (f : ∀ e t h, Q e t h → R e t h) : Outs r R := by
  obtain ⟨e, t, h, hr, q⟩ := o; exact ⟨e, t, h, hr, f _ _ _ q⟩
theorem Outs.of {e : Ex} {t : T} {h : AHeap} {Q : Ex → T → AHeap → Prop} (q : Q e t h) : Outs (some (e, t, h)) Q := ⟨e, t, h, rfl, q⟩
theorem outs_ctx (K : Res → Res) {r : Res} {Q R : Ex → T → AHeap → Prop} (o : Outs r Q) (f : ∀ e t h, Q e t h → Outs (K (some (e, t, h))) R) : Outs (K r) R := by
  obtain ⟨e, t, h, rfl, q⟩ := o; exact f _ _ _ q
theorem of_outs {h : AHeap} {rs : List RV} {r : Res} {v : AV} (o : Outs r fun e t h1 => fin rs (some (e, t, h1)) = some (v, h1)) : ∃ h', trim h (fin rs r) = some (v, h') := by
  obtain ⟨e, t, h1, rfl, q⟩ := o
  rw [q]; exact trim_any ..
theorem outs_loop {P : Program} {b : C} {t : T} {h : AHeap} {Q : Ex → T → AHeap → Prop} (o : Outs (seqR (b t h) ((envL P).loop b)) Q) : Outs ((envL P).loop b t h) Q := by rw [loop_run]; exact o
/-- A loop, one round opened. -/
theorem loop_open {P : Program} {LP : T → AHeap → Res} {b : C} (e : LP = (envL P).loop b) (t : T) (h : AHeap) : LP t h = seqR (b t h) LP := by subst e; exact loop_run ..
theorem outs_cond {b : Bool} {x y : Res} {Q : Ex → T → AHeap → Prop} (hx : b = true → Outs x Q) (hy : b = false → Outs y Q) : Outs (bif b then x else y) Q := by
  cases b with
  | true => exact hx rfl
  | false => exact hy rfl
theorem outs_normal {e : Ex} {t : T} {h : AHeap} {Q : Ex → T → AHeap → Prop} : Outs (some (e, t, h)) Q = Q e t h := by
  apply propext
  constructor
  · rintro ⟨_, _, _, hr, q⟩; simp only [Option.some.injEq, Prod.mk.injEq] at hr; obtain ⟨rfl, rfl, rfl⟩ := hr; exact q
  · exact fun q => ⟨_, _, _, rfl, q⟩
/-- A heap to which something was added. -/
def Adds (H H' : AHeap) : Prop := ∃ G, H' = H ++ G
theorem Adds.refl (H : AHeap) : Adds H H := ⟨[], by simp⟩
theorem Adds.app (H G : AHeap) : Adds H (H ++ G) := ⟨G, rfl⟩
theorem Adds.bs {H H' : AHeap} {v : AV} {zs : List Int} (a : Adds H H') (b : BS H v zs) : BS H' v zs := by obtain ⟨G, rfl⟩ := a; exact b.mono G
theorem Adds.is {H H' : AHeap} {v : AV} {zs : List Int} (a : Adds H H') (b : IS H v zs) : IS H' v zs := by obtain ⟨G, rfl⟩ := a; exact b.mono G
theorem Adds.cells {H H' : AHeap} {p : Nat} {cs : List AV} (a : Adds H H') (b : cellsOf H p = some cs) : cellsOf H' p = some cs := by obtain ⟨G, rfl⟩ := a; exact cells_old b
theorem Adds.trans {H H' H'' : AHeap} (a : Adds H H') (b : Adds H' H'') : Adds H H'' := by obtain ⟨G, rfl⟩ := a; obtain ⟨G', rfl⟩ := b; exact ⟨G ++ G', by simp⟩
theorem idx_arr (n sz b o : Nat) (k : IntKind) (j : Int) : idxAddrA n sz (.ptr b o) (.int k j) = if 0 ≤ j ∧ j < n then some (.ptr b (o + j.toNat * sz)) else none := rfl
theorem i64_has {n : Int} (h : IntKind.i64.has n) : -9223372036854775808 ≤ n ∧ n ≤ 9223372036854775807 := h
end Go.Proofs.Ytgggepohkdmjeaa.Eng
end
section
/- Slots of arguments that are arrays or structs. -/
namespace Go.Proofs.Ytgggepohkdmjeaa.Eng
open Go Go.ChangeShapes Go.WideShapes Go.ChangeAt Go.RowKit
variable {P : Program} {H : Type} {enc : TypeId × Value → H}
theorem OkSl.cells {w : World} {v : Value} (h : OkSl w v) : v.cells.toList = [v] := by
  rcases h with rfl | ⟨_, _, _, _, rfl, _⟩ <;> rfl
theorem trod_slot {w : World} {b : Nat} {sp : Nat → Bool} {held : Bool} {n : Nat} {t e : TypeId} {cs : List Value} {d : DataW H} {ps : List MemPlace} (ht : P.underlying t = some (.array n e)) (hc : P.cellsOf e = 1)
    (h : DataW.Trod enc P w b sp held t (.agg cs.toArray) d ps) (i : Nat) (hi : i < n) (v : Value) (hv : cs[i]? = some v) (ho : OkSl w v) : ∃ d' p', DataW.Trod enc P w b sp held e v d' p' := by
  obtain ⟨fuel, h⟩ := h
  obtain ⟨xs, m, rfl, hx, hl, hn, hg⟩ := DataW.trod_array ht h
  have g := hg i hi
  rw [hc, Nat.mul_one] at g
  have e1 : (((Value.agg cs.toArray).cells.toList.drop i).take 1) = [v] := by
    show ((cs.drop i).take 1) = [v]
    obtain ⟨hlt, hq⟩ := List.getElem?_eq_some_iff.1 hv
    rw [List.drop_eq_getElem_cons hlt, hq]; rfl
  rw [e1, List.getElem?_eq_getElem (by omega)] at g
  exact ⟨_, _, m, by rw [ho.cells]; exact g⟩
end Go.Proofs.Ytgggepohkdmjeaa.Eng
end
