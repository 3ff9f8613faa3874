/- An evaluator over abstract values, proved sound against the machine: what it says of a call, the call does. No condition. -/
import Derived.Test.YthjkfincekckhaaE4
import Derived.Attr
section
/- A run that ends somehow, what is said of its end. -/
namespace Go.Proofs.Ythjkfincekckhaa.Eng
open Go
/-- The run ends, and Q is so of its end. -/
def Outs (r : Res) (Q : Ex → T → AHeap → Prop) : Prop := ∃ e t h, r = some (e, t, h) ∧ Q e t h
theorem Outs.mono {r : Res} {Q R : Ex → T → AHeap → Prop} (o : Outs r Q) (f : ∀ e t h, Q e t h → R e t h) : Outs r R := by
  obtain ⟨e, t, h, hr, q⟩ := o; exact ⟨e, t, h, hr, f _ _ _ q⟩
theorem Outs.of {e : Ex} {t : T} {h : AHeap} {Q : Ex → T → AHeap → Prop} (q : Q e t h) : Outs (some (e, t, h)) Q := ⟨e, t, h, rfl, q⟩
theorem outs_ctx (K : Res → Res) {r : Res} {Q R : Ex → T → AHeap → Prop} (o : Outs r Q) (f : ∀ e t h, Q e t h → Outs (K (some (e, t, h))) R) : Outs (K r) R := by
  obtain ⟨e, t, h, rfl, q⟩ := o; exact f _ _ _ q
theorem of_outs {h : AHeap} {rs : List RV} {r : Res} {v : AV} (o : Outs r fun e t h1 => fin rs (some (e, t, h1)) = some (v, h1)) : ∃ h', trim h (fin rs r) = some (v, h') := by
  obtain ⟨e, t, h1, rfl, q⟩ := o
  rw [q]; exact trim_any ..
theorem outs_loop {P : Program} {b : C} {t : T} {h : AHeap} {Q : Ex → T → AHeap → Prop} (o : Outs (seqR (b t h) ((envL P).loop b)) Q) : Outs ((envL P).loop b t h) Q := by rw [loop_run]; exact o
/-- A loop, one round opened. -/
theorem loop_open {P : Program} {LP : T → AHeap → Res} {b : C} (e : LP = (envL P).loop b) (t : T) (h : AHeap) : LP t h = seqR (b t h) LP := by subst e; exact loop_run ..
theorem outs_cond {b : Bool} {x y : Res} {Q : Ex → T → AHeap → Prop} (hx : b = true → Outs x Q) (hy : b = false → Outs y Q) : Outs (bif b then x else y) Q := by
  cases b with
  | true => exact hx rfl
  | false => exact hy rfl
theorem outs_normal {e : Ex} {t : T} {h : AHeap} {Q : Ex → T → AHeap → Prop} : Outs (some (e, t, h)) Q = Q e t h := by
  apply propext
  constructor
  · rintro ⟨_, _, _, hr, q⟩; simp only [Option.some.injEq, Prod.mk.injEq] at hr; obtain ⟨rfl, rfl, rfl⟩ := hr; exact q
  · exact fun q => ⟨_, _, _, rfl, q⟩
/-- A heap to which something was added. -/
def Adds (H H' : AHeap) : Prop := ∃ G, H' = H ++ G
theorem Adds.refl (H : AHeap) : Adds H H := ⟨[], by simp⟩
theorem Adds.app (H G : AHeap) : Adds H (H ++ G) := ⟨G, rfl⟩
theorem Adds.bs {H H' : AHeap} {v : AV} {zs : List Int} (a : Adds H H') (b : BS H v zs) : BS H' v zs := by obtain ⟨G, rfl⟩ := a; exact b.mono G
theorem Adds.is {H H' : AHeap} {v : AV} {zs : List Int} (a : Adds H H') (b : IS H v zs) : IS H' v zs := by obtain ⟨G, rfl⟩ := a; exact b.mono G
theorem Adds.cells {H H' : AHeap} {p : Nat} {cs : List AV} (a : Adds H H') (b : cellsOf H p = some cs) : cellsOf H' p = some cs := by obtain ⟨G, rfl⟩ := a; exact cells_old b
theorem Adds.trans {H H' H'' : AHeap} (a : Adds H H') (b : Adds H' H'') : Adds H H'' := by obtain ⟨G, rfl⟩ := a; obtain ⟨G', rfl⟩ := b; exact ⟨G ++ G', by simp⟩
theorem idx_arr (n sz b o : Nat) (k : IntKind) (j : Int) : idxAddrA n sz (.ptr b o) (.int k j) = if 0 ≤ j ∧ j < n then some (.ptr b (o + j.toNat * sz)) else none := rfl
theorem i64_has {n : Int} (h : IntKind.i64.has n) : -9223372036854775808 ≤ n ∧ n ≤ 9223372036854775807 := h
end Go.Proofs.Ythjkfincekckhaa.Eng
end
section
/- Slots of arguments that are arrays or structs. -/
namespace Go.Proofs.Ythjkfincekckhaa.Eng
open Go Go.ChangeShapes Go.WideShapes Go.ChangeAt Go.RowKit
variable {P : Program} {H : Type} {enc : TypeId × Value → H}
theorem OkSl.cells {w : World} {v : Value} (h : OkSl w v) : v.cells.toList = [v] := by
  rcases h with rfl | ⟨_, _, _, _, rfl, _⟩ <;> rfl
theorem trod_slot {w : World} {b : Nat} {sp : Nat → Bool} {held : Bool} {n : Nat} {t e : TypeId} {cs : List Value} {d : DataW H} {ps : List MemPlace} (ht : P.underlying t = some (.array n e)) (hc : P.cellsOf e = 1)
    (h : DataW.Trod enc P w b sp held t (.agg cs.toArray) d ps) (i : Nat) (hi : i < n) (v : Value) (hv : cs[i]? = some v) (ho : OkSl w v) : ∃ d' p', DataW.Trod enc P w b sp held e v d' p' := by
  obtain ⟨fuel, h⟩ := h
  obtain ⟨xs, m, rfl, hx, hl, hn, hg⟩ := DataW.trod_array ht h
  have g := hg i hi
  rw [hc, Nat.mul_one] at g
  have e1 : (((Value.agg cs.toArray).cells.toList.drop i).take 1) = [v] := by
    show ((cs.drop i).take 1) = [v]
    obtain ⟨hlt, hq⟩ := List.getElem?_eq_some_iff.1 hv
    rw [List.drop_eq_getElem_cons hlt, hq]; rfl
  rw [e1, List.getElem?_eq_getElem (by omega)] at g
  exact ⟨_, _, m, by rw [ho.cells]; exact g⟩
end Go.Proofs.Ythjkfincekckhaa.Eng
end
section
/- Blocks made of rows, written in place. -/
namespace Go.Proofs.Ythjkfincekckhaa.Eng
open Go
theorem rows_len {k : Nat} : ∀ {rows : List (List AV)}, (∀ r ∈ rows, r.length = k) → rows.flatten.length = rows.length * k
  | [], _ => by simp
  | r :: rows, h => by
    rw [List.flatten_cons, List.length_append, rows_len (fun x hx => h x (by simp [hx])), h r (by simp), List.length_cons, Nat.add_mul, Nat.one_mul, Nat.add_comm]
theorem rows_get {k : Nat} : ∀ {rows : List (List AV)} {i : Nat} {r : List AV}, (∀ r ∈ rows, r.length = k) → rows[i]? = some r → ∀ f, f < k → rows.flatten[i * k + f]? = r[f]?
  | [], i, r, _, h, _, _ => by simp at h
  | x :: rows, 0, r, h, hi, f, hf => by
    simp at hi; subst hi
    have hx := h x (by simp)
    rw [Nat.zero_mul, Nat.zero_add, List.flatten_cons, List.getElem?_append_left (by omega)]
  | x :: rows, i + 1, r, h, hi, f, hf => by
    have hx := h x (by simp)
    have ih := rows_get (fun x hx => h x (by simp [hx])) (by simpa using hi : rows[i]? = some r) f hf
    rw [List.flatten_cons, List.getElem?_append_right (by rw [hx, Nat.add_mul]; omega), ← ih]
    congr 1
    rw [hx, Nat.add_mul]; omega
theorem rows_set {k : Nat} : ∀ {rows : List (List AV)} {i : Nat} {r : List AV}, (∀ r ∈ rows, r.length = k) → rows[i]? = some r → ∀ f v, f < k → rows.flatten.set (i * k + f) v = (rows.set i (r.set f v)).flatten
  | [], i, r, _, h, _, _, _ => by simp at h
  | x :: rows, 0, r, h, hi, f, v, hf => by
    simp at hi; subst hi
    have hx := h x (by simp)
    rw [Nat.zero_mul, Nat.zero_add, List.flatten_cons, List.set_append_left _ _ (by omega)]
    rfl
  | x :: rows, i + 1, r, h, hi, f, v, hf => by
    have hx := h x (by simp)
    have ih := rows_set (fun x hx => h x (by simp [hx])) (by simpa using hi : rows[i]? = some r) f v hf
    rw [List.flatten_cons, List.set_append_right _ _ (by rw [hx, Nat.add_mul]; omega), List.set_cons_succ, List.flatten_cons, ← ih]
    congr 2
    rw [hx, Nat.add_mul]; omega
theorem drop_rows {x : List AV} {k i : Nat} {y : List AV} (hx : x.length = k) : (x ++ y).drop ((i + 1) * k) = y.drop (i * k) := by
  rw [show (i + 1) * k = x.length + i * k by rw [hx, Nat.add_mul]; omega, List.drop_length_add_append]
theorem rows_take {k : Nat} : ∀ {rows : List (List AV)} {i : Nat} {r : List AV}, (∀ r ∈ rows, r.length = k) → rows[i]? = some r → (rows.flatten.drop (i * k)).take k = r
  | [], i, r, _, h => by simp at h
  | x :: rows, 0, r, h, hi => by
    simp at hi; subst hi
    have hx := h x (by simp)
    rw [Nat.zero_mul, List.drop_zero, List.flatten_cons, List.take_append_of_le_length (by omega), List.take_of_length_le (by omega)]
  | x :: rows, i + 1, r, h, hi => by
    have hx := h x (by simp)
    have ih := rows_take (fun x hx => h x (by simp [hx])) (by simpa using hi : rows[i]? = some r)
    rw [List.flatten_cons, drop_rows hx, ih]
theorem rows_put {k : Nat} : ∀ {rows : List (List AV)} {i : Nat} {r : List AV}, (∀ r ∈ rows, r.length = k) → rows[i]? = some r → ∀ v, v.length = k → rows.flatten.take (i * k) ++ v ++ rows.flatten.drop (i * k + k) = (rows.set i v).flatten
  | [], i, r, _, h, _, _ => by simp at h
  | x :: rows, 0, r, h, hi, v, hv => by
    have hx := h x (by simp)
    rw [Nat.zero_mul, List.take_zero, List.nil_append, Nat.zero_add, List.flatten_cons, ← hx, List.drop_left]; rfl
  | x :: rows, i + 1, r, h, hi, v, hv => by
    have hx := h x (by simp)
    have ih := rows_put (fun x hx => h x (by simp [hx])) (by simpa using hi : rows[i]? = some r) v hv
    rw [List.flatten_cons, List.set_cons_succ, List.flatten_cons, ← ih]
    rw [show (i + 1) * k = x.length + i * k by rw [hx, Nat.add_mul]; omega, List.take_length_add_append, show x.length + i * k + k = x.length + (i * k + k) by omega, List.drop_length_add_append]
    simp
theorem write_cell {H : AHeap} {b k i f : Nat} {rows : List (List AV)} {r : List AV} {v : AV} (hb : H[b]? = some (.rw rows.flatten)) (hk : ∀ r ∈ rows, r.length = k) (hi : rows[i]? = some r) (hf : f < k) (hv : v.isCell = true) :
    writeN H b (i * k + f) [v] = some (H.set b (.rw (rows.set i (r.set f v)).flatten)) := by
  have hl := rows_len hk
  have hlt := (List.getElem?_eq_some_iff.1 hi).1
  have : (i + 1) * k ≤ rows.length * k := Nat.mul_le_mul_right k hlt
  rw [Nat.add_mul] at this
  rw [write_of hb, if_pos ⟨by simp only [List.length_cons, List.length_nil]; omega, by simp [hv]⟩, splice_one, rows_set hk hi f v hf]
theorem write_row {H : AHeap} {b k i : Nat} {rows : List (List AV)} {r v : List AV} (hb : H[b]? = some (.rw rows.flatten)) (hk : ∀ r ∈ rows, r.length = k) (hi : rows[i]? = some r) (hv : v.length = k) (h1 : k ≠ 1) (hc : v.all AV.isCell = true) :
    writeN H b (i * k) v = some (H.set b (.rw (rows.set i v).flatten)) := by
  have hl := rows_len hk
  have hlt := (List.getElem?_eq_some_iff.1 hi).1
  have : (i + 1) * k ≤ rows.length * k := Nat.mul_le_mul_right k hlt
  rw [Nat.add_mul] at this
  rw [write_of hb, if_pos ⟨by omega, hc⟩, splice_long _ _ _ (by omega), hv, rows_put hk hi v hv]
theorem idx_nat (b k n l i : Nat) (e : Bool) (kk : IntKind) (hk : 1 ≤ k) (hi : i < n) : idxAddrS k (.sl b 0 k n l e) (.int kk (i : Int)) = some (.ptr b (i * k)) := by
  rw [idx_sl, if_pos ⟨hk, by omega, by omega⟩]; simp
theorem cells_rw {H : AHeap} {b : Nat} {cs : List AV} (h : H[b]? = some (.rw cs)) : cellsOf H b = some cs := by unfold cellsOf; rw [h]
/-- Nothing turned but these blocks, and nothing was added. -/
def KeepB (H H' : AHeap) (B : List Nat) : Prop := H'.length = H.length ∧ ∀ b, b ∉ B → H'[b]? = H[b]?
theorem KeepB.refl (H : AHeap) (B : List Nat) : KeepB H H B := ⟨rfl, fun _ _ => rfl⟩
theorem KeepB.trans {H H' H'' : AHeap} {B : List Nat} (a : KeepB H H' B) (b : KeepB H' H'' B) : KeepB H H'' B := ⟨b.1.trans a.1, fun x hx => (b.2 x hx).trans (a.2 x hx)⟩
theorem KeepB.set (H : AHeap) (b : Nat) (k : ABlk) (B : List Nat) (hb : b ∈ B) : KeepB H (H.set b k) B := ⟨by simp, fun x hx => by
  rw [List.getElem?_set_ne]; intro e; subst e; exact hx hb⟩
theorem KeepB.cells {H H' : AHeap} {B : List Nat} (a : KeepB H H' B) {b : Nat} (hb : b ∉ B) : cellsOf H' b = cellsOf H b := by unfold cellsOf; rw [a.2 b hb]
theorem KeepB.trim {H H' : AHeap} {B : List Nat} (a : KeepB H H' B) (v : AV) : trim H (some (v, H')) = some (v, H') := trim_same a.1
theorem KeepB.mono {H H' : AHeap} {B C : List Nat} (a : KeepB H H' B) (h : ∀ b ∈ B, b ∈ C) : KeepB H H' C := ⟨a.1, fun x hx => a.2 x (fun hb => hx (h x hb))⟩
theorem cells_set_ne (H : AHeap) (b p : Nat) (k : ABlk) (h : p ≠ b) : cellsOf (H.set b k) p = cellsOf H p := by
  unfold cellsOf; rw [List.getElem?_set_ne (fun e => h e.symm)]
theorem at_set_ne (H : AHeap) (b p : Nat) (k : ABlk) (h : p ≠ b) : (H.set b k)[p]? = H[p]? := List.getElem?_set_ne (fun e => h e.symm)
theorem at_set (H : AHeap) (b : Nat) (k : ABlk) (h : b < H.length) : (H.set b k)[b]? = some k := List.getElem?_set_self h
end Go.Proofs.Ythjkfincekckhaa.Eng
end
section
/- Slices of rows that grow. -/
namespace Go.Proofs.Ythjkfincekckhaa.Eng
open Go
/-- A slice that grew: of rows of k cells, at B or behind. -/
def GR (k : Nat) (H : AHeap) (B : Nat) (l : AV) (rows : List (List AV)) : Prop :=
  (rows = [] ∧ l = .nilSl) ∨ (rows ≠ [] ∧ ∃ b, B ≤ b ∧ l = .sl b 0 k rows.length rows.length false ∧ H[b]? = some (.rw rows.flatten))
theorem GR.mono {k : Nat} {H : AHeap} {B : Nat} {l : AV} {rows : List (List AV)} (g : GR k H B l rows) (G : AHeap) : GR k (H ++ G) B l rows := by
  rcases g with g | ⟨g1, b, g2, g3, g4⟩
  · exact .inl g
  · exact .inr ⟨g1, b, g2, g3, by rw [List.getElem?_append_left (List.getElem?_eq_some_iff.1 g4).1, g4]⟩
theorem GR.len {k : Nat} {H : AHeap} {B : Nat} {l : AV} {rows : List (List AV)} (g : GR k H B l rows) : lenSl l = some (.int .i64 rows.length) := by
  rcases g with ⟨rfl, rfl⟩ | ⟨_, b, _, rfl, _⟩ <;> rfl
theorem GR.cells {k : Nat} {H : AHeap} {B : Nat} {l : AV} {rows : List (List AV)} (g : GR k H B l rows) : cellsA l = some [l] ∧ l.isCell = true := by
  rcases g with ⟨rfl, rfl⟩ | ⟨_, b, _, rfl, _⟩ <;> exact ⟨rfl, rfl⟩
theorem GR.app {k : Nat} (hk : 1 ≤ k) {d : TyD} (hd : d.size = k) (hb : 1 ≤ d.bytes) {P H : AHeap} (a : Adds P H) {l y : AV} {rows : List (List AV)} {r : List AV} (g : GR k H P.length l rows) (hr : ∀ x ∈ rows, x.length = k) (hx : srcLen y = some 1) (hy : srcCells k 1 y H = some r)
    (hc : r.all AV.isCell = true) (hn : (rows.length + 1) * d.bytes ≤ roomy) : ∃ l' H', Adds P H' ∧ GR k H' P.length l' (rows ++ [r]) ∧ app d l y H = some (l', H') := by
  obtain ⟨G, rfl⟩ := a
  rcases g with ⟨rfl, rfl⟩ | ⟨hne, b, hb2, rfl, hH⟩
  · refine ⟨.sl (P ++ G).length 0 k 1 1 false, (P ++ G) ++ [.rw r], ⟨G ++ [.rw r], by simp⟩, .inr ⟨by simp, (P ++ G).length, by simp, rfl, by simp⟩, ?_⟩
    unfold Eng.app
    rw [hx]
    simp only [Option.bind_some, hd, hy]
    unfold appendV
    simp only [hd]
    rw [if_neg (by omega), if_pos ⟨hk, hb, by simpa using hn⟩]
  · have hl := rows_len hr
    refine ⟨.sl (P ++ G).length 0 k (rows.length + 1) (rows.length + 1) false, ((P ++ G).set b .dead) ++ [.rw (rows ++ [r]).flatten], ⟨G.set (b - P.length) .dead ++ [.rw (rows ++ [r]).flatten], by rw [List.set_append_right _ _ hb2, List.append_assoc]⟩, .inr ⟨by simp, (P ++ G).length, by simp, by simp, by rw [List.getElem?_append_right (by simp)]; simp⟩, ?_⟩
    unfold Eng.app
    rw [hx]
    simp only [Option.bind_some, hd, hy]
    unfold appendV
    simp only [hd]
    rw [if_neg (by omega), if_neg (by omega), if_neg (by omega), if_pos ⟨hb, hn⟩]
    have hrd : readN (P ++ G) b 0 (rows.length * k) = some rows.flatten := by
      unfold readN
      rw [cells_rw hH]
      simp only [Option.bind_some]
      rw [if_pos (by omega), List.drop_zero, List.take_of_length_le (by omega)]
    rw [hrd]
    simp only [Option.bind_some, Bool.false_eq_true, if_false, hH]
    rw [if_pos ⟨by omega, hc⟩]
    simp
theorem GR.is {H : AHeap} {B : Nat} {l : AV} {zs : List Int} (g : GR 1 H B l (zs.map fun z => [AV.int .i64 z])) : IS H l zs := by
  have hf : (zs.map fun z => [AV.int .i64 z]).flatten = i64s zs := by
    unfold i64s
    clear g
    induction zs with
    | nil => rfl
    | cons z zs ih => rw [List.map_cons, List.flatten_cons, ih]; rfl
  rcases g with ⟨h, rfl⟩ | ⟨_, b, _, rfl, hH⟩
  · obtain rfl : zs = [] := by simpa using h
    exact IS.nil _
  · rw [hf] at hH
    rw [List.length_map]
    exact IS.block hH
theorem Adds.at {H H' : AHeap} (a : Adds H H') {b : Nat} {k : ABlk} (h : H[b]? = some k) : H'[b]? = some k := by
  obtain ⟨G, rfl⟩ := a; rw [List.getElem?_append_left (List.getElem?_eq_some_iff.1 h).1, h]
theorem Adds.trimS {H H' : AHeap} (a : Adds H H') {v : AV} (hv : v.under H.length = true) : trim H (some (v, H')) = some (v, H) := by
  obtain ⟨G, rfl⟩ := a; exact trim_app hv
theorem GR.under {k : Nat} {H : AHeap} {B : Nat} {l : AV} {rows : List (List AV)} (g : GR k H B l rows) : rows = [] ∧ l = .nilSl ∨ l.under B = false := by
  rcases g with g | ⟨_, b, hb, rfl, _⟩
  · exact .inl g
  · exact .inr (by simp [AV.under]; omega)
theorem make_rows (k bytes n : Nat) (agg : Bool) (z : List AV) (hk : 1 ≤ k) (hb : 1 ≤ bytes) (hn : n * bytes ≤ roomy) (h : AHeap) :
    makeSliceV (ty k agg bytes z) (.int .i64 n) (.int .i64 n) h = some (.sl h.length 0 k n n true, h ++ [.rw (List.replicate n z).flatten]) := by
  have hc : (0 ≤ (n : Int) ∧ (n : Int) ≤ n ∧ 1 ≤ bytes ∧ (n : Int) * ((bytes : Nat) : Int) ≤ ((roomy : Nat) : Int) ∧ 1 ≤ k) := ⟨by omega, by omega, hb, by exact_mod_cast hn, hk⟩
  refine (if_pos hc).trans ?_
  rw [Int.toNat_natCast]; rfl
end Go.Proofs.Ythjkfincekckhaa.Eng
end
section
/- Slices of rows: arguments, reading. -/
namespace Go.Proofs.Ythjkfincekckhaa.Eng
open Go Go.ChangeShapes Go.WideShapes Go.ChangeAt Go.RowKit

/-! ### What a heap had at first stays ahead -/
theorem Adds.len {H H' : AHeap} (a : Adds H H') : H.length ≤ H'.length := by obtain ⟨G, rfl⟩ := a; simp
theorem Adds.of_get {H H' : AHeap} (hl : H.length ≤ H'.length) (h : ∀ b, b < H.length → H'[b]? = H[b]?) : Adds H H' := by
  refine ⟨H'.drop H.length, ?_⟩
  have : H'.take H.length = H := by
    apply List.ext_getElem?
    intro i
    by_cases hi : i < H.length
    · rw [List.getElem?_take, if_pos hi, h i hi]
    · rw [List.getElem?_eq_none (by rw [List.length_take]; omega), List.getElem?_eq_none (by omega)]
  have h2 := List.take_append_drop H.length H'
  rw [this] at h2
  exact h2.symm
theorem Adds.keep {H H' H'' : AHeap} {B : List Nat} (a : Adds H H') (k : KeepB H' H'' B) (hB : ∀ b ∈ B, H.length ≤ b) : Adds H H'' := by
  obtain ⟨G, rfl⟩ := a
  refine Adds.of_get (by rw [k.1]; simp) fun b hb => ?_
  rw [k.2 b (fun h => by have := hB b h; omega), List.getElem?_append_left hb]

/-! ### A slice of rows, to be read -/
def RS (k : Nat) (H : AHeap) (v : AV) (rows : List (List AV)) : Prop :=
  (rows = [] ∧ lenSl v = some (.int .i64 (0 : Nat))) ∨ ∃ b n e, v = .sl b 0 k rows.length n e ∧ cellsOf H b = some rows.flatten ∧ ∀ r ∈ rows, r.length = k
theorem RS.len {k : Nat} {H : AHeap} {v : AV} {rows : List (List AV)} (h : RS k H v rows) : lenSl v = some (.int .i64 rows.length) := by
  rcases h with ⟨rfl, h⟩ | ⟨b, n, e, rfl, _⟩
  · exact h
  · rfl
theorem RS.adds {k : Nat} {H H' : AHeap} {v : AV} {rows : List (List AV)} (h : RS k H v rows) (a : Adds H H') : RS k H' v rows := by
  rcases h with h | ⟨b, n, e, rfl, hc, hr⟩
  · exact .inl h
  · exact .inr ⟨b, n, e, rfl, a.cells hc, hr⟩
theorem RS.idx {k : Nat} (hk : 1 ≤ k) {H : AHeap} {v : AV} {rows : List (List AV)} (h : RS k H v rows) {i : Nat} {r : List AV} (hi : rows[i]? = some r) (kk : IntKind) :
    ∃ b cs, idxAddrS k v (.int kk (i : Int)) = some (.ptr b (i * k)) ∧ cellsOf H b = some cs ∧ (∀ f, f < k → cs[i * k + f]? = r[f]?) ∧ r.length = k ∧ i * k + k ≤ cs.length ∧ (cs.drop (i * k)).take k = r := by
  have hlt := (List.getElem?_eq_some_iff.1 hi).1
  rcases h with ⟨rfl, _⟩ | ⟨b, n, e, rfl, hc, hr⟩
  · simp at hlt
  · refine ⟨b, rows.flatten, idx_nat b k _ n i e kk hk hlt, hc, rows_get hr hi, hr r (List.mem_of_getElem? hi), ?_, rows_take hr hi⟩
    rw [rows_len hr]
    have : (i + 1) * k ≤ rows.length * k := Nat.mul_le_mul_right k hlt
    rw [Nat.add_mul] at this; omega
theorem GR.rs {k : Nat} {H : AHeap} {B : Nat} {l : AV} {rows : List (List AV)} (g : GR k H B l rows) (hr : ∀ r ∈ rows, r.length = k) : RS k H l rows := by
  rcases g with ⟨rfl, rfl⟩ | ⟨_, b, _, rfl, hH⟩
  · exact .inl ⟨rfl, rfl⟩
  · exact .inr ⟨b, _, _, rfl, cells_rw hH, hr⟩

/-! ### Types without pointers -/
def IsCellK (k : Option IntKind) (v : Value) : Prop := match k with | some k => ∃ n, v = .int k n ∧ k.has n | none => ∃ b, v = .bool b
def AVof : Value → AV
  | .int k n => .int k n
  | .bool b => .bool b
  | _ => .undef
def CellOkA (k : Option IntKind) (v : AV) : Prop := match k with | some k => ∃ n, v = .int k n ∧ k.has n | none => ∃ b, v = .bool b
theorem IsCellK.av {k : Option IntKind} {v : Value} (h : IsCellK k v) : CellOkA k (AVof v) ∧ ∀ φ, VRel φ (AVof v) v := by
  cases k with
  | some k => obtain ⟨n, rfl, hn⟩ := h; exact ⟨⟨n, rfl, hn⟩, fun φ => .int _ _⟩
  | none => obtain ⟨b, rfl⟩ := h; exact ⟨⟨b, rfl⟩, fun φ => .bool _⟩
def RowOk (ks : List (Option IntKind)) (r : List AV) : Prop := r.length = ks.length ∧ ∀ (i : Nat) k v, ks[i]? = some k → r[i]? = some v → CellOkA k v
variable {P : Program}
def Flat (P : Program) (t : TypeId) (ks : List (Option IntKind)) : Prop :=
  ∀ {H : Type} {enc : TypeId × Value → H} {w : World} {b : Nat} {sp : Nat → Bool} {held : Bool} {fuel : Nat} {cs : List Value} {x : DataW H × List MemPlace}, DataW.trod enc P w b sp held fuel t cs = some x → cs.length = ks.length ∧ ∀ (i : Nat) k v, ks[i]? = some k → cs[i]? = some v → IsCellK k v
theorem has_of_wf {k : IntKind} {n : Int} (h : (Lit.int k n).wf = true) : k.has n := by
  simpa [Lit.wf, IntKind.has] using h
theorem flat_int {t : TypeId} {k : IntKind} (ht : P.underlying t = some (.int k)) : Flat P t [some k] := by
  intro H enc w b sp held fuel cs x h
  obtain ⟨n, rfl, _, hwf⟩ := DataW.trod_int ht h
  refine ⟨rfl, fun i k' v hk hv => ?_⟩
  cases i with
  | zero => simp at hk hv; subst hk; subst hv; exact ⟨n, rfl, has_of_wf hwf⟩
  | succ i => simp at hk
theorem flat_bool {t : TypeId} (ht : P.underlying t = some .bool) : Flat P t [none] := by
  intro H enc w b sp held fuel cs x h
  obtain ⟨n, rfl, _⟩ := DataW.trod_bool ht h
  refine ⟨rfl, fun i k' v hk hv => ?_⟩
  cases i with
  | zero => simp at hk hv; subst hk; subst hv; exact ⟨n, rfl⟩
  | succ i => simp at hk
theorem flat_struct {t : TypeId} {fs : Array Field} {ks : List (Option IntKind)} (ht : P.underlying t = some (.struct fs)) (hc : P.cellsOf t = ks.length)
    (hf : ∀ j, j < ks.length → ∃ (i : Nat) (f : Field) (ls : List (Option IntKind)), fs[i]? = some f ∧ f.offset ≤ j ∧ j < f.offset + P.cellsOf f.type ∧ f.offset + P.cellsOf f.type ≤ ks.length ∧ ls = (ks.drop f.offset).take (P.cellsOf f.type) ∧ Flat P f.type ls) : Flat P t ks := by
  intro H enc w b sp held fuel cs x h
  obtain ⟨xs, n, rfl, _, hl, hn, hg⟩ := DataW.trod_struct ht h
  rw [hc] at hl
  refine ⟨hl, fun j k v hk hv => ?_⟩
  have hj := (List.getElem?_eq_some_iff.1 hk).1
  obtain ⟨i, f, ls, hi, h1, h2, h3, rfl, hF⟩ := hf j hj
  have hlt : i < xs.length := by rw [hn]; exact (Array.getElem?_eq_some_iff.1 hi).1
  have g := hg i f hi
  rw [List.getElem?_eq_getElem hlt] at g
  refine (hF g).2 (j - f.offset) k v ?_ ?_
  · rw [List.getElem?_take, if_pos (by omega), List.getElem?_drop, show f.offset + (j - f.offset) = j by omega, hk]
  · rw [List.getElem?_take, if_pos (by omega), List.getElem?_drop, show f.offset + (j - f.offset) = j by omega, hv]
theorem flat_array {t e : TypeId} {n : Nat} {ks : List (Option IntKind)} (ht : P.underlying t = some (.array n e)) (hc : P.cellsOf e = ks.length) (hc2 : P.cellsOf t = n * ks.length) (h1 : 1 ≤ ks.length) (he : Flat P e ks) : Flat P t (List.replicate n ks).flatten := by
  intro H enc w b sp held fuel cs x h
  obtain ⟨xs, m, rfl, _, hl, hn, hg⟩ := DataW.trod_array ht h
  have hfl : (List.replicate n ks).flatten.length = n * ks.length := by simp
  rw [hc2] at hl
  refine ⟨hl.trans hfl.symm, fun j k v hk hv => ?_⟩
  have hj := (List.getElem?_eq_some_iff.1 hk).1
  rw [hfl] at hj
  have hi : j / ks.length < n := Nat.div_lt_of_lt_mul (by rw [Nat.mul_comm]; exact hj)
  have g := hg _ hi
  rw [hc, List.getElem?_eq_getElem (by omega)] at g
  have e1 : j / ks.length * ks.length + j % ks.length = j := by rw [Nat.mul_comm]; exact Nat.div_add_mod j ks.length
  have e2 := Nat.mod_lt j (show 0 < ks.length by omega)
  refine (he g).2 (j % ks.length) k v ?_ ?_
  · have : ∀ n i r, i < n → r < ks.length → (List.replicate n ks).flatten[i * ks.length + r]? = ks[r]? := by
      intro n
      induction n with
      | zero => intro i r h; omega
      | succ n ih =>
        intro i r hi hr
        rw [List.replicate_succ, List.flatten_cons]
        cases i with
        | zero => rw [Nat.zero_mul, Nat.zero_add, List.getElem?_append_left hr]
        | succ i =>
          rw [List.getElem?_append_right (by rw [Nat.add_mul]; omega), ← ih i r (by omega) hr]
          congr 1
          rw [Nat.add_mul]; omega
    rw [← this n _ _ hi e2, e1, hk]
  · rw [List.getElem?_take, if_pos e2, List.getElem?_drop, e1, hv]

/-- What an argument that is a slice of rows is to the evaluator. -/
structure ArgR (w : World) (v : Value) (k : ABlk) (oe : Option Ent) (a : Nat → AV) (c : Nat) (rows : List (List AV)) : Prop where
  own : k.own = false
  blk : ∀ e, oe = some e → ∃ o, w.heap[e.blk]? = some o ∧ ∀ φ, BlkRel φ k e o
  rel : ∀ φ i, φ i = oe → VRel φ (a i) v
  rs : ∀ (h : AHeap) i, h[i]? = some k → RS c h (a i) rows
theorem add_add {a : Addr} (hs : a.spot = none) (i j : Nat) : (a.add i).add j = a.add (i + j) := by
  obtain ⟨b, o, s⟩ := a
  simp only at hs; subst hs
  unfold Addr.add
  by_cases hi : i = 0
  · subst hi; simp
  · by_cases hj : j = 0
    · subst hj; simp [hi]
    · have : ¬ (i + j = 0) := by omega
      simp [hi, hj, this]; omega
theorem cell_of {w : World} {a : Addr} (hs : a.spot = none) {o : Obj} (ho : w.heap[a.block]? = some o) {C : Array Value} {t : TypeId} {fz : Nat × Nat} (hC : o = .cells C t fz) (j : Nat) : w.cell? (a.add j) = C[a.off + j]? := by
  unfold World.cell?
  rw [block_add, ho, hC]
  have e : (a.add j).off = a.off + j := by unfold Addr.add; split <;> simp_all
  have e2 : (a.add j).spot = none := by unfold Addr.add; split <;> simp_all
  simp only
  rw [e]
  split
  · rename_i h; rw [e2] at h; cases h
  · rfl
variable {H : Type} {enc : TypeId × Value → H}
theorem rows_arg {t e : TypeId} {w : World} {v : Value} {d : DataW H} {ps : List MemPlace} {ks : List (Option IntKind)} (ht : P.underlying t = some (.slice e)) (hc : P.cellsOf e = ks.length) (h1 : 1 ≤ ks.length) (hF : Flat P e ks)
    (hv : OkSl w v) (h : DataW.Trod enc P w 0 (fun _ => true) true t v d ps) : ∃ k oe a rows, ArgR w v k oe a ks.length rows ∧ ∀ r ∈ rows, RowOk ks r := by
  obtain ⟨fuel, h⟩ := h
  rcases hv with rfl | ⟨ad, len, cap, o, rfl, hle, hs, ho, C, tt, fz, hC⟩
  · exact ⟨.dead, none, fun _ => .nilSl, [], ⟨rfl, fun e h => (by cases h), fun φ i _ => .nilSl, fun h i _ => .inl ⟨rfl, rfl⟩⟩, fun r hr => by cases hr⟩
  · rcases DataW.trod_slice ht h with ⟨h0, _⟩ | ⟨a', len', cap', elems, rest, n, _, hcs, _, _, _, _, hel, hg, hg2, _⟩
    · cases h0
    have hcs : [Value.slice (some ad) len cap] = [Value.slice (some a') len' cap'] := hcs
    simp only [List.cons.injEq, Value.slice.injEq, Option.some.injEq, and_true] at hcs
    obtain ⟨rfl, rfl, rfl⟩ := hcs
    subst hC
    have hcap : 1 ≤ cap → ad.off + cap * ks.length ≤ C.size := by
      intro h1c
      have hx : ∃ x, (w.cells? 0 (ad.add ((cap - 1) * P.cellsOf e)) (P.cellsOf e)).bind (DataW.trod enc P w 0 (fun _ => true) true n e) = some x := by
        by_cases hl : cap - 1 < len
        · exact ⟨_, (hg _ hl).trans (List.getElem?_eq_getElem (by omega))⟩
        · obtain ⟨r1, r2⟩ := hg2 rfl
          have := r2 (cap - 1 - len) (by omega)
          rw [show len + (cap - 1 - len) = cap - 1 by omega] at this
          exact ⟨_, this.trans (List.getElem?_eq_getElem (by omega))⟩
      obtain ⟨x, hx⟩ := hx
      rw [Option.bind_eq_some_iff] at hx
      obtain ⟨cs, hcs, hx⟩ := hx
      obtain ⟨hl, hk⟩ := hF hx
      unfold World.cells? at hcs
      rw [if_pos (Nat.zero_le _), hc] at hcs
      have := mapM_some_get hcs (ks.length - 1) (ks.length - 1) (by rw [List.getElem?_range (by omega)])
      rw [List.getElem?_eq_getElem (by omega)] at this
      have e2 := add_add hs ((cap - 1) * ks.length) (ks.length - 1)
      rw [e2, cell_of hs ho rfl] at this
      have := (Array.getElem?_eq_some_iff.1 this).1
      have e3 : cap * ks.length = (cap - 1) * ks.length + ks.length := by
        conv => lhs; rw [show cap = (cap - 1) + 1 by omega, Nat.add_mul, Nat.one_mul]
      omega
    have each : ∀ i, i < len → ∃ r, r.length = ks.length ∧ RowOk ks r ∧ ∀ f, f < ks.length → ∃ v, C[ad.off + (i * ks.length + f)]? = some v ∧ ∃ x, r[f]? = some x ∧ ∀ φ, VRel φ x v := by
      intro i hi
      have g := hg i hi
      rw [List.getElem?_eq_getElem (by omega), Option.bind_eq_some_iff] at g
      obtain ⟨cs, hcs, hx⟩ := g
      obtain ⟨hl, hk⟩ := hF hx
      unfold World.cells? at hcs
      rw [if_pos (Nat.zero_le _), hc] at hcs
      refine ⟨cs.map AVof, by simp [hl], ⟨by simp [hl], fun j k v hkk hv => ?_⟩, fun f hf => ?_⟩
      · rw [List.getElem?_map] at hv
        obtain ⟨u, hu, rfl⟩ := Option.map_eq_some_iff.1 hv
        exact (hk j k u hkk hu).av.1
      · have := mapM_some_get hcs f f (by rw [List.getElem?_range hf])
        rw [List.getElem?_eq_getElem (by omega)] at this
        have e2 := add_add hs (i * ks.length) f
        rw [e2, cell_of hs ho rfl] at this
        refine ⟨_, this, AVof (cs[f]'(by omega)), by rw [List.getElem?_map, List.getElem?_eq_getElem (by omega)]; rfl, ?_⟩
        exact (hk f _ _ (List.getElem?_eq_getElem hf) (List.getElem?_eq_getElem (by omega))).av.2
    have all : ∀ n, n ≤ len → ∃ rows : List (List AV), rows.length = n ∧ (∀ r ∈ rows, r.length = ks.length ∧ RowOk ks r) ∧ ∀ i r f, rows[i]? = some r → f < ks.length → ∃ v, C[ad.off + (i * ks.length + f)]? = some v ∧ ∃ x, r[f]? = some x ∧ ∀ φ, VRel φ x v := by
      intro n
      induction n with
      | zero => intro _; exact ⟨[], rfl, fun r hr => (by cases hr), fun i r f h => (by simp at h)⟩
      | succ n ih =>
        intro hn
        obtain ⟨rows, hl, h2, h3⟩ := ih (by omega)
        obtain ⟨r, hr1, hr2, hr3⟩ := each n (by omega)
        refine ⟨rows ++ [r], by simp [hl], fun x hx => ?_, fun i x f hx hf => ?_⟩
        · rcases List.mem_append.1 hx with hx | hx
          · exact h2 x hx
          · simp at hx; subst hx; exact ⟨hr1, hr2⟩
        · by_cases hi : i < rows.length
          · rw [List.getElem?_append_left hi] at hx
            exact h3 i x f hx hf
          · have hi2 : i = rows.length := by
              have := (List.getElem?_eq_some_iff.1 hx).1
              simp at this; omega
            subst hi2
            rw [List.getElem?_append_right (Nat.le_refl _), Nat.sub_self] at hx
            simp at hx; subst hx
            rw [hl]; exact hr3 f hf
    obtain ⟨rows, hl, h2, h3⟩ := all len (Nat.le_refl _)
    have hrl := rows_len fun r hr => (h2 r hr).1
    have flat : ∀ j a, rows.flatten[j]? = some a → ∃ v, C[ad.off + j]? = some v ∧ ∀ φ, VRel φ a v := by
      intro j a hj
      have hjl := (List.getElem?_eq_some_iff.1 hj).1
      rw [hrl] at hjl
      have hi : j / ks.length < rows.length := Nat.div_lt_of_lt_mul (by rw [Nat.mul_comm]; exact hjl)
      have e1 : j / ks.length * ks.length + j % ks.length = j := by rw [Nat.mul_comm]; exact Nat.div_add_mod j ks.length
      have e2 := Nat.mod_lt j (show 0 < ks.length by omega)
      obtain ⟨v, q1, x, q2, q3⟩ := h3 _ _ _ (List.getElem?_eq_getElem hi) e2
      have := rows_get (fun r hr => (h2 r hr).1) (List.getElem?_eq_getElem hi) _ e2
      rw [e1, hj, q2] at this
      injection this with this; subst this
      rw [e1] at q1
      exact ⟨v, q1, q3⟩
    by_cases h0 : len = 0
    · subst h0
      obtain rfl : rows = [] := List.eq_nil_of_length_eq_zero hl
      refine ⟨.dead, some ⟨ad.block, ad.off, ad.off + cap * ks.length⟩, fun i => .sl i 0 ks.length 0 0 false, [], ⟨rfl, fun e he => ?_, fun φ i hi => ?_, fun h i hi => .inl ⟨rfl, rfl⟩⟩, fun r hr => by cases hr⟩
      · injection he with he; subst he; exact ⟨_, ho, fun φ => trivial⟩
      · refine .sl (e := ⟨ad.block, ad.off, ad.off + cap * ks.length⟩) (a := ad) (cap := cap) hi (.inl ?_) (Nat.le_refl _) hle (fun h => by cases h) (by simp)
        cases ad; simp at hs; subst hs; rfl
    · have hend : ad.off + rows.flatten.length ≤ C.size := by
        obtain ⟨v, q1, _⟩ := flat (rows.flatten.length - 1) _ (List.getElem?_eq_getElem (by
          rw [hrl, hl]
          have : 1 * 1 ≤ len * ks.length := Nat.mul_le_mul (by omega) h1
          omega))
        have := (Array.getElem?_eq_some_iff.1 q1).1
        omega
      refine ⟨.ro rows.flatten, some ⟨ad.block, ad.off, C.size⟩, fun i => .sl i 0 ks.length len len false, rows, ⟨rfl, fun e he => ?_, fun φ i hi => ?_, fun h i hi => ?_⟩, fun r hr => (h2 r hr).2⟩
      · injection he with he; subst he
        exact ⟨_, ho, fun φ => ⟨C, tt, fz, rfl, rfl, hend, fun j a hj => by
          obtain ⟨v, q1, q2⟩ := flat j a hj
          exact ⟨v, q1, q2 φ⟩⟩⟩
      · refine .sl (e := ⟨ad.block, ad.off, C.size⟩) (a := ad) (cap := cap) hi (.inl ?_) (Nat.le_refl _) hle (fun h => by cases h) (by simp; exact hcap (by omega))
        cases ad; simp at hs; subst hs; rfl
      · exact .inr ⟨i, len, false, by rw [hl], by unfold cellsOf; rw [hi], fun r hr => (h2 r hr).1⟩
end Go.Proofs.Ythjkfincekckhaa.Eng
end
section
/- Structs without pointers, field by field. -/
namespace Go.Proofs.Ythjkfincekckhaa.Eng
open Go
variable {P : Program}
theorem flat_pos {α : Type} : ∀ (ls : List (List α)) (j : Nat), j < ls.flatten.length → ∃ i l, ls[i]? = some l ∧ (ls.take i).flatten.length ≤ j ∧ j < (ls.take i).flatten.length + l.length
  | [], j, h => by simp at h
  | l :: ls, j, h => by
    by_cases hj : j < l.length
    · exact ⟨0, l, rfl, by simp, by simpa using hj⟩
    · rw [List.flatten_cons, List.length_append] at h
      obtain ⟨i, m, h1, h2, h3⟩ := flat_pos ls (j - l.length) (by omega)
      exact ⟨i + 1, m, h1, by rw [List.take_succ_cons, List.flatten_cons, List.length_append]; omega, by rw [List.take_succ_cons, List.flatten_cons, List.length_append]; omega⟩
theorem flat_cut {α : Type} : ∀ (ls : List (List α)) (i : Nat) (l : List α), ls[i]? = some l → (ls.flatten.drop (ls.take i).flatten.length).take l.length = l ∧ (ls.take i).flatten.length + l.length ≤ ls.flatten.length
  | [], i, l, h => by simp at h
  | x :: ls, 0, l, h => by simp at h; subst h; simp
  | x :: ls, i + 1, l, h => by
    obtain ⟨h1, h2⟩ := flat_cut ls i l (by simpa using h)
    rw [List.take_succ_cons, List.flatten_cons, List.flatten_cons, List.length_append, List.drop_length_add_append, List.length_append]
    exact ⟨h1, by omega⟩
theorem flat_fields {t : TypeId} {fs : Array Field} {fields : List (List (Option IntKind))} (ht : P.underlying t = some (.struct fs)) (hc : P.cellsOf t = fields.flatten.length) (hn : fs.size = fields.length)
    (hf : ∀ (i : Nat) f ls, fs[i]? = some f → fields[i]? = some ls → f.offset = (fields.take i).flatten.length ∧ P.cellsOf f.type = ls.length ∧ Flat P f.type ls) : Flat P t fields.flatten := by
  refine flat_struct ht hc fun j hj => ?_
  obtain ⟨i, l, h1, h2, h3⟩ := flat_pos fields j hj
  have hi : i < fs.size := by rw [hn]; exact (List.getElem?_eq_some_iff.1 h1).1
  obtain ⟨a1, a2, a3⟩ := hf i fs[i] l (Array.getElem?_eq_getElem hi) h1
  obtain ⟨b1, b2⟩ := flat_cut fields i l h1
  exact ⟨i, fs[i], l, Array.getElem?_eq_getElem hi, by omega, by omega, by omega, by rw [a1, a2, b1], a3⟩
end Go.Proofs.Ythjkfincekckhaa.Eng
end
section
/- One set of rules for running a tree. -/
namespace Go.Proofs.Ythjkfincekckhaa.Eng
open Go
attribute [go_sem] runI_nil runI_o runI_u runI_og runI_ug runD_nil runD_o runD_rd runD_hv runD_hvu runD_og runD_rdg runD_hvg chk_nil Nat.testBit bne_self_eq_false eq_self chk_cons chk_if runC_skip runC_exit runC_ret runC_reg runC_drw runC_seq runC_ite runC_block normR_some seqR_normal seqR_exit' seqR_ret condR_bool seqR_cond blockR_cond fin_cond trim_cond blockR_normal blockR_ret blockR_exit fin_ret fin_normal res_nil res_tmp res_cell oneOf_one oneOf_nil oneOf_two gval_bool gval_undef keepH_some' guarded_true guarded_false guarded_some gval_may mayV_true mayV_false may_bin1 may_bin1w may_bin2 may_bin2w may_un may_unw may_load may_loadw may_fa may_faw may_fi may_fiw may_pk may_pkw may_cl1 may_cl1w may_cl2 may_cl2w may_cl3 may_cl3w may_cl4 may_cl4w may_cv may_cvw may_ia1 may_ia1w may_ia2 may_ia2w may_is1 may_is1w may_is2 may_is2w may_ix1 may_ix1w may_ix2 may_ix2w may_st1 may_st1w may_st2 may_st2w may_ls may_lsw may_ll may_llw may_ex may_exw may_bx may_bxw beq_tt beq_ff pick_bool cond_may1 cond_may2 cond_may3 cond_and' cond_or' cond_boolV cond_intV box_int box_bool box_agg not_bool eq_bool ne_bool int_add int_quo int_rem ne_eq not_false_eq_true guarded_heap int_sub int_mul int_eql int_neq int_lss int_leq int_gtr int_geq cells_end cells_add cells_zero cells_zero' cells_succ load_agg load_one readN read1 trim_some_id trim_app under_int under_bool under_agg under_tup underAll_nil underAll_cons contI_some contIu_some contD_some contR_some contH_some contHu_some tst_true onI_some onIu_some onD_some onR_some onH_some sMov_ap X_ap K_ap sPick_ap sAlloc_ap sBox_ap sBuild_ap sBuildSl_ap sLoad_ap sStore_ap sNil_ap sBin_ap sUn_ap sConv_ap sFun_ap sMake_ap sSliceA_ap sSliceS_ap sFieldAddr_ap sField_ap sIdxAddrA_ap sIdxAddrS_ap sIdxA_ap sIdxStr_ap sExtract_ap sLenStr_ap sLenSl_ap sLenArr_ap sCapSl_ap sMax_ap sMin_ap sCopy_ap sAppN_ap sApp_ap sCall_ap sCallV_ap ap fieldAddrS fieldS allocV get_zero get_succ List.set_cons_zero List.set_cons_succ List.map_cons List.map_nil Option.bind_some Option.map_some List.length_cons List.length_nil List.length_append List.cons_append List.nil_append List.append_nil List.append_assoc List.replicate_succ List.replicate_zero List.drop_zero List.drop_succ_cons List.take_zero List.take_succ_cons List.getElem?_cons_zero List.getElem?_cons_succ Nat.zero_add Nat.add_zero Nat.add_assoc Nat.le_refl if_true if_false Bool.true_and Bool.and_true Bool.true_or Bool.or_true Bool.false_or Bool.or_false Bool.false_and Bool.and_false Bool.not_true Bool.not_false cond_true cond_false decide_true decide_false beq_self_eq_true Nat.add_left_cancel_iff and_self true_and splice_one List.flatten_cons List.flatten_nil eq_nn ne_nn eq_pn ne_pn eq_snn ne_snn eq_ssn ne_ssn len_nil len_sl ext_tup nil_ptr under_nilPtr under_nilSl under_undef min2 max2 conv_int oneOf_three fill_nil fill_cons cellsA_int cellsA_bool cellsA_agg cellsA_ptr cellsA_nilPtr cellsA_nilSl cellsA_sl cellsA_fn asI_none asI_int cell_ptr cell_nilPtr cell_nilSl cell_sl rep_len rep_take rep_cell splice_rep rep_under eq_rep idx_sl o_loop o_yield
end Go.Proofs.Ythjkfincekckhaa.Eng
end
