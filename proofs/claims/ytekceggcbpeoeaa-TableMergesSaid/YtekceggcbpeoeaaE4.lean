/- An evaluator over abstract values, proved sound against the machine: what it says of a call, the call does. No condition. -/
import Derived.Test.YtekceggcbpeoeaaE1
import Derived.Test.YtekceggcbpeoeaaE3
import Derived.ChangeSlices
section
namespace Go.Proofs.Ytekceggcbpeoeaa.Eng
open Go
noncomputable def nthR {α : Type} (l : List α) : Nat → Option α :=
 List.rec (motive := fun _ => Nat → Option α) (fun _ => none) (fun a _ ih n => Nat.rec (motive := fun _ => Option α) (some a) (fun k _ => ih k) n) l
noncomputable def setR {α : Type} (l : List α) (v : α) : Nat → List α :=
 List.rec (motive := fun _ => Nat → List α) (fun _ => []) (fun a r ih n => Nat.rec (motive := fun _ => List α) (v :: r) (fun k _ => a :: ih k) n) l
noncomputable def appR {α : Type} (l m : List α) : List α := List.rec (motive := fun _ => List α) m (fun a _ ih => a :: ih) l
noncomputable def takeR {α : Type} (l : List α) : Nat → List α :=
 List.rec (motive := fun _ => Nat → List α) (fun _ => []) (fun a _ ih n => Nat.rec (motive := fun _ => List α) [] (fun k _ => a :: ih k) n) l
noncomputable def dropR {α : Type} (l : List α) : Nat → List α :=
 List.rec (motive := fun _ => Nat → List α) (fun _ => []) (fun a r ih n => Nat.rec (motive := fun _ => List α) (a :: r) (fun k _ => ih k) n) l
noncomputable def lenR {α : Type} (l : List α) : Nat := List.rec (motive := fun _ => Nat) 0 (fun _ _ ih => Nat.succ ih) l
noncomputable def replR {α : Type} (a : α) (n : Nat) : List α := Nat.rec (motive := fun _ => List α) [] (fun _ ih => a :: ih) n
noncomputable def flatR {α : Type} (l : List (List α)) : List α := List.rec (motive := fun _ => List α) [] (fun a _ ih => appR a ih) l
noncomputable def allR {α : Type} (f : α → Bool) (l : List α) : Bool := List.rec (motive := fun _ => Bool) true (fun a _ ih => bif f a then ih else false) l
noncomputable def mapR {α β : Type} (f : α → β) (l : List α) : List β := List.rec (motive := fun _ => List β) [] (fun a _ ih => f a :: ih) l
structure R8 where
 (a b c d e f g h : AV)
def R8.list (r : R8) : List AV := [r.a, r.b, r.c, r.d, r.e, r.f, r.g, r.h]
noncomputable def R8.get (r : R8) (i : Nat) : AV :=
 bif Nat.ble i 3 then (bif Nat.ble i 1 then (bif Nat.ble i 0 then r.a else r.b) else (bif Nat.ble i 2 then r.c else r.d))
 else (bif Nat.ble i 5 then (bif Nat.ble i 4 then r.e else r.f) else (bif Nat.ble i 6 then r.g else r.h))
noncomputable def selR (z : R8) (s : Nat → R8) (n : Nat) : R8 := Nat.rec (motive := fun _ => R8) z (fun k _ => s k) n
noncomputable def R8.set (r : R8) (v : AV) (i : Nat) : R8 :=
 R8.rec (motive := fun _ => R8) (fun a b c d e f g h => selR ⟨v, b, c, d, e, f, g, h⟩ (selR ⟨a, v, c, d, e, f, g, h⟩ (selR ⟨a, b, v, d, e, f, g, h⟩ (selR ⟨a, b, c, v, e, f, g, h⟩ (selR ⟨a, b, c, d, v, f, g, h⟩ (selR ⟨a, b, c, d, e, v, g, h⟩ (selR ⟨a, b, c, d, e, f, v, h⟩ (fun _ => ⟨a, b, c, d, e, f, g, v⟩))))))) i) r
theorem R8.get_eq (r : R8) (i : Nat) (h : i < 8) : r.list[i]? = some (r.get i) := by
 match i, h with
 | 0, _ | 1, _ | 2, _ | 3, _ | 4, _ | 5, _ | 6, _ | 7, _ => rfl
theorem R8.set_eq (r : R8) (v : AV) (i : Nat) (h : i < 8) : (r.set v i).list = r.list.set i v := by
 cases r
 match i, h with
 | 0, _ | 1, _ | 2, _ | 3, _ | 4, _ | 5, _ | 6, _ | 7, _ => rfl
structure KT where
 n : Nat
 rows : List R8
def flat8 (l : List R8) : List AV := l.flatMap R8.list
def KT.toT (t : KT) : List AV := (flat8 t.rows).take t.n
noncomputable def rowGet (l : List R8) (c : Nat) : Nat → AV :=
 List.rec (motive := fun _ => Nat → AV) (fun _ => .undef) (fun a _ ih n => Nat.rec (motive := fun _ => AV) (a.get c) (fun k _ => ih k) n) l
noncomputable def rowSet (l : List R8) (c : Nat) (v : AV) : Nat → List R8 :=
 List.rec (motive := fun _ => Nat → List R8) (fun _ => []) (fun a r ih n => Nat.rec (motive := fun _ => List R8) (a.set v c :: r) (fun k _ => a :: ih k) n) l
noncomputable def KT.get (t : KT) (i : Nat) : AV := bif Nat.blt i t.n then rowGet t.rows (i % 8) (i / 8) else .undef
noncomputable def KT.set (t : KT) (i : Nat) (v : AV) : KT := ⟨t.n, rowSet t.rows (i % 8) v (i / 8)⟩
theorem flat8_get (c : Nat) (hc : c < 8) : ∀ (l : List R8) (q : Nat), (flat8 l)[8 * q + c]?.getD .undef = rowGet l c q
 | [], _ => by simp [flat8, rowGet]
 | a :: l, 0 => by
  show (a.list ++ flat8 l)[8 * 0 + c]?.getD .undef = a.get c
  rw [Nat.mul_zero, Nat.zero_add, List.getElem?_append_left (by simpa [R8.list] using hc), R8.get_eq a c hc]; rfl
 | a :: l, q + 1 => by
  show (a.list ++ flat8 l)[8 * (q + 1) + c]?.getD .undef = rowGet l c q
  have h8 : a.list.length = 8 := rfl
  rw [List.getElem?_append_right (by omega), h8, show 8 * (q + 1) + c - 8 = 8 * q + c by omega]
  exact flat8_get c hc l q
theorem flat8_set (c : Nat) (hc : c < 8) (v : AV) : ∀ (l : List R8) (q : Nat), flat8 (rowSet l c v q) = (flat8 l).set (8 * q + c) v
 | [], _ => by simp [flat8, rowSet]
 | a :: l, 0 => by
  show (a.set v c).list ++ flat8 l = (a.list ++ flat8 l).set (8 * 0 + c) v
  rw [Nat.mul_zero, Nat.zero_add, List.set_append_left _ _ (by simpa [R8.list] using hc), R8.set_eq a v c hc]
 | a :: l, q + 1 => by
  show a.list ++ flat8 (rowSet l c v q) = (a.list ++ flat8 l).set (8 * (q + 1) + c) v
  have h8 : a.list.length = 8 := rfl
  rw [List.set_append_right _ _ (by omega), h8, show 8 * (q + 1) + c - 8 = 8 * q + c by omega, flat8_set c hc v l q]
theorem KT.get_eq (t : KT) (i : Nat) : t.get i = getT t.toT i := by
 have e := flat8_get (i % 8) (Nat.mod_lt _ (by omega)) t.rows (i / 8)
 rw [Nat.div_add_mod] at e
 unfold KT.get getT KT.toT
 cases hb : Nat.blt i t.n with
 | true =>
  have : i < t.n := by simpa [Nat.blt_eq] using hb
  rw [cond_true, List.getElem?_take, if_pos this, e]
 | false =>
  have : ¬ i < t.n := by
   intro h
   rw [← Nat.blt_eq] at h
   rw [h] at hb; cases hb
  rw [cond_false, List.getElem?_take, if_neg this]; rfl
theorem KT.set_eq (t : KT) (i : Nat) (v : AV) : (t.set i v).toT = t.toT.set i v := by
 have e := flat8_set (i % 8) (Nat.mod_lt _ (by omega)) v t.rows (i / 8)
 rw [Nat.div_add_mod] at e
 unfold KT.set KT.toT
 simp only [e, List.take_set]
noncomputable def rowsF (k : Nat) : List AV → List R8 :=
 Nat.rec (motive := fun _ => List AV → List R8) (fun _ => []) (fun _ ih l =>
  (fun (g : Nat → AV) => ⟨g 0, g 1, g 2, g 3, g 4, g 5, g 6, g 7⟩ :: ih (dropR l 8)) (fun i => ((nthR l i).getD .undef))) k
noncomputable def KT.of (l : List AV) : KT := ⟨lenR l, rowsF ((lenR l + 7) / 8) l⟩
end Go.Proofs.Ytekceggcbpeoeaa.Eng
end
section
namespace Go.Proofs.Ytekceggcbpeoeaa.Eng
open Go
noncomputable def spliceK (cs : List AV) (off : Nat) : List AV → List AV
 | [v] => setR cs v off
 | vs => appR (appR (takeR cs off) vs) (dropR cs (off + lenR vs))
noncomputable def cellsOfK (h : AHeap) (b : Nat) : Option (List AV) :=
 match nthR h b with
 | some (.rw cs) => some cs
 | some (.ro cs) => some cs
 | _ => none
noncomputable def readNK (h : AHeap) (b off n : Nat) : Option (List AV) :=
 (cellsOfK h b).bind fun cs => (fun x => bif Nat.beq (lenR x) n then some x else none) (takeR (dropR cs off) n)
noncomputable def readZK (h : AHeap) (b off n : Nat) : Option (List AV) := bif Nat.beq n 0 then readN h b off n else readNK h b off n
noncomputable def read1K (h : AHeap) (b off : Nat) : Option AV := (cellsOfK h b).bind fun cs => nthR cs off
noncomputable def writeNK (h : AHeap) (b off : Nat) (vs : List AV) : Option AHeap :=
 match nthR h b with
 | some (.rw cs) => bif Nat.ble (off + lenR vs) (lenR cs) && allR AV.isCell vs then some (setR h (.rw (spliceK cs off vs)) b) else none
 | _ => none
noncomputable def loadK (size : Nat) (agg : Bool) (a : AV) (h : AHeap) : Option AV :=
 match a with
 | .ptr b off => bif agg then (readZK h b off size).map .agg else read1K h b off
 | _ => none
noncomputable def storeK (size : Nat) (a x : AV) (h : AHeap) : Option AHeap :=
 match a with
 | .ptr b off => (cellsA x).bind fun cs => bif Nat.beq (lenR cs) size then writeNK h b off cs else none
 | _ => none
noncomputable def allocK (cs : List AV) (h : AHeap) : AV × AHeap := (.ptr (lenR h) 0, appR h [.rw cs])
noncomputable def fillK (place : Nat → Option (Nat × Nat)) (cells : List AV) (l : List (Nat × AV)) : Option (List AV) :=
 List.rec (motive := fun _ => List AV → Option (List AV)) (fun cells => some cells)
  (fun iv _ ih cells => (place iv.1).bind fun p => (cellsA iv.2).bind fun cs => bif Nat.beq (lenR cs) p.2 && Nat.ble (p.1 + p.2) (lenR cells) then ih (spliceK cells p.1 cs) else none) l cells
noncomputable def eqCellsK (l : List AV) : List AV → Option Bool :=
 List.rec (motive := fun _ => List AV → Option Bool) (fun m => List.rec (motive := fun _ => Option Bool) (some true) (fun _ _ _ => none) m)
  (fun a _ ih m => List.rec (motive := fun _ => Option Bool) none (fun b bs _ => (eqCell a b).bind fun x => (ih bs).map fun y => x && y) m) l
noncomputable def eqVK (e : EqK) (x y : AV) : Option Bool :=
 match e, x, y with
 | .flat n, .agg xs, .agg ys => bif Nat.beq (lenR xs) n then eqCellsK xs ys else none
 | e, x, y => eqV e x y
noncomputable def binK (op : BinOp) (e : EqK) (x y : AV) : Option AV :=
 match x, y with
 | .agg xs, .agg ys =>
  (match op with
  | .eql => (eqVK e (.agg xs) (.agg ys)).map fun b => .bool b
  | .neq => (eqVK e (.agg xs) (.agg ys)).map fun b => .bool (!b)
  | _ => none)
 | x, y => binV op e x y
noncomputable def convK' (c : ConvK) (x : AV) (h : AHeap) : Option AV :=
 match c, x with
 | .int k, .int _ n => some (.int k (k.wrap n))
 | c, x => convV c x h
noncomputable def sliceAK (n sz : Nat) (x : AV) (lo hi mx : Option AV) (h : AHeap) : Option AV :=
 match x with
 | .ptr b off =>
  (asI lo 0).bind fun l => (asI hi n).bind fun u => (asI mx n).bind fun m =>
   if (mx.isSome → hi.isSome) ∧ 0 ≤ l ∧ l ≤ u ∧ u ≤ m ∧ m ≤ n ∧ (readZK h b off (n * sz)).isSome then some (.sl b (off + l.toNat * sz) sz (u.toNat - l.toNat) (m.toNat - l.toNat) true) else none
 | _ => none
noncomputable def sliceVK (P : Program) (t : TypeId) (x : AV) (lo hi mx : Option AV) (h : AHeap) : Option AV :=
 match P.underlying t with
 | some (.array n e) => (tyD P e).bind fun d => sliceAK n d.size x lo hi mx h
 | some (.slice e) => (tyD P e).bind fun d => sliceS d.size x lo hi mx
 | _ => none
noncomputable def partK (d : TyD) (cs : List AV) (off : Nat) : Option AV :=
 bif d.agg then (bif Nat.ble (off + d.size) (lenR cs) then some (.agg (takeR (dropR cs off) d.size)) else none) else nthR cs off
noncomputable def indexK (P : Program) (t : TypeId) (x i : AV) : Option AV :=
 match P.underlying t with
 | some (.array n e) => (tyD P e).bind fun d =>
  match x, i with
  | .agg cs, .int _ j => if 0 ≤ j ∧ j < n then partK d cs (j.toNat * d.size) else none
  | _, _ => none
 | _ => indexV P t x i
noncomputable def fieldK (P : Program) (t : TypeId) (x : AV) (f : Nat) : Option AV :=
 match P.underlying t with
 | some (.struct fs) => (fs[f]?).bind fun fd => (tyD P fd.type).bind fun d =>
  match x with
  | .agg cs => partK d cs fd.offset
  | _ => none
 | _ => none
noncomputable def makeK (d : TyD) (l c : AV) (h : AHeap) : Option (AV × AHeap) :=
 match l, c with
 | .int _ l, .int _ c =>
  if 0 ≤ l ∧ l ≤ c ∧ 1 ≤ d.bytes ∧ c * d.bytes ≤ roomy ∧ 1 ≤ d.size then
   some (.sl (lenR h) 0 d.size l.toNat c.toNat true, appR h [.rw (flatR (replR d.zero c.toNat))])
  else none
 | _, _ => none
noncomputable def buildSlK (d : TyD) (len : Nat) (parts : List (Nat × AV)) (h : AHeap) : Option (AV × AHeap) :=
 if len * d.size ≤ 16777216 ∧ 1 ≤ d.size then
  (fillK (fun i => some (i * d.size, d.size)) (flatR (replR d.zero len)) parts).map fun cs => (.sl (lenR h) 0 d.size len len true, appR h [.rw cs])
 else none
noncomputable def appendK (d : TyD) (s : AV) (k : Nat) (xs : List AV) (h : AHeap) : Option (AV × AHeap) :=
 match s with
 | .nilSl =>
  if k = 0 then some (.nilSl, h)
  else if 1 ≤ d.size ∧ 1 ≤ d.bytes ∧ k * d.bytes ≤ roomy then some (.sl (lenR h) 0 d.size k k false, appR h [.rw xs]) else none
 | .sl b off sz len cp ex =>
  if sz ≠ d.size ∨ sz = 0 then none
  else if k = 0 then some (.sl b off sz len cp ex, h)
  else if len + k ≤ cp then (writeNK h b (off + len * sz) xs).map fun h' => (.sl b off sz (len + k) cp ex, h')
  else if 1 ≤ d.bytes ∧ (len + k) * d.bytes ≤ roomy then
   (readZK h b off (len * sz)).bind fun old =>
    if ex then some (.sl (lenR h) 0 sz (len + k) (len + k) false, appR h [.rw (appR old xs)])
    else match nthR h b with
     | some (.rw cs) => if lenR cs = off + cp * sz ∧ allR AV.isCell xs = true then some (.sl (lenR h) 0 sz (len + k) (len + k) false, appR (setR h .dead b) [.rw (appR old xs)]) else none
     | _ => none
  else none
 | _ => none
noncomputable def srcK (sz n : Nat) (x : AV) (h : AHeap) : Option (List AV) :=
 match x with
 | .nilSl => some []
 | .sl b off sz' _ _ _ => if sz' = sz then readZK h b off (n * sz) else none
 | .str s => if sz = 1 then some ((s.data.toList.take n).map fun b => .int .u8 b.toNat) else none
 | _ => none
noncomputable def copyK (d : TyD) (x y : AV) (h : AHeap) : Option (AV × AHeap) :=
 (srcLen y).bind fun m =>
  match x with
  | .nilSl => some (.int .i64 0, h)
  | .sl b off sz len _ _ =>
   if sz ≠ d.size ∨ sz = 0 then none else
   (srcK sz (min m len) y h).bind fun cs =>
    if min m len = 0 then some (.int .i64 0, h)
    else (writeNK h b off cs).map fun h' => (.int .i64 ((min m len : Nat) : Int), h')
  | _ => none
noncomputable def builtinK (P : Program) (b : Builtin) (ts : List TypeId) (xs : List AV) (h : AHeap) : Option (AV × AHeap) :=
 match b, ts, xs with
 | .len, [t], [x] => keepH h (lenV P t x)
 | .cap, [t], [x] => keepH h (capV P t x)
 | .max, _, xs => keepH h (maxV xs)
 | .min, _, xs => keepH h (minV xs)
 | .copy, [t, _], [x, y] =>
  (match P.underlying t with
   | some (.slice e) => (tyD P e).bind fun d => copyK d x y h
   | _ => none)
 | .append, [t, u], [x, y] =>
  (match P.underlying t, P.underlying u with
   | some (.slice e), some (.int _) => (tyD P e).bind fun d =>
    (match y with
     | .int _ n => if 0 ≤ n ∧ 1 ≤ d.bytes ∧ n * d.bytes ≤ roomy then appendK d x n.toNat (flatR (replR d.zero n.toNat)) h else none
     | _ => none)
   | some (.slice e), some _ => (tyD P e).bind fun d => (srcLen y).bind fun k => (srcK d.size k y h).bind fun cs => appendK d x k cs h
   | _, _ => none)
 | _, _, _ => none
noncomputable def evalXK (g : Nat → AV) : Operand → AV
 | .tmp i => g i
 | .const v => ofValue v
 | .global _ => .any
 | .func f => .fn f []
noncomputable def evalOpK0 (P : Program) (g : Nat → AV) (op : Op) (h : AHeap) : Option (AV × AHeap) :=
 match op with
 | .move x => some (evalXK g x, h)
 | .assign x => some (evalXK g x, h)
 | .pick c a b => keepH h (pickV (evalXK g c) (evalXK g a) (evalXK g b))
 | .alloc e => (tyD P e).map fun d => allocK d.zero h
 | .box _ x => (cellsA (evalXK g x)).map fun cs => allocK cs h
 | .build e parts => if buildOk P e then (tyD P e).bind fun d => keepH h ((fillK (placeOf P e) d.zero (parts.toList.map fun p => (p.1, evalXK g p.2))).map .agg) else none
 | .buildSlice e len parts =>
  (match P.underlying e with
   | some (.slice el) => (tyD P el).bind fun d => buildSlK d len (parts.toList.map fun p => (p.1, evalXK g p.2)) h
   | _ => none)
 | .load e a => (tyD P e).bind fun d => keepH h (loadK d.size d.agg (evalXK g a) h)
 | .store e a x => (tyD P e).bind fun d => (storeK d.size (evalXK g a) (evalXK g x) h).map fun h' => (.undef, h')
 | .nilCheck x => keepH h (nilCheckV (evalXK g x))
 | .binOp op e x y _ => keepH h (binK op (eqK P e) (evalXK g x) (evalXK g y))
 | .unOp op _ x => keepH h (unV op (evalXK g x))
 | .convert s d x => keepH h (convK' (convK P s d) (evalXK g x) h)
 | .makeFunc (.func f) fi cs => if fi.size = 0 then some (.fn f (cs.toList.map (evalXK g)), h) else none
 | .makeSlice e l c =>
  (match P.underlying e with
   | some (.slice el) => (tyD P el).bind fun d => makeK d (evalXK g l) (evalXK g c) h
   | _ => none)
 | .slice e x lo hi mx => keepH h (sliceVK P e (evalXK g x) (lo.map (evalXK g)) (hi.map (evalXK g)) (mx.map (evalXK g)) h)
 | .fieldAddr e x f => keepH h (fieldAddrV P e (evalXK g x) f)
 | .field e x f => keepH h (fieldK P e (evalXK g x) f)
 | .indexAddr e x i => keepH h (indexAddrV P e (evalXK g x) (evalXK g i))
 | .index e x i => keepH h (indexK P e (evalXK g x) (evalXK g i))
 | .extract x i => keepH h (match evalXK g x with | .tup vs => vs[i]? | _ => none)
 | .call c =>
  (match c.callee with
   | .builtin b => builtinK P b c.argTypes.toList (c.args.toList.map (evalXK g)) h
   | _ => none)
 | _ => none
abbrev OpF := Program → (Nat → AV) → AHeap → Option (AV × AHeap)
noncomputable def oNone : OpF := fun _ _ _ => none
noncomputable def oMove (x : Operand) : OpF := fun _ g h => some (evalXK g x, h)
noncomputable def oPick (c a b : Operand) : OpF := fun _ g h => keepH h (pickV (evalXK g c) (evalXK g a) (evalXK g b))
noncomputable def oAlloc (e : TypeId) : OpF := fun P _ h => (tyD P e).map fun d => allocK d.zero h
noncomputable def oBox (_ : TypeId) (x : Operand) : OpF := fun _ g h => (cellsA (evalXK g x)).map fun cs => allocK cs h
noncomputable def oBuild (e : TypeId) (parts : Array (Nat × Operand)) : OpF := fun P g h => if buildOk P e then (tyD P e).bind fun d => keepH h ((fillK (placeOf P e) d.zero (parts.toList.map fun p => (p.1, evalXK g p.2))).map .agg) else none
noncomputable def oBuildSl (e : TypeId) (len : Nat) (parts : Array (Nat × Operand)) : OpF := fun P g h =>
  (match P.underlying e with
   | some (.slice el) => (tyD P el).bind fun d => buildSlK d len (parts.toList.map fun p => (p.1, evalXK g p.2)) h
   | _ => none)
noncomputable def oLoad (e : TypeId) (a : Operand) : OpF := fun P g h => (tyD P e).bind fun d => keepH h (loadK d.size d.agg (evalXK g a) h)
noncomputable def oStore (e : TypeId) (a x : Operand) : OpF := fun P g h => (tyD P e).bind fun d => (storeK d.size (evalXK g a) (evalXK g x) h).map fun h' => (.undef, h')
noncomputable def oNil (x : Operand) : OpF := fun _ g h => keepH h (nilCheckV (evalXK g x))
noncomputable def oBin (op : BinOp) (e : TypeId) (x y : Operand) (_ : TypeId) : OpF := fun P g h => keepH h (binK op (eqK P e) (evalXK g x) (evalXK g y))
noncomputable def oUn (op : UnOp) (_ : TypeId) (x : Operand) : OpF := fun _ g h => keepH h (unV op (evalXK g x))
noncomputable def oConv (s d : TypeId) (x : Operand) : OpF := fun P g h => keepH h (convK' (convK P s d) (evalXK g x) h)
noncomputable def oFunc (f : Fn) (fi cs : Array Operand) : OpF := fun P g h => evalOpK0 P g (.makeFunc f fi cs) h
noncomputable def oMakeSl (e : TypeId) (l c : Operand) : OpF := fun P g h =>
  (match P.underlying e with
   | some (.slice el) => (tyD P el).bind fun d => makeK d (evalXK g l) (evalXK g c) h
   | _ => none)
noncomputable def oSlice (e : TypeId) (x : Operand) (lo hi mx : Option Operand) : OpF := fun P g h => keepH h (sliceVK P e (evalXK g x) (lo.map (evalXK g)) (hi.map (evalXK g)) (mx.map (evalXK g)) h)
noncomputable def oFieldAddr (e : TypeId) (x : Operand) (f : Nat) : OpF := fun P g h => keepH h (fieldAddrV P e (evalXK g x) f)
noncomputable def oField (e : TypeId) (x : Operand) (f : Nat) : OpF := fun P g h => keepH h (fieldK P e (evalXK g x) f)
noncomputable def oIndexAddr (e : TypeId) (x i : Operand) : OpF := fun P g h => keepH h (indexAddrV P e (evalXK g x) (evalXK g i))
noncomputable def oIndex (e : TypeId) (x i : Operand) : OpF := fun P g h => keepH h (indexK P e (evalXK g x) (evalXK g i))
noncomputable def oExtract (x : Operand) (i : Nat) : OpF := fun _ g h => keepH h (match evalXK g x with | .tup vs => vs[i]? | _ => none)
noncomputable def oCall (c : Call) : OpF := fun P g h =>
  (match c.callee with
   | .builtin b => builtinK P b c.argTypes.toList (c.args.toList.map (evalXK g)) h
   | _ => none)
noncomputable def dispQ (op : Op) : OpF := Op.casesOn (motive := fun _ => OpF) op
  (move := oMove)
  (assign := oMove)
  (pick := oPick)
  (alloc := oAlloc)
  (box := oBox)
  (build := oBuild)
  (buildSlice := oBuildSl)
  (insert := fun _ _ _ _ => oNone)
  (load := oLoad)
  (store := oStore)
  (ready := fun _ => oNone)
  (waits := fun _ => oNone)
  (nilCheck := oNil)
  (binOp := oBin)
  (unOp := oUn)
  (convert := oConv)
  (sliceToArrayPointer := fun _ _ => oNone)
  (makeInterface := fun _ _ => oNone)
  (makeFunc := oFunc)
  (makeMap := fun _ _ => oNone)
  (makeChan := fun _ _ => oNone)
  (makeSlice := oMakeSl)
  (slice := oSlice)
  (fieldAddr := oFieldAddr)
  (field := oField)
  (indexAddr := oIndexAddr)
  (index := oIndex)
  (lookup := fun _ _ _ _ => oNone)
  (mapUpdate := fun _ _ _ _ => oNone)
  (mapEntry := fun _ _ _ => oNone)
  (entryStore := fun _ _ _ _ => oNone)
  (range := fun _ _ => oNone)
  (next := fun _ _ => oNone)
  (entry := fun _ => oNone)
  (typeAssert := fun _ _ _ _ => oNone)
  (extract := oExtract)
  (call := oCall)
  (go := fun _ => oNone)
  (defer := fun _ => oNone)
  (panic := fun _ => oNone)
  (send := fun _ _ => oNone)
  (recv := fun _ _ _ => oNone)
  (select := fun _ _ => oNone)
noncomputable def evalOpK (P : Program) (g : Nat → AV) (op : Op) (h : AHeap) : Option (AV × AHeap) := dispQ op P g h
end Go.Proofs.Ytekceggcbpeoeaa.Eng
end
section
namespace Go.Proofs.Ytekceggcbpeoeaa.Eng
open Go
abbrev ResK := Option (Ex × KT × AHeap)
structure EnvK where
 call : Nat → List AV → AHeap → Option (AV × AHeap)
 yield : Nat → List AV → AHeap → Option (AV × AHeap)
 loop : (KT → AHeap → ResK) → KT → AHeap → ResK
noncomputable def callVK (E : EnvK) (f : AV) (args : List AV) (h : AHeap) : Option (AV × AHeap) :=
 match f with
 | .fn g cap => E.call g (appR args cap) h
 | .yld b => E.yield b args h
 | _ => none
noncomputable def callFK (E : EnvK) (f : AV) (args : List AV) (h : AHeap) : Option (AV × AHeap) :=
 match f with
 | .fn g cap => E.call g (appR args cap) h
 | _ => none
noncomputable def evalOperK0 (P : Program) (E : EnvK) (g : Nat → AV) (op : Op) (h : AHeap) : Option (AV × AHeap) :=
 match op with
 | .call ⟨.value f, args, _⟩ => callVK E (evalXK g f) (args.toList.map (evalXK g)) h
 | op => evalOpK P g op h
noncomputable def xCall (c : Call) : EnvK → OpF := fun E P g h =>
 match c.callee with
 | .value f => callVK E (evalXK g f) (c.args.toList.map (evalXK g)) h
 | _ => oCall c P g h
noncomputable def dispE (op : Op) : EnvK → OpF := Op.casesOn (motive := fun _ => EnvK → OpF) op
  (move := fun a0 _ => oMove a0)
  (assign := fun a0 _ => oMove a0)
  (pick := fun a0 a1 a2 _ => oPick a0 a1 a2)
  (alloc := fun a0 _ => oAlloc a0)
  (box := fun a0 a1 _ => oBox a0 a1)
  (build := fun a0 a1 _ => oBuild a0 a1)
  (buildSlice := fun a0 a1 a2 _ => oBuildSl a0 a1 a2)
  (insert := fun _ _ _ _ _ => oNone)
  (load := fun a0 a1 _ => oLoad a0 a1)
  (store := fun a0 a1 a2 _ => oStore a0 a1 a2)
  (ready := fun _ _ => oNone)
  (waits := fun _ _ => oNone)
  (nilCheck := fun a0 _ => oNil a0)
  (binOp := fun a0 a1 a2 a3 a4 _ => oBin a0 a1 a2 a3 a4)
  (unOp := fun a0 a1 a2 _ => oUn a0 a1 a2)
  (convert := fun a0 a1 a2 _ => oConv a0 a1 a2)
  (sliceToArrayPointer := fun _ _ _ => oNone)
  (makeInterface := fun _ _ _ => oNone)
  (makeFunc := fun a0 a1 a2 _ => oFunc a0 a1 a2)
  (makeMap := fun _ _ _ => oNone)
  (makeChan := fun _ _ _ => oNone)
  (makeSlice := fun a0 a1 a2 _ => oMakeSl a0 a1 a2)
  (slice := fun a0 a1 a2 a3 a4 _ => oSlice a0 a1 a2 a3 a4)
  (fieldAddr := fun a0 a1 a2 _ => oFieldAddr a0 a1 a2)
  (field := fun a0 a1 a2 _ => oField a0 a1 a2)
  (indexAddr := fun a0 a1 a2 _ => oIndexAddr a0 a1 a2)
  (index := fun a0 a1 a2 _ => oIndex a0 a1 a2)
  (lookup := fun _ _ _ _ _ => oNone)
  (mapUpdate := fun _ _ _ _ _ => oNone)
  (mapEntry := fun _ _ _ _ => oNone)
  (entryStore := fun _ _ _ _ _ => oNone)
  (range := fun _ _ _ => oNone)
  (next := fun _ _ _ => oNone)
  (entry := fun _ _ => oNone)
  (typeAssert := fun _ _ _ _ _ => oNone)
  (extract := fun a0 a1 _ => oExtract a0 a1)
  (call := xCall)
  (go := fun _ _ => oNone)
  (defer := fun _ _ => oNone)
  (panic := fun _ _ => oNone)
  (send := fun _ _ _ => oNone)
  (recv := fun _ _ _ _ => oNone)
  (select := fun _ _ _ => oNone)
noncomputable def evalOperK (P : Program) (E : EnvK) (g : Nat → AV) (op : Op) (h : AHeap) : Option (AV × AHeap) := dispE op E P g h
noncomputable def putK (t : KT) (d : Option Tmp) (v : AV) : KT :=
 match d with
 | some i => t.set i v
 | none => t
noncomputable def wantedK (ops : List Oper) (g : Nat → AV) (o : Oper) : Option Bool :=
 match o.guard with
 | none => some true
 | some (j, want) =>
  match (nthR ops j).bind (·.dst) with
  | none => some false
  | some d =>
   match g d with
   | .bool b => some (b == want)
   | .any => none
   | _ => some false
noncomputable def runOpsK (P : Program) (E : EnvK) (all l : List Oper) : KT → AHeap → Option (KT × AHeap) :=
 List.rec (motive := fun _ => KT → AHeap → Option (KT × AHeap)) (fun t h => some (t, h))
  (fun o _ ih t h => (wantedK all t.get o).bind fun w =>
   bif w then (evalOperK P E t.get o.op h).bind fun r => ih (putK t o.dst r.1) r.2 else ih (putK t o.dst .undef) h) l
mutual
def AV.eqK : AV → AV → Bool
 | .int k a, .int k' b => decide (k = k') && decide (a = b)
 | .bool a, .bool b => a == b
 | .nilPtr, .nilPtr => true
 | .ptr b o, .ptr b' o' => Nat.beq b b' && Nat.beq o o'
 | .nilSl, .nilSl => true
 | .sl b o z l c e, .sl b' o' z' l' c' e' => Nat.beq b b' && (Nat.beq o o' && (Nat.beq z z' && (Nat.beq l l' && (Nat.beq c c' && (e == e')))))
 | .agg x, .agg y => eqKs x y
 | .fn f x, .fn g y => Nat.beq f g && eqKs x y
 | .yld b, .yld b' => Nat.beq b b'
 | .nilFn, .nilFn => true
 | _, _ => false
def eqKs : List AV → List AV → Bool
 | [], [] => true
 | a :: x, b :: y => a.eqK b && eqKs x y
 | _, _ => false
end
mutual
theorem AV.eqK_eq : ∀ (a b : AV), a.eqK b = true → a = b
 | .int k a, b, h => by
  cases b <;> simp [AV.eqK] at h
  obtain ⟨rfl, rfl⟩ := h; rfl
 | .bool a, b, h => by cases b <;> simp [AV.eqK] at h; subst h; rfl
 | .str _, b, h => by cases b <;> simp [AV.eqK] at h
 | .nilPtr, b, h => by cases b <;> simp [AV.eqK] at h; rfl
 | .ptr _ _, b, h => by cases b <;> simp [AV.eqK] at h; obtain ⟨rfl, rfl⟩ := h; rfl
 | .nilSl, b, h => by cases b <;> simp [AV.eqK] at h; rfl
 | .sl _ _ _ _ _ _, b, h => by cases b <;> simp [AV.eqK] at h; obtain ⟨rfl, rfl, rfl, rfl, rfl, rfl⟩ := h; rfl
 | .agg x, b, h => by
  cases b <;> simp [AV.eqK] at h
  rw [eqKs_eq _ _ h]
 | .tup _, b, h => by cases b <;> simp [AV.eqK] at h
 | .fn _ x, b, h => by
  cases b <;> simp [AV.eqK] at h
  rw [h.1, eqKs_eq _ _ h.2]
 | .yld _, b, h => by cases b <;> simp [AV.eqK] at h; subst h; rfl
 | .nilFn, b, h => by cases b <;> simp [AV.eqK] at h; rfl
 | .undef, b, h => by cases b <;> simp [AV.eqK] at h
 | .any, b, h => by cases b <;> simp [AV.eqK] at h
theorem eqKs_eq : ∀ (a b : List AV), eqKs a b = true → a = b
 | [], b, h => by cases b <;> simp [eqKs] at h; rfl
 | a :: x, b, h => by
  cases b <;> simp [eqKs] at h
  rw [AV.eqK_eq _ _ h.1, eqKs_eq _ _ h.2]
end
noncomputable def chkK (m : Nat) (h : AHeap) (l : List Open) : Bool :=
 List.rec (motive := fun _ => Bool) true (fun o _ ih => bif (m.testBit o.at_ || (match o.again h with | some p => p.1.eqK o.val | none => false)) then ih else false) l
inductive SK where
 | op (o : Oper)
 | rd (i : Nat) (o : Oper)
 | hv (m : Nat) (o : Oper)
 | bad
def sched (ops : Array Oper) (M : List Nat) : Nat → Array Bool → List SK
 | 0, _ => [.bad]
 | n + 1, listed =>
  match Region.ready .any ops listed with
  | [] => []
  | r0 :: rest =>
   match (r0 :: rest).find? (quietAt ops) with
   | some i =>
    (match ops[i]? with
     | some o => (if readsOp o.op then .rd i o else .op o) :: sched ops M n (listed.setIfInBounds i true)
     | none => [.bad])
   | none =>
    if rest.isEmpty then
     (match ops[r0]? with
      | some o => .hv (M.getD r0 0) o :: sched ops M n (listed.setIfInBounds r0 true)
      | none => [.bad])
    else [.bad]
noncomputable def runSK (P : Program) (E : EnvK) (all : List Oper) (l : List SK) : KT → AHeap → List Open → Option (KT × AHeap) :=
 List.rec (motive := fun _ => KT → AHeap → List Open → Option (KT × AHeap)) (fun t h _ => some (t, h))
  (fun s _ ih t h os =>
   match s with
   | .op o => (wantedK all t.get o).bind fun w => bif w then (evalOpK P t.get o.op h).bind fun r => ih (putK t o.dst r.1) r.2 os else ih (putK t o.dst .undef) h os
   | .rd i o => (wantedK all t.get o).bind fun w => bif w then (evalOpK P t.get o.op h).bind fun r => ih (putK t o.dst r.1) r.2 (⟨i, evalOpK P t.get o.op, r.1⟩ :: os) else ih (putK t o.dst .undef) h os
   | .hv m o => (wantedK all t.get o).bind fun w => bif w then (evalOperK P E t.get o.op h).bind fun r => bif chkK m r.2 os then ih (putK t o.dst r.1) r.2 os else none else ih (putK t o.dst .undef) h os
   | .bad => none) l
def seqRK (r : ResK) (k : KT → AHeap → ResK) : ResK :=
 match r with
 | some (.normal, t, h) => k t h
 | r => r
def blockRK (id : Nat) (r : ResK) : ResK :=
 match r with
 | some (.exit j, t, h) => if j = id then some (.normal, t, h) else some (.exit j, t, h)
 | r => r
def condRK (c : AV) (a b : ResK) : ResK :=
 match c with
 | .bool true => a
 | .bool false => b
 | _ => none
def normRK (r : Option (KT × AHeap)) : ResK := r.map fun p => (.normal, p.1, p.2)
noncomputable def rangeEndK (l : Nat) (t : KT) (r : Option (AV × AHeap)) : ResK :=
 r.bind fun p =>
  match nthR p.2 l with
  | some (.loop L) => if L.st = .busy then none else some (L.pend, t, setR p.2 (.loop { L with st := .exhausted }) l)
  | _ => none
noncomputable def KT.listK (t : KT) : List AV :=
 takeR (List.rec (motive := fun _ => List AV) [] (fun r _ ih => r.a :: r.b :: r.c :: r.d :: r.e :: r.f :: r.g :: r.h :: ih) t.rows) t.n
noncomputable def evalCodeK (P : Program) (E : EnvK) (c : Code) : KT → AHeap → ResK :=
 Code.rec (motive := fun _ => KT → AHeap → ResK)
  (skip := fun t h => some (.normal, t, h))
  (label := fun _ t h => some (.normal, t, h))
  (region := fun _ ops draw t h => normRK (bif draw then (bif drawOk ops then runSK P E ops.toList (sched ops (masks ops) (ops.size + 1) (Array.replicate ops.size false)) t h [] else none) else runOpsK P E ops.toList ops.toList t h))
  (seq := fun _ _ ia ib t h => seqRK (ia t h) ib)
  (cond := fun c _ _ ia ib t h => condRK (evalXK t.get c) (ia t h) (ib t h))
  (block := fun id _ ib t h => blockRK id (ib t h))
  (loop := fun _ ib t h => E.loop ib t h)
  (scope := fun _ ib t h => ib t h)
  (exit := fun id t h => some (.exit id, t, h))
  (ret := fun t h => some (.ret, t, h))
  (goto := fun _ _ _ => none)
  (refuse := fun _ _ _ => none)
  (rangeFunc := fun f ps assign body _ _ t h => rangeEndK (lenR h) t (callFK E (evalXK t.get f) [.yld (lenR h)] (appR h [.loop ⟨.ready, .normal, t.listK, ps.toList, assign, body⟩])))
  c
end Go.Proofs.Ytekceggcbpeoeaa.Eng
end
section
namespace Go.Proofs.Ytekceggcbpeoeaa.Eng
open Go
def LeR (a : ResK) (b : Res) : Prop := ∀ e t h, a = some (e, t, h) → b = some (e, t.toT, h)
def LeP (a : Option (KT × AHeap)) (b : Option (List AV × AHeap)) : Prop := ∀ t h, a = some (t, h) → b = some (t.toT, h)
structure EnvK.le (E : EnvK) (E' : Env) : Prop where
 call : ∀ f a h, Le (E.call f a h) (E'.call f a h)
 yield : ∀ f a h, Le (E.yield f a h) (E'.yield f a h)
 loop : ∀ (b : KT → AHeap → ResK) (b' : List AV → AHeap → Res), (∀ t h, LeR (b t h) (b' t.toT h)) → ∀ t h, LeR (E.loop b t h) (E'.loop b' t.toT h)
section
variable {P : Program} {E : EnvK} {E' : Env}
def Keeps (os : List Open) : Prop := ∀ o ∈ os, ∀ h r, o.again h = some r → r.2 = h
end
end Go.Proofs.Ytekceggcbpeoeaa.Eng
end
section
namespace Go.Proofs.Ytekceggcbpeoeaa.Eng
open Go
noncomputable def underK (n : Nat) (v : AV) : Bool :=
 match v with
 | .int _ _ => true
 | .bool _ => true
 | .ptr b _ => decide (b < n)
 | .sl b _ _ _ _ _ => decide (b < n)
 | v => v.under n
noncomputable def blkK (n : Nat) (k : ABlk) : Bool := allR (underK n) k.vals
noncomputable def tailK (n : Nat) (x : AHeap) : AHeap → Option Bool :=
 List.rec (motive := fun _ => AHeap → Option Bool) (fun _ => some true)
  (fun a _ ih y => List.rec (motive := fun _ => Option Bool) none (fun b y _ => bif blkK n b then ih y else bif blkK n a then some false else none) y) x
noncomputable def trimK (h : AHeap) (r : Option (AV × AHeap)) : Option (AV × AHeap) :=
 r.bind fun p => (fun n => bif Nat.beq (lenR p.2) n then some p else bif underK n p.1 then (bif Nat.ble n (lenR p.2) then (tailK n h p.2).map (fun b => bif b then (p.1, takeR p.2 n) else p) else none) else some p) (lenR h)
noncomputable def resultK (P : Program) (t : KT) (h : AHeap) : List ResultVar → Option (List AV)
 | [] => some []
 | .tmp i :: r => (resultK P t h r).map fun vs => t.get i :: vs
 | .cell a e :: r => (tyD P e).bind fun d => (loadK d.size d.agg (t.get a) h).bind fun v => (resultK P t h r).map fun vs => v :: vs
noncomputable def finishK (P : Program) (fn : Func) (r : ResK) : Option (AV × AHeap) :=
 match r with
 | some (.normal, t, h) => (resultK P t h fn.results.toList).map fun vs => (oneOf vs, h)
 | some (.ret, t, h) => (resultK P t h fn.results.toList).map fun vs => (oneOf vs, h)
 | _ => none
noncomputable def callK (P : Program) (E : EnvK) (f : Nat) (args : List AV) (h : AHeap) : Option (AV × AHeap) :=
 trimK h (match P.funcs[f]? with
 | some fn =>
  match fn.body with
  | some c => finishK P fn (evalCodeK P E c (KT.of (appR args (replR .undef (fn.ntmps - lenR args)))) h)
  | none => none
 | none => none)
noncomputable def roundEndK (l : Nat) (r : ResK) : Option (AV × AHeap) :=
 r.bind fun p =>
  match nthR p.2.2 l with
  | some (.loop L) => some (.bool p.1.isNormal, setR p.2.2 (.loop { L with st := if p.1.isNormal then .ready else .done, pend := p.1 }) l)
  | _ => none
noncomputable def roundMidK (P : Program) (E : EnvK) (l : Nat) (c : Code) (r : ResK) : Option (AV × AHeap) :=
 match r with
 | some (.normal, t, h) =>
  match nthR h l with
  | some (.loop L) => if L.st = .ready then roundEndK l (evalCodeK P E c t (setR h (.loop { L with st := .busy }) l)) else none
  | _ => none
 | _ => none
noncomputable def putsK (ps : List Nat) : List AV → List AV → List AV :=
 List.rec (motive := fun _ => List AV → List AV → List AV) (fun _ t => t) (fun p _ ih as t => List.rec (motive := fun _ => List AV) t (fun a as _ => ih as (setR t a p)) as) ps
noncomputable def yieldK (P : Program) (E : EnvK) (l : Nat) (args : List AV) (h : AHeap) : Option (AV × AHeap) :=
 trimK h (match nthR h l with
 | some (.loop L) => if args.length = L.params.length then roundMidK P E l L.body (evalCodeK P E L.assign (KT.of (putsK L.params args L.tmps)) h) else none
 | _ => none)
noncomputable def loopNK (n : Nat) : (KT → AHeap → ResK) → KT → AHeap → ResK :=
 fun b => Nat.rec (motive := fun _ => KT → AHeap → ResK) (fun _ _ => none) (fun _ ih t h => seqRK (b t h) ih) n
def fuelK (k : Nat) : Nat := 10 * k + 2000
noncomputable def envK (P : Program) (n : Nat) : EnvK :=
 Nat.rec (motive := fun _ => EnvK) ⟨fun _ _ _ => none, fun _ _ _ => none, loopNK 0⟩ (fun k ih => ⟨callK P ih, yieldK P ih, loopNK (fuelK k)⟩) n
def okT (r : Option (AV × AHeap)) : Bool := match r with | some (.bool true, []) => true | _ => false
end Go.Proofs.Ytekceggcbpeoeaa.Eng
end
section
namespace Go.Proofs.Ytekceggcbpeoeaa.Eng
open Go Go.ChangeShapes Go.WideShapes Go.ChangeAt Go.RowKit
mutual
theorem VRel.bare {φ ψ : Ren} : ∀ {a : AV} {v : Value}, a.under 0 = true → VRel φ a v → VRel ψ a v
 | _, _, _, .int k n => .int k n
 | _, _, _, .bool b => .bool b
 | _, _, _, .str s => .str s
 | _, _, _, .nilPtr => .nilPtr
 | _, _, u, .ptr _ => by simp [AV.under] at u
 | _, _, _, .nilSl => .nilSl
 | _, _, u, .sl _ _ _ _ _ _ => by simp [AV.under] at u
 | _, _, u, .agg h => .agg (VRels.bare (by simpa [AV.under] using u) h)
 | _, _, u, .tup h => .tup (VRels.bare (by simpa [AV.under] using u) h)
 | _, _, u, .fn h => .fn (VRels.bare (by simpa [AV.under] using u) h)
 | _, _, u, .yld _ => by simp [AV.under] at u
 | _, _, _, .nilFn => .nilFn
 | _, _, _, .undef => .undef
 | _, _, _, .any v => .any v
theorem VRels.bare {φ ψ : Ren} : ∀ {a : List AV} {v : List Value}, underAll 0 a = true → VRels φ a v → VRels ψ a v
 | _, _, _, .nil => .nil
 | _, _, u, .cons h t => by
  simp only [underAll, Bool.and_eq_true] at u
  exact .cons (VRel.bare u.1 h) (VRels.bare u.2 t)
end
theorem envL_sound {P : Program} (g : Good P) : SoundE P (envL P) where
 call f args h v h' hv := by
  obtain ⟨n, hn⟩ := lim_some hv
  exact (envN_sound g n).call _ _ _ _ _ hn
 yield b args h v h' hv := by
  obtain ⟨n, hn⟩ := lim_some hv
  exact (envN_sound g n).yield _ _ _ _ _ hn
 loop b t h r hr := lim_some hr
abbrev Known := Nat → List AV → Option AV
noncomputable def envO (P : Program) (O : Known) : Env :=
 ⟨fun f args h => match O f args with | some v => some (v, h) | none => (envL P).call f args h, (envL P).yield, (envL P).loop⟩
def Known.Ok (P : Program) (O : Known) : Prop := ∀ f args v, O f args = some v → underAll 0 args = true ∧ v.under 0 = true ∧ (envL P).call f args [] = some (v, [])
def knows (fw : Nat) : Known := fun f args => if f = fw ∧ args.isEmpty = true then some (.bool true) else none
theorem o_loop (P : Program) (O : Known) : (envO P O).loop = (envL P).loop := rfl
theorem o_yield (P : Program) (O : Known) : (envO P O).yield = (envL P).yield := rfl
theorem body_tr {P : Program} {E : Env} {f : Nat} {fn : Func} {c : Code} {b : CT} {rs : List RV} (tab : Nat → Cert) (hf : P.funcs[f]? = some fn) (hc : fn.body = some c) (hb : treeT P E tab c = some b) (hr : ∀ t h, resultV P t h fn.results.toList = resS t h rs)
  {n : Nat} (hn : fn.ntmps = n) (args : List AV) (h : AHeap) : callBody P E f args h = trim h (fin rs (runC E b (args ++ List.replicate (n - args.length) .undef) h)) := by
 unfold callBody callRaw
 rw [hf]
 simp only [hc, hn]
 rw [code_tr tab hb]
 generalize runC E b (args ++ List.replicate (n - args.length) .undef) h = r
 congr 1
 unfold finishV fin
 cases r with
 | none => rfl
 | some p => obtain ⟨e, t, h⟩ := p; cases e <;> simp only [hr]
end Go.Proofs.Ytekceggcbpeoeaa.Eng
end
section
namespace Go.Proofs.Ytekceggcbpeoeaa.Eng
open Go
theorem eq_nn : binV .eql .ptr .nilPtr .nilPtr = some (.bool true) := rfl
theorem ne_nn : binV .neq .ptr .nilPtr .nilPtr = some (.bool false) := rfl
theorem eq_pn (b o : Nat) : binV .eql .ptr (.ptr b o) .nilPtr = some (.bool false) := rfl
theorem ne_pn (b o : Nat) : binV .neq .ptr (.ptr b o) .nilPtr = some (.bool true) := rfl
theorem eq_snn : binV .eql .slice .nilSl .nilSl = some (.bool true) := rfl
theorem ne_snn : binV .neq .slice .nilSl .nilSl = some (.bool false) := rfl
theorem eq_ssn (b o z l c : Nat) (e : Bool) : binV .eql .slice (.sl b o z l c e) .nilSl = some (.bool false) := rfl
theorem ne_ssn (b o z l c : Nat) (e : Bool) : binV .neq .slice (.sl b o z l c e) .nilSl = some (.bool true) := rfl
theorem len_nil : lenSl .nilSl = some (.int .i64 0) := rfl
theorem len_sl (b o z l c : Nat) (e : Bool) : lenSl (.sl b o z l c e) = some (.int .i64 l) := rfl
theorem ext_tup (vs : List AV) (i : Nat) : extractS (.tup vs) i = vs[i]? := rfl
theorem nil_ptr (b o : Nat) : nilCheckV (.ptr b o) = some (.ptr b o) := rfl
theorem under_nilPtr (n : Nat) : (AV.nilPtr).under n = true := by simp [AV.under]
theorem under_nilSl (n : Nat) : (AV.nilSl).under n = true := by simp [AV.under]
theorem under_undef (n : Nat) : (AV.undef).under n = true := by simp [AV.under]
theorem min2 (k k' : IntKind) (x y : Int) : minV [.int k x, .int k' y] = some (.int k (if y < x then y else x)) := rfl
theorem max2 (k k' : IntKind) (x y : Int) : maxV [.int k x, .int k' y] = some (.int k (if y > x then y else x)) := rfl
theorem conv_int (k k' : IntKind) (n : Int) (h : AHeap) : convV (.int k) (.int k' n) h = some (.int k (k.wrap n)) := rfl
theorem oneOf_three (a b c : AV) : oneOf [a, b, c] = .tup [a, b, c] := rfl
theorem fill_nil (cs : List AV) : fillS cs [] = some cs := rfl
theorem fill_cons (cs : List AV) (o n : Nat) (v : AV) (r : List (Nat × Nat × AV)) : fillS cs ((o, n, v) :: r) = (cellsA v).bind fun c => if c.length = n ∧ o + n ≤ cs.length then fillS (splice cs o c) r else none := rfl
theorem cellsA_int (k : IntKind) (n : Int) : cellsA (.int k n) = some [.int k n] := rfl
theorem cellsA_bool (b : Bool) : cellsA (.bool b) = some [.bool b] := rfl
theorem cellsA_agg (cs : List AV) : cellsA (.agg cs) = some cs := rfl
theorem cellsA_ptr (b o : Nat) : cellsA (.ptr b o) = some [.ptr b o] := rfl
theorem cellsA_nilPtr : cellsA .nilPtr = some [.nilPtr] := rfl
theorem cellsA_nilSl : cellsA .nilSl = some [.nilSl] := rfl
theorem cellsA_sl (b o z l c : Nat) (e : Bool) : cellsA (.sl b o z l c e) = some [.sl b o z l c e] := rfl
theorem cellsA_fn (f : Nat) (cs : List AV) : cellsA (.fn f cs) = some [.fn f cs] := rfl
theorem asI_none (d : Int) : asI none d = some d := rfl
theorem asI_int (k : IntKind) (n d : Int) : asI (some (.int k n)) d = some n := rfl
theorem cell_ptr (b o : Nat) : (AV.ptr b o).isCell = true := rfl
theorem cell_nilPtr : (AV.nilPtr).isCell = true := rfl
theorem cell_nilSl : (AV.nilSl).isCell = true := rfl
theorem cell_sl (b o z l c : Nat) (e : Bool) : (AV.sl b o z l c e).isCell = true := rfl
theorem idx_sl (b o s len lo : Nat) (e : Bool) (k : IntKind) (j : Int) : idxAddrS s (.sl b o s len lo e) (.int k j) = if 1 ≤ s ∧ 0 ≤ j ∧ j < len then some (.ptr b (o + j.toNat * s)) else none := by simp [idxAddrS]
def rep (n : Nat) (v : AV) : List AV := List.replicate n v
theorem rep_len (n : Nat) (v : AV) : (rep n v).length = n := by simp [rep]
theorem rep_take (n : Nat) (v : AV) : (rep n v).take n = rep n v := by simp [rep]
theorem rep_cell (n : Nat) (v : AV) (h : v.isCell = true) : (rep n v).all AV.isCell = true := by simp [rep, h]
theorem splice_long (cs vs : List AV) (off : Nat) (h : vs.length ≠ 1) : splice cs off vs = cs.take off ++ vs ++ cs.drop (off + vs.length) := by
 unfold splice
 split
 ·exact absurd rfl h
 ·rfl
theorem splice_rep (cs : List AV) (n : Nat) (v : AV) (h1 : n ≠ 1) (h2 : cs.length = n) : splice cs 0 (rep n v) = rep n v := by
 rw [splice_long _ _ _ (by rw [rep_len]; exact h1), rep_len, List.take_zero, List.nil_append, Nat.zero_add, List.drop_of_length_le (by omega), List.append_nil]
theorem rep_under (n m : Nat) (v : AV) (h : v.under m = true) : underAll m (rep n v) = true := by
 induction n with
 | zero => rfl
 | succ n ih => show underAll m (v :: rep n v) = true; simp only [underAll, h, ih, Bool.and_self]
theorem eqCells_refl : ∀ (l : List AV), (∀ v ∈ l, ∃ k n, v = .int k n) → eqCells l l = some true
 | [], _ => rfl
 | a :: l, h => by
  obtain ⟨k, n, rfl⟩ := h a (by simp)
  simp only [eqCells, eqCell, if_true, beq_self_eq_true, Option.bind_some, eqCells_refl l (fun v hv => h v (by simp [hv])), Option.map_some, Bool.and_self]
theorem eq_rep (n : Nat) (k : IntKind) (x : Int) : binV .eql (.flat n) (.agg (rep n (.int k x))) (.agg (rep n (.int k x))) = some (.bool true) := by
 have := eqCells_refl (rep n (.int k x)) (fun v hv => ⟨k, x, by simpa [rep] using (List.mem_replicate.1 hv).2⟩)
 simp [binV, eqV, rep_len, this]
variable {P : Program}
end Go.Proofs.Ytekceggcbpeoeaa.Eng
end
section
namespace Go.Proofs.Ytekceggcbpeoeaa.Eng
open Go
variable {P : Program}
def OkSl (w : World) (v : Value) : Prop := v = .slice none 0 0 ∨ ∃ a len cap o, v = .slice (some a) len cap ∧ len ≤ cap ∧ a.spot = none ∧ w.heap[a.block]? = some o ∧ ∃ C tt fz, o = .cells C tt fz
theorem shape_some {w : World} {b : Nat} {x : TypeId × Nat} (h : w.shape? b = some x) : ∃ o, w.heap[b]? = some o ∧ ∃ C tt fz, o = .cells C tt fz := by
 unfold World.shape? at h
 cases ho : w.heap[b]? with
 | none => rw [ho] at h; cases h
 | some o =>
  rw [ho] at h
  cases o <;> first | exact ⟨_, rfl, _, _, _, rfl⟩ | cases h
theorem cell_sl_of {w : World} {r : Reach} {b : Nat} {t e : TypeId} {v : Value} (ht : P.underlying t = some (.slice e)) (h : Cell.okWide P w r b t v) : OkSl w v := by
 unfold Cell.okWide at h
 rw [ht] at h
 have h2 : Cell.ok P w r b t v := by cases v <;> exact h
 clear h
 unfold Cell.ok at h2
 rw [ht] at h2
 cases v with
 | slice p len cap =>
  cases p with
  | none =>
   cases len with
   | zero => cases cap with
    | zero => exact .inl rfl
    | succ n => exact h2.elim
   | succ n => exact h2.elim
  | some a =>
   obtain ⟨h1, _, _, hs, row, cells, hsh, _⟩ := h2
   obtain ⟨o, ho⟩ := shape_some hsh
   exact .inr ⟨a, len, cap, o, rfl, h1, hs, ho⟩
 | _ => exact h2.elim
theorem okv_sl {w : World} {r : Reach} {b : Nat} {t e : TypeId} {v : Value} (ht : P.underlying t = some (.slice e)) (h : Value.okWide P w r b t v) : OkSl w v := by
 unfold Value.okWide at h
 rw [ht] at h
 simp only at h
 exact cell_sl_of ht h
def slA (i sz : Nat) : Value → AV
 | .slice (some _) len _ => .sl i 0 sz len len false
 | _ => .nilSl
def slE (sz : Nat) : Value → Option Ent
 | .slice (some a) _ cap => some ⟨a.block, a.off, a.off + cap * sz⟩
 | _ => none
def slR (sz : Nat) (vs : List Value) : Ren := fun i => (vs[i]?).bind (slE sz)
def IsSl (a : AV) : Prop := a = .nilSl ∨ ∃ b o z l c e, a = .sl b o z l c e
theorem IsSl.len {a : AV} (h : IsSl a) : ∃ n : Nat, lenSl a = some (.int .i64 n) := by
 rcases h with rfl | ⟨b, o, z, l, c, e, rfl⟩
 ·exact ⟨0, rfl⟩
 ·exact ⟨l, rfl⟩
theorem IsSl.cell {a : AV} (h : IsSl a) : a.isCell = true := by
 rcases h with rfl | ⟨b, o, z, l, c, e, rfl⟩ <;> rfl
theorem IsSl.cells {a : AV} (h : IsSl a) : cellsA a = some [a] := by
 rcases h with rfl | ⟨b, o, z, l, c, e, rfl⟩ <;> rfl
theorem trim_any (h h1 : AHeap) (v : AV) : ∃ h', trim h (some (v, h1)) = some (v, h') := by
 unfold trim
 simp only [Option.map_some]
 split
 ·exact ⟨_, rfl⟩
 ·exact ⟨_, rfl⟩
end Go.Proofs.Ytekceggcbpeoeaa.Eng
end
section
namespace Go.Proofs.Ytekceggcbpeoeaa.Eng
open Go Go.ChangeShapes Go.WideShapes Go.ChangeAt Go.RowKit
def u8s (zs : List Int) : List AV := zs.map (AV.int .u8)
theorem u8s_len (zs : List Int) : (u8s zs).length = zs.length := by simp [u8s]
theorem u8s_get {zs : List Int} {i : Nat} {z : Int} (h : zs[i]? = some z) : (u8s zs)[i]? = some (.int .u8 z) := by simp [u8s, h]
theorem u8s_cell (zs : List Int) : (u8s zs).all AV.isCell = true := by simp [u8s, AV.isCell]
theorem cells_old {H x : AHeap} {p : Nat} {cs : List AV} (hp : cellsOf H p = some cs) : cellsOf (H ++ x) p = some cs := by
 have hlt : p < H.length := by
  unfold cellsOf at hp
  cases h : H[p]? with
  | none => rw [h] at hp; cases hp
  | some k => exact (List.getElem?_eq_some_iff.1 h).1
 unfold cellsOf at hp ⊢
 rw [List.getElem?_append_left hlt]; exact hp
def BS (H : AHeap) (v : AV) (zs : List Int) : Prop :=
 (v = .nilSl ∧ zs = []) ∨ ∃ b o l e cs, v = .sl b o 1 zs.length l e ∧ cellsOf H b = some cs ∧ (∀ i z, zs[i]? = some z → cs[o + i]? = some (.int .u8 z)) ∧ o + zs.length ≤ cs.length
theorem BS.len {H : AHeap} {v : AV} {zs : List Int} (h : BS H v zs) : lenSl v = some (.int .i64 zs.length) := by
 rcases h with ⟨rfl, rfl⟩ | ⟨b, o, l, e, cs, rfl, _⟩ <;> rfl
theorem BS.mono {H : AHeap} {v : AV} {zs : List Int} (h : BS H v zs) (G : AHeap) : BS (H ++ G) v zs := by
 rcases h with h | ⟨b, o, l, e, cs, rfl, hc, h⟩
 ·exact .inl h
 ·exact .inr ⟨b, o, l, e, cs, rfl, cells_old hc, h⟩
theorem BS.is {H : AHeap} {v : AV} {zs : List Int} (h : BS H v zs) : IsSl v := by
 rcases h with ⟨rfl, rfl⟩ | ⟨b, o, l, e, cs, rfl, _⟩
 ·exact .inl rfl
 ·exact .inr ⟨_, _, _, _, _, _, rfl⟩
theorem BS.idx {H : AHeap} {v : AV} {zs : List Int} (h : BS H v zs) {i : Nat} {z : Int} (hz : zs[i]? = some z) (k : IntKind) :
  ∃ a, idxAddrS 1 v (.int k (i : Int)) = some a ∧ loadV 1 false a H = some (.int .u8 z) := by
 have hlt := (List.getElem?_eq_some_iff.1 hz).1
 rcases h with ⟨_, rfl⟩ | ⟨b, o, l, e, cs, rfl, hc, hg, hl⟩
 ·simp at hz
 ·refine ⟨.ptr b (o + i), ?_, ?_⟩
  ·rw [idx_sl, if_pos ⟨Nat.le_refl _, by omega, by omega⟩]; simp
  ·show read1 H b (o + i) = _
   unfold read1
   rw [hc]; exact hg i z hz
theorem BS.read {H : AHeap} {v : AV} {zs : List Int} (h : BS H v zs) : srcLen v = some zs.length ∧ srcCells 1 zs.length v H = some (u8s zs) := by
 rcases h with ⟨rfl, rfl⟩ | ⟨b, o, l, e, cs, rfl, hc, hg, hl⟩
 ·exact ⟨rfl, rfl⟩
 ·refine ⟨rfl, ?_⟩
  unfold srcCells readN
  simp only [if_true, hc, Option.bind_some, Nat.mul_one, if_pos hl, Option.some.injEq]
  apply List.ext_getElem?
  intro i
  by_cases hi : i < zs.length
  ·rw [List.getElem?_take, if_pos hi, List.getElem?_drop, hg i _ (List.getElem?_eq_getElem hi), u8s_get (List.getElem?_eq_getElem hi)]
  ·rw [List.getElem?_take, if_neg hi, List.getElem?_eq_none (by rw [u8s_len]; omega)]
theorem BS.block {H : AHeap} {b : Nat} {zs : List Int} {l : Nat} {e : Bool} (h : H[b]? = some (.rw (u8s zs))) : BS H (.sl b 0 1 zs.length l e) zs :=
 .inr ⟨b, 0, l, e, u8s zs, rfl, by unfold cellsOf; rw [h], fun i z hz => by rw [Nat.zero_add]; exact u8s_get hz, by rw [u8s_len]; omega⟩
theorem BS.nil (H : AHeap) : BS H .nilSl [] := .inl ⟨rfl, rfl⟩
theorem bytesOf_u8s : ∀ zs : List Int, bytesOf (u8s zs) = some (zs.map fun n => UInt8.ofNat n.toNat)
 | [] => rfl
 | z :: zs => by
  show ((bytesOf (u8s zs)).map _) = _
  rw [bytesOf_u8s zs]; rfl
theorem loop_list (bs : ByteArray) : ∀ (n i : Nat) (r : List UInt8), bs.size - i = n → ByteArray.toList.loop bs i r = r.reverse ++ bs.data.toList.drop i := by
 intro n
 induction n with
 | zero =>
  intro i r hn
  unfold ByteArray.toList.loop
  have : ¬ i < bs.size := by omega
  rw [if_neg this, List.drop_of_length_le (by have : bs.data.toList.length = bs.size := rfl; omega), List.append_nil]
 | succ n ih =>
  intro i r hn
  unfold ByteArray.toList.loop
  have hi : i < bs.size := by omega
  rw [if_pos hi, ih (i + 1) _ (by omega)]
  have hl : bs.data.toList.length = bs.size := rfl
  rw [List.drop_eq_getElem_cons (i := i) (by omega)]
  simp only [List.reverse_cons, List.append_assoc, List.singleton_append]
  congr 2
  simp [ByteArray.get!, hi]
theorem ba_toList (bs : ByteArray) : bs.toList = bs.data.toList := by
 unfold ByteArray.toList
 rw [loop_list bs _ 0 [] rfl]; rfl
theorem BS.str {H : AHeap} {v : AV} {zs : List Int} (h : BS H v zs) : ∃ s, convV .bytesStr v H = some (.str s) ∧ s.toList = zs.map fun n => UInt8.ofNat n.toNat := by
 rcases h with ⟨rfl, rfl⟩ | ⟨b, o, l, e, cs, rfl, hc, hg, hl⟩
 ·exact ⟨_, rfl, by rw [ba_toList]; rfl⟩
 ·have h2 := (BS.read (H := H) (v := .sl b o 1 zs.length l e) (zs := zs) (.inr ⟨b, o, l, e, cs, rfl, hc, hg, hl⟩)).2
  unfold srcCells at h2
  simp only [if_true, Nat.mul_one] at h2
  refine ⟨⟨(zs.map fun n => UInt8.ofNat n.toNat).toArray⟩, ?_, ba_toList _⟩
  unfold convV
  simp only [if_true, h2, Option.bind_some, bytesOf_u8s, Option.map_some]
def IsU8 (zs : List Int) : Prop := ∀ z ∈ zs, 0 ≤ z ∧ z ≤ 255
variable {P : Program} {H : Type} {enc : TypeId × Value → H}
structure ArgB (w : World) (v : Value) (k : ABlk) (oe : Option Ent) (a : Nat → AV) (zs : List Int) : Prop where
 own : k.own = false
 blk : ∀ e, oe = some e → ∃ o, w.heap[e.blk]? = some o ∧ ∀ φ, BlkRel φ k e o
 rel : ∀ φ i, φ i = oe → VRel φ (a i) v
 bs : ∀ (h : AHeap) i, h[i]? = some k → BS h (a i) zs
 u8 : IsU8 zs
end Go.Proofs.Ytekceggcbpeoeaa.Eng
end
section
namespace Go.Proofs.Ytekceggcbpeoeaa.Eng
open Go
theorem trim_dirty {h h1 : AHeap} {v : AV} (b : Nat) (k k' : ABlk) (a : AV) (hb : h[b]? = some k) (hk : h1[b]? = some k') (ha : a ∈ k'.vals) (hu : a.under h.length = false) (ho : ∀ c ∈ k.vals, c.under h.length = true) : trim h (some (v, h1)) = some (v, h1) := by
 unfold trim
 simp only [Option.map_some]
 rw [if_neg]
 rintro ⟨_, _, ht⟩
 rcases ht b k' (List.getElem?_eq_some_iff.1 hb).1 hk a ha with hx | ⟨k2, hk2, ha2⟩
 ·rw [hu] at hx; cases hx
 ·rw [hb] at hk2; injection hk2 with hk2; subst hk2
  rw [ho a ha2] at hu; cases hu
def i64s (zs : List Int) : List AV := zs.map (AV.int .i64)
theorem i64s_len (zs : List Int) : (i64s zs).length = zs.length := by simp [i64s]
theorem i64s_get {zs : List Int} {i : Nat} {z : Int} (h : zs[i]? = some z) : (i64s zs)[i]? = some (.int .i64 z) := by simp [i64s, h]
def IS (H : AHeap) (v : AV) (zs : List Int) : Prop :=
 (v = .nilSl ∧ zs = []) ∨ ∃ b o l e cs, v = .sl b o 1 zs.length l e ∧ cellsOf H b = some cs ∧ (∀ i z, zs[i]? = some z → cs[o + i]? = some (.int .i64 z)) ∧ o + zs.length ≤ cs.length
theorem IS.len {H : AHeap} {v : AV} {zs : List Int} (h : IS H v zs) : lenSl v = some (.int .i64 zs.length) := by
 rcases h with ⟨rfl, rfl⟩ | ⟨b, o, l, e, cs, rfl, _⟩ <;> rfl
theorem IS.mono {H : AHeap} {v : AV} {zs : List Int} (h : IS H v zs) (G : AHeap) : IS (H ++ G) v zs := by
 rcases h with h | ⟨b, o, l, e, cs, rfl, hc, h⟩
 ·exact .inl h
 ·exact .inr ⟨b, o, l, e, cs, rfl, cells_old hc, h⟩
theorem IS.idx {H : AHeap} {v : AV} {zs : List Int} (h : IS H v zs) {i : Nat} {z : Int} (hz : zs[i]? = some z) (k : IntKind) :
  ∃ a, idxAddrS 1 v (.int k (i : Int)) = some a ∧ loadV 1 false a H = some (.int .i64 z) := by
 have hlt := (List.getElem?_eq_some_iff.1 hz).1
 rcases h with ⟨_, rfl⟩ | ⟨b, o, l, e, cs, rfl, hc, hg, hl⟩
 ·simp at hz
 ·refine ⟨.ptr b (o + i), ?_, ?_⟩
  ·rw [idx_sl, if_pos ⟨Nat.le_refl _, by omega, by omega⟩]; simp
  ·show read1 H b (o + i) = _
   unfold read1
   rw [hc]; exact hg i z hz
theorem IS.block {H : AHeap} {b : Nat} {zs : List Int} {l : Nat} {e : Bool} (h : H[b]? = some (.rw (i64s zs))) : IS H (.sl b 0 1 zs.length l e) zs :=
 .inr ⟨b, 0, l, e, i64s zs, rfl, by unfold cellsOf; rw [h], fun i z hz => by rw [Nat.zero_add]; exact i64s_get hz, by rw [i64s_len]; omega⟩
theorem IS.nil (H : AHeap) : IS H .nilSl [] := .inl ⟨rfl, rfl⟩
end Go.Proofs.Ytekceggcbpeoeaa.Eng
end
