/- An evaluator over abstract values, proved sound against the machine: what it says of a call, the call does. No condition. -/
import Derived.Test.YtbmmnfeeapnhkaaGreatE4
import Derived.Attr
section
namespace Go.Proofs.YtbmmnfeeapnhkaaGreat.Eng
open Go
def Outs (r : Res) (Q : Ex → T → zAa → Prop) : Prop:=∃ e t h,r = some (e,t,h) ∧ Q e t h
theorem Outs.mono {r : Res} {Q R : Ex → T → zAa → Prop} (o : Outs r Q) (f : ∀ e t h,Q e t h → R e t h) : Outs r R:=by
 obtain ⟨e,t,h,hr,q⟩:=o; exact ⟨e,t,h,hr,f _ _ _ q⟩
theorem zBo (K : Res → Res) {r : Res} {Q R : Ex → T → zAa → Prop} (o : Outs r Q) (f : ∀ e t h,Q e t h → Outs (K (some (e,t,h))) R) : Outs (K r) R:=by
 obtain ⟨e,t,h,rfl,q⟩:=o; exact f _ _ _ q
theorem zWw {h : zAa} {rs : List RV} {r : Res} {v : AV} (o : Outs r fun e t h1=>fin rs (some (e,t,h1)) = some (v,h1)) : ∃ h',trim h (fin rs r) = some (v,h'):=by
 obtain ⟨e,t,h1,rfl,q⟩:=o
 rw [q]; exact trim_any ..
theorem zBc {P : Program} {LP : T → zAa → Res} {b : C} (e : LP = (envL P).loop b) (t : T) (h : zAa) : LP t h = seqR (b t h) LP:=by subst e; exact zCd ..
theorem zAc {e : Ex} {t : T} {h : zAa} {Q : Ex → T → zAa → Prop} : Outs (some (e,t,h)) Q = Q e t h:=by
 apply propext
 constructor
 ·rintro ⟨_,_,_,hr,q⟩; simp only [Option.some.injEq,Prod.mk.injEq] at hr; obtain ⟨rfl,rfl,rfl⟩:=hr; exact q
 ·exact fun q=>⟨_,_,_,rfl,q⟩
def Adds (H H' : zAa) : Prop:=∃ G,H' = H ++ G
theorem Adds.refl (H : zAa) : Adds H H:=⟨[],by simp⟩
theorem Adds.app (H G : zAa) : Adds H (H ++ G):=⟨G,rfl⟩
theorem Adds.bs {H H' : zAa} {v : AV} {zs : List Int} (a : Adds H H') (b : BS H v zs) : BS H' v zs:=by obtain ⟨G,rfl⟩:=a; exact b.mono G
theorem Adds.cells {H H' : zAa} {p : Nat} {cs : List AV} (a : Adds H H') (b : cellsOf H p = some cs) : cellsOf H' p = some cs:=by obtain ⟨G,rfl⟩:=a; exact zAy b
theorem Adds.trans {H H' H'' : zAa} (a : Adds H H') (b : Adds H' H'') : Adds H H'':=by obtain ⟨G,rfl⟩:=a; obtain ⟨G',rfl⟩:=b; exact ⟨G ++ G',by simp⟩
theorem zI2 (n sz b o : Nat) (k : IntKind) (j : Int) : zDo n sz (.ptr b o) (.int k j) = if 0 ≤ j ∧ j < n then some (.ptr b (o + j.toNat * sz)) else none:=rfl
end Go.Proofs.YtbmmnfeeapnhkaaGreat.Eng
end
section
namespace Go.Proofs.YtbmmnfeeapnhkaaGreat.Eng
open Go Go.ChangeShapes Go.WideShapes Go.ChangeAt Go.RowKit
variable {P : Program} {H : Type} {enc : TypeId × Value → H}
theorem OkSl.cells {w : World} {v : Value} (h : OkSl w v) : v.cells.toList = [v]:=by
 rcases h with rfl | ⟨_,_,_,_,rfl,_⟩ <;> rfl
end Go.Proofs.YtbmmnfeeapnhkaaGreat.Eng
end
section
namespace Go.Proofs.YtbmmnfeeapnhkaaGreat.Eng
open Go
theorem zDn {k : Nat} : ∀ {rows : List (List AV)},(∀ r ∈ rows,r.length = k) → rows.flatten.length = rows.length * k
 | [],_=>by simp
 | r :: rows,h=>by
  rw [List.flatten_cons,List.length_append,zDn (fun x hx=>h x (by simp [hx])),h r (by simp),List.length_cons,Nat.add_mul,Nat.one_mul,Nat.add_comm]
theorem zH2 {k : Nat} : ∀ {rows : List (List AV)} {i : Nat} {r : List AV},(∀ r ∈ rows,r.length = k) → rows[i]? = some r → ∀ f,f < k → rows.flatten[i * k + f]? = r[f]?
 | [],i,r,_,h,_,_=>by simp at h
 | x :: rows,0,r,h,hi,f,hf=>by
  simp at hi; subst hi
  have hx:=h x (by simp)
  rw [Nat.zero_mul,Nat.zero_add,List.flatten_cons,List.getElem?_append_left (by omega)]
 | x :: rows,i + 1,r,h,hi,f,hf=>by
  have hx:=h x (by simp)
  have ih:=zH2 (fun x hx=>h x (by simp [hx])) (by simpa using hi : rows[i]? = some r) f hf
  rw [List.flatten_cons,List.getElem?_append_right (by rw [hx,Nat.add_mul]; omega),← ih]
  congr 1
  rw [hx,Nat.add_mul]; omega
theorem zRx {k : Nat} : ∀ {rows : List (List AV)} {i : Nat} {r : List AV},(∀ r ∈ rows,r.length = k) → rows[i]? = some r → ∀ f v,f < k → rows.flatten.set (i * k + f) v = (rows.set i (r.set f v)).flatten
 | [],i,r,_,h,_,_,_=>by simp at h
 | x :: rows,0,r,h,hi,f,v,hf=>by
  simp at hi; subst hi
  have hx:=h x (by simp)
  rw [Nat.zero_mul,Nat.zero_add,List.flatten_cons,List.set_append_left _ _ (by omega)]
  rfl
 | x :: rows,i + 1,r,h,hi,f,v,hf=>by
  have hx:=h x (by simp)
  have ih:=zRx (fun x hx=>h x (by simp [hx])) (by simpa using hi : rows[i]? = some r) f v hf
  rw [List.flatten_cons,List.set_append_right _ _ (by rw [hx,Nat.add_mul]; omega),List.set_cons_succ,List.flatten_cons,← ih]
  congr 2
  rw [hx,Nat.add_mul]; omega
theorem zXv {x : List AV} {k i : Nat} {y : List AV} (hx : x.length = k) : (x ++ y).drop ((i + 1) * k) = y.drop (i * k):=by
 rw [show (i + 1) * k = x.length + i * k by rw [hx,Nat.add_mul]; omega,List.drop_length_add_append]
theorem zOp {k : Nat} : ∀ {rows : List (List AV)} {i : Nat} {r : List AV},(∀ r ∈ rows,r.length = k) → rows[i]? = some r → (rows.flatten.drop (i * k)).take k = r
 | [],i,r,_,h=>by simp at h
 | x :: rows,0,r,h,hi=>by
  simp at hi; subst hi
  have hx:=h x (by simp)
  rw [Nat.zero_mul,List.drop_zero,List.flatten_cons,List.take_append_of_le_length (by omega),List.take_of_length_le (by omega)]
 | x :: rows,i + 1,r,h,hi=>by
  have hx:=h x (by simp)
  have ih:=zOp (fun x hx=>h x (by simp [hx])) (by simpa using hi : rows[i]? = some r)
  rw [List.flatten_cons,zXv hx,ih]
theorem zRy {k : Nat} : ∀ {rows : List (List AV)} {i : Nat} {r : List AV},(∀ r ∈ rows,r.length = k) → rows[i]? = some r → ∀ v,v.length = k → rows.flatten.take (i * k) ++ v ++ rows.flatten.drop (i * k + k) = (rows.set i v).flatten
 | [],i,r,_,h,_,_=>by simp at h
 | x :: rows,0,r,h,hi,v,hv=>by
  have hx:=h x (by simp)
  rw [Nat.zero_mul,List.take_zero,List.nil_append,Nat.zero_add,List.flatten_cons,← hx,List.drop_left]; rfl
 | x :: rows,i + 1,r,h,hi,v,hv=>by
  have hx:=h x (by simp)
  have ih:=zRy (fun x hx=>h x (by simp [hx])) (by simpa using hi : rows[i]? = some r) v hv
  rw [List.flatten_cons,List.set_cons_succ,List.flatten_cons,← ih]
  rw [show (i + 1) * k = x.length + i * k by rw [hx,Nat.add_mul]; omega,List.take_length_add_append,show x.length + i * k + k = x.length + (i * k + k) by omega,List.drop_length_add_append]
  simp
theorem zS8 {H : zAa} {b k i f : Nat} {rows : List (List AV)} {r : List AV} {v : AV} (hb : H[b]? = some (.rw rows.flatten)) (hk : ∀ r ∈ rows,r.length = k) (hi : rows[i]? = some r) (hf : f < k) (hv : v.isCell = true) :
  zAz H b (i * k + f) [v] = some (H.set b (.rw (rows.set i (r.set f v)).flatten)):=by
 have hl:=zDn hk
 have hlt:=(List.getElem?_eq_some_iff.1 hi).1
 have : (i + 1) * k ≤ rows.length * k:=Nat.mul_le_mul_right k hlt
 rw [Nat.add_mul] at this
 rw [zAv hb,if_pos ⟨by simp only [List.length_cons,List.length_nil]; omega,by simp [hv]⟩,zAx,zRx hk hi f v hf]
theorem zUx {H : zAa} {b k i : Nat} {rows : List (List AV)} {r v : List AV} (hb : H[b]? = some (.rw rows.flatten)) (hk : ∀ r ∈ rows,r.length = k) (hi : rows[i]? = some r) (hv : v.length = k) (h1 : k ≠ 1) (hc : v.all AV.isCell = true) :
  zAz H b (i * k) v = some (H.set b (.rw (rows.set i v).flatten)):=by
 have hl:=zDn hk
 have hlt:=(List.getElem?_eq_some_iff.1 hi).1
 have : (i + 1) * k ≤ rows.length * k:=Nat.mul_le_mul_right k hlt
 rw [Nat.add_mul] at this
 rw [zAv hb,if_pos ⟨by omega,hc⟩,zAs _ _ _ (by omega),hv,zRy hk hi v hv]
theorem zEf (b k n l i : Nat) (e : Bool) (kk : IntKind) (hk : 1 ≤ k) (hi : i < n) : zB0 k (.sl b 0 k n l e) (.int kk (i : Int)) = some (.ptr b (i * k)):=by
 rw [zXj,if_pos ⟨hk,by omega,by omega⟩]; simp
theorem zAj {H : zAa} {b : Nat} {cs : List AV} (h : H[b]? = some (.rw cs)) : cellsOf H b = some cs:=by unfold cellsOf; rw [h]
def KeepB (H H' : zAa) (B : List Nat) : Prop:=H'.length = H.length ∧ ∀ b,b ∉ B → H'[b]? = H[b]?
theorem zBj (H : zAa) (b p : Nat) (k : ABlk) (h : p ≠ b) : cellsOf (H.set b k) p = cellsOf H p:=by
 unfold cellsOf; rw [List.getElem?_set_ne (fun e=>h e.symm)]
theorem zAf (H : zAa) (b p : Nat) (k : ABlk) (h : p ≠ b) : (H.set b k)[p]? = H[p]?:=List.getElem?_set_ne (fun e=>h e.symm)
theorem zA4 (H : zAa) (b : Nat) (k : ABlk) (h : b < H.length) : (H.set b k)[b]? = some k:=List.getElem?_set_self h
end Go.Proofs.YtbmmnfeeapnhkaaGreat.Eng
end
section
namespace Go.Proofs.YtbmmnfeeapnhkaaGreat.Eng
open Go
def GR (k : Nat) (H : zAa) (B : Nat) (l : AV) (rows : List (List AV)) : Prop :=
 (rows = [] ∧ l = .nilSl) ∨ (rows ≠ [] ∧ ∃ b,B ≤ b ∧ l = .sl b 0 k rows.length rows.length false ∧ H[b]? = some (.rw rows.flatten))
theorem GR.mono {k : Nat} {H : zAa} {B : Nat} {l : AV} {rows : List (List AV)} (g : GR k H B l rows) (G : zAa) : GR k (H ++ G) B l rows:=by
 rcases g with g | ⟨g1,b,g2,g3,g4⟩
 ·exact .inl g
 ·exact .inr ⟨g1,b,g2,g3,by rw [List.getElem?_append_left (List.getElem?_eq_some_iff.1 g4).1,g4]⟩
theorem GR.len {k : Nat} {H : zAa} {B : Nat} {l : AV} {rows : List (List AV)} (g : GR k H B l rows) : lenSl l = some (.int .i64 rows.length):=by
 rcases g with ⟨rfl,rfl⟩ | ⟨_,b,_,rfl,_⟩ <;> rfl
theorem GR.cells {k : Nat} {H : zAa} {B : Nat} {l : AV} {rows : List (List AV)} (g : GR k H B l rows) : zA7 l = some [l] ∧ l.isCell = true:=by
 rcases g with ⟨rfl,rfl⟩ | ⟨_,b,_,rfl,_⟩ <;> exact ⟨rfl,rfl⟩
theorem GR.app {k : Nat} (hk : 1 ≤ k) {d : TyD} (hd : d.size = k) (hb : 1 ≤ d.bytes) {P H : zAa} (a : Adds P H) {l y : AV} {rows : List (List AV)} {r : List AV} (g : GR k H P.length l rows) (hr : ∀ x ∈ rows,x.length = k) (hx : zFm y = some 1) (hy : zBx k 1 y H = some r)
  (hc : r.all AV.isCell = true) (hn : (rows.length + 1) * d.bytes ≤ roomy) : ∃ l' H',Adds P H' ∧ GR k H' P.length l' (rows ++ [r]) ∧ app d l y H = some (l',H'):=by
 obtain ⟨G,rfl⟩:=a
 rcases g with ⟨rfl,rfl⟩ | ⟨hne,b,hb2,rfl,hH⟩
 ·refine ⟨.sl (P ++ G).length 0 k 1 1 false,(P ++ G) ++ [.rw r],⟨G ++ [.rw r],by simp⟩,.inr ⟨by simp,(P ++ G).length,by simp,rfl,by simp⟩,?_⟩
  unfold Eng.app
  rw [hx]
  simp only [Option.bind_some,hd,hy]
  unfold zDd
  simp only [hd]
  rw [if_neg (by omega),if_pos ⟨hk,hb,by simpa using hn⟩]
 ·have hl:=zDn hr
  refine ⟨.sl (P ++ G).length 0 k (rows.length + 1) (rows.length + 1) false,((P ++ G).set b .dead) ++ [.rw (rows ++ [r]).flatten],⟨G.set (b - P.length) .dead ++ [.rw (rows ++ [r]).flatten],by rw [List.set_append_right _ _ hb2,List.append_assoc]⟩,.inr ⟨by simp,(P ++ G).length,by simp,by simp,by rw [List.getElem?_append_right (by simp)]; simp⟩,?_⟩
  unfold Eng.app
  rw [hx]
  simp only [Option.bind_some,hd,hy]
  unfold zDd
  simp only [hd]
  rw [if_neg (by omega),if_neg (by omega),if_neg (by omega),if_pos ⟨hb,hn⟩]
  have hrd : zC6 (P ++ G) b 0 (rows.length * k) = some rows.flatten:=by
   unfold zC6
   rw [zAj hH]
   simp only [Option.bind_some]
   rw [if_pos (by omega),List.drop_zero,List.take_of_length_le (by omega)]
  rw [hrd]
  simp only [Option.bind_some,Bool.false_eq_true,if_false,hH]
  rw [if_pos ⟨by omega,hc⟩]
  simp
theorem Adds.at {H H' : zAa} (a : Adds H H') {b : Nat} {k : ABlk} (h : H[b]? = some k) : H'[b]? = some k:=by
 obtain ⟨G,rfl⟩:=a; rw [List.getElem?_append_left (List.getElem?_eq_some_iff.1 h).1,h]
theorem Adds.trimS {H H' : zAa} (a : Adds H H') {v : AV} (hv : v.under H.length = true) : trim H (some (v,H')) = some (v,H):=by
 obtain ⟨G,rfl⟩:=a; exact zGw hv
theorem GR.under {k : Nat} {H : zAa} {B : Nat} {l : AV} {rows : List (List AV)} (g : GR k H B l rows) : rows = [] ∧ l = .nilSl ∨ l.under B = false:=by
 rcases g with g | ⟨_,b,hb,rfl,_⟩
 ·exact .inl g
 ·exact .inr (by simp [AV.under]; omega)
theorem zKz (k bytes n : Nat) (agg : Bool) (z : List AV) (hk : 1 ≤ k) (hb : 1 ≤ bytes) (hn : n * bytes ≤ roomy) (h : zAa) :
  zCw (ty k agg bytes z) (.int .i64 n) (.int .i64 n) h = some (.sl h.length 0 k n n true,h ++ [.rw (List.replicate n z).flatten]):=by
 have hc : (0 ≤ (n : Int) ∧ (n : Int) ≤ n ∧ 1 ≤ bytes ∧ (n : Int) * ((bytes : Nat) : Int) ≤ ((roomy : Nat) : Int) ∧ 1 ≤ k):=⟨by omega,by omega,hb,by exact_mod_cast hn,hk⟩
 refine (if_pos hc).trans ?_
 rw [Int.toNat_natCast]; rfl
end Go.Proofs.YtbmmnfeeapnhkaaGreat.Eng
end
section
namespace Go.Proofs.YtbmmnfeeapnhkaaGreat.Eng
open Go Go.ChangeShapes Go.WideShapes Go.ChangeAt Go.RowKit
theorem Adds.len {H H' : zAa} (a : Adds H H') : H.length ≤ H'.length:=by obtain ⟨G,rfl⟩:=a; simp
theorem Adds.of_get {H H' : zAa} (hl : H.length ≤ H'.length) (h : ∀ b,b < H.length → H'[b]? = H[b]?) : Adds H H':=by
 refine ⟨H'.drop H.length,?_⟩
 have : H'.take H.length = H:=by
  apply List.ext_getElem?
  intro i
  by_cases hi : i < H.length
  ·rw [List.getElem?_take,if_pos hi,h i hi]
  ·rw [List.getElem?_eq_none (by rw [List.length_take]; omega),List.getElem?_eq_none (by omega)]
 have h2:=List.take_append_drop H.length H'
 rw [this] at h2
 exact h2.symm
def RS (k : Nat) (H : zAa) (v : AV) (rows : List (List AV)) : Prop :=
 (rows = [] ∧ lenSl v = some (.int .i64 (0 : Nat))) ∨ ∃ b n e,v = .sl b 0 k rows.length n e ∧ cellsOf H b = some rows.flatten ∧ ∀ r ∈ rows,r.length = k
theorem RS.len {k : Nat} {H : zAa} {v : AV} {rows : List (List AV)} (h : RS k H v rows) : lenSl v = some (.int .i64 rows.length):=by
 rcases h with ⟨rfl,h⟩ | ⟨b,n,e,rfl,_⟩
 ·exact h
 ·rfl
theorem RS.adds {k : Nat} {H H' : zAa} {v : AV} {rows : List (List AV)} (h : RS k H v rows) (a : Adds H H') : RS k H' v rows:=by
 rcases h with h | ⟨b,n,e,rfl,hc,hr⟩
 ·exact .inl h
 ·exact .inr ⟨b,n,e,rfl,a.cells hc,hr⟩
theorem RS.idx {k : Nat} (hk : 1 ≤ k) {H : zAa} {v : AV} {rows : List (List AV)} (h : RS k H v rows) {i : Nat} {r : List AV} (hi : rows[i]? = some r) (kk : IntKind) :
  ∃ b cs,zB0 k v (.int kk (i : Int)) = some (.ptr b (i * k)) ∧ cellsOf H b = some cs ∧ (∀ f,f < k → cs[i * k + f]? = r[f]?) ∧ r.length = k ∧ i * k + k ≤ cs.length ∧ (cs.drop (i * k)).take k = r:=by
 have hlt:=(List.getElem?_eq_some_iff.1 hi).1
 rcases h with ⟨rfl,_⟩ | ⟨b,n,e,rfl,hc,hr⟩
 ·simp at hlt
 ·refine ⟨b,rows.flatten,zEf b k _ n i e kk hk hlt,hc,zH2 hr hi,hr r (List.mem_of_getElem? hi),?_,zOp hr hi⟩
  rw [zDn hr]
  have : (i + 1) * k ≤ rows.length * k:=Nat.mul_le_mul_right k hlt
  rw [Nat.add_mul] at this; omega
variable {P : Program}
theorem zXk {k : IntKind} {n : Int} (h : (Lit.int k n).wf = true) : k.has n:=by
 simpa [Lit.wf,IntKind.has] using h
theorem add_add {a : Addr} (hs : a.spot = none) (i j : Nat) : (a.add i).add j = a.add (i + j):=by
 obtain ⟨b,o,s⟩:=a
 simp only at hs; subst hs
 unfold Addr.add
 by_cases hi : i = 0
 ·subst hi; simp
 ·by_cases hj : j = 0
  ·subst hj; simp [hi]
  ·have : ¬ (i + j = 0):=by omega
   simp [hi,hj,this]; omega
theorem cell_of {w : World} {a : Addr} (hs : a.spot = none) {o : Obj} (ho : w.heap[a.block]? = some o) {C : Array Value} {t : TypeId} {fz : Nat × Nat} (hC : o = .cells C t fz) (j : Nat) : w.cell? (a.add j) = C[a.off + j]?:=by
 unfold World.cell?
 rw [block_add,ho,hC]
 have e : (a.add j).off = a.off + j:=by unfold Addr.add; split <;> simp_all
 have e2 : (a.add j).spot = none:=by unfold Addr.add; split <;> simp_all
 simp only
 rw [e]
 split
 ·rename_i h; rw [e2] at h; cases h
 ·rfl
variable {H : Type} {enc : TypeId × Value → H}
end Go.Proofs.YtbmmnfeeapnhkaaGreat.Eng
end
section
namespace Go.Proofs.YtbmmnfeeapnhkaaGreat.Eng
open Go
variable {P : Program}
end Go.Proofs.YtbmmnfeeapnhkaaGreat.Eng
end
section
namespace Go.Proofs.YtbmmnfeeapnhkaaGreat.Eng
open Go
attribute [go_sem] runI_nil runI_o runI_u runI_og runI_ug runD_nil runD_o runD_rd runD_hv runD_hvu runD_og runD_rdg runD_hvg chk_nil Nat.testBit bne_self_eq_false eq_self chk_cons chk_if zVx zVy runC_ret runC_reg runC_drw runC_seq runC_ite zTm zTr zQe zAu zFx zT5 zVj zRb fin_cond zU5 zN4 zUm zRa fin_ret zTu res_nil res_tmp res_cell zWr zWs zWq zXl zTt zQo zPe zNo zPf gval_may zW6 zTs may_bin1 zW5 may_bin2 zW4 may_un may_unw may_load zW3 may_fa may_faw may_fi may_fiw may_pk may_pkw may_cl1 may_cl1w may_cl2 may_cl2w may_cl3 may_cl3w may_cl4 may_cl4w may_cv may_cvw may_ia1 may_ia1w may_ia2 may_ia2w may_is1 may_is1w may_is2 may_is2w may_ix1 may_ix1w may_ix2 may_ix2w may_st1 may_st1w may_st2 may_st2w may_ls may_lsw may_ll may_llw may_ex may_exw may_bx may_bxw beq_tt beq_ff zWi zYa zX9 zX8 zYc cond_or' zT3 zYb box_int box_bool box_agg not_bool eq_bool ne_bool int_add int_quo zHo ne_eq not_false_eq_true zPg int_sub int_mul int_eql int_neq int_lss int_leq int_gtr int_geq zYh zYi zT7 zQ3 zT8 load_agg load_one zC6 zLn zOd zGw zU0 zTa zU1 zUy zOa zM1 zT0 zQz zT2 zTz zT1 zQ0 tst_true onI_some zWt onD_some onR_some onH_some sMov_ap X_ap K_ap sPick_ap zVt sBox_ap zVs zQh sLoad_ap zVl sNil_ap sBin_ap sUn_ap sConv_ap sFun_ap sMake_ap zTi zTh zM9 zVn zOl zOk sIdxA_ap zTl zQg zTj zVm zTk zVq sMax_ap sMin_ap sCopy_ap zVp sAppN_ap sApp_ap sCall_ap zVr ap zEh zK2 zFh get_zero get_succ List.set_cons_zero List.set_cons_succ List.map_cons List.map_nil Option.bind_some Option.map_some List.length_cons List.length_nil List.length_append List.cons_append List.nil_append List.append_nil List.append_assoc List.replicate_succ List.replicate_zero List.drop_zero List.drop_succ_cons List.take_zero List.take_succ_cons List.getElem?_cons_zero List.getElem?_cons_succ Nat.zero_add Nat.add_zero Nat.add_assoc Nat.le_refl if_true if_false Bool.true_and Bool.and_true Bool.true_or Bool.or_true Bool.false_or Bool.or_false Bool.false_and Bool.and_false Bool.not_true Bool.not_false cond_true cond_false decide_true decide_false beq_self_eq_true Nat.add_left_cancel_iff and_self true_and zAx List.flatten_cons List.flatten_nil eq_nn ne_nn eq_pn ne_pn eq_snn ne_snn eq_ssn ne_ssn len_nil len_sl ext_tup nil_ptr zN9 zQd min2 max2 conv_int zQk zJ2 zId zUa zQ4 zFt zT9 zNz zP1 zYj zYk asI_none asI_int cell_ptr zQ5 zUc cell_sl zDj zR0 zR1 zL2 zOw zXj o_loop o_yield
end Go.Proofs.YtbmmnfeeapnhkaaGreat.Eng
end
