/- An evaluator over abstract values, proved sound against the machine: what it says of a call, the call does. No condition. -/
import Derived.Test.YthgflkfhjnbheaaE5
import Derived.Test.YthgflkfhjnbheaaE4
import Derived.Lib.Overlaps
import Derived.Sort.Grow
section
namespace Go.Proofs.Ythgflkfhjnbheaa.Eng
open Go
theorem exF {t : T} {F : (Nat → AV) → T} (h : F (getT t) = t) : ∃ k,t = F k:=⟨_,h.symm⟩
theorem zA8 {H : zAc} {b : Nat} {k : ABlk} (h : H[b]? = some k) : b < H.length:=(List.getElem?_eq_some_iff.1 h).1
theorem zCc {H : zAc} {b : Nat} {cs : List AV} (h : cellsOf H b = some cs) : b < H.length:=by
 unfold cellsOf at h
 cases hx : H[b]? with
 | none=>rw [hx] at h; cases h
 | some k=>exact zA8 hx
theorem zNx {H H' : zAc} {b : Nat} (h : H'[b]? = H[b]?) : cellsOf H' b = cellsOf H b:=by unfold cellsOf; rw [h]
def Fr (H H' : zAc) (F : Nat → Prop) : Prop:=H.length ≤ H'.length ∧ ∀ b,b < H.length → ¬ F b → H'[b]? = H[b]?
theorem Fr.refl (H : zAc) (F : Nat → Prop) : Fr H H F:=⟨Nat.le_refl _,fun _ _ _=>rfl⟩
theorem Fr.trans {H H' H'' : zAc} {F G : Nat → Prop} (a : Fr H H' F) (b : Fr H' H'' G) (hG : ∀ x,x < H.length → G x → F x) : Fr H H'' F :=
 ⟨Nat.le_trans a.1 b.1,fun x hx hn=>(b.2 x (Nat.lt_of_lt_of_le hx a.1) (fun hg=>hn (hG x hx hg))).trans (a.2 x hx hn)⟩
theorem Fr.mono {H H' : zAc} {F G : Nat → Prop} (a : Fr H H' F) (h : ∀ x,x < H.length → F x → G x) : Fr H H' G:=⟨a.1,fun x hx hn=>a.2 x hx fun hf=>hn (h x hx hf)⟩
theorem Fr.adds {H H' : zAc} (a : Adds H H') (F : Nat → Prop) : Fr H H' F:=by
 obtain ⟨G,rfl⟩:=a
 exact ⟨by simp,fun b hb _=>List.getElem?_append_left hb⟩
theorem Fr.set (H : zAc) {b : Nat} (k : ABlk) {F : Nat → Prop} (h : F b) : Fr H (H.set b k) F :=
 ⟨by simp,fun x _ hn=>List.getElem?_set_ne (fun e=>by subst e; exact hn h)⟩
theorem Fr.at {H H' : zAc} {F : Nat → Prop} (a : Fr H H' F) {b : Nat} {k : ABlk} (h : H[b]? = some k) (n : ¬ F b) : H'[b]? = some k:=(a.2 b (zA8 h) n).trans h
theorem Fr.cells {H H' : zAc} {F : Nat → Prop} (a : Fr H H' F) {b : Nat} {cs : List AV} (h : cellsOf H b = some cs) (n : ¬ F b) : cellsOf H' b = some cs:=(zNx (a.2 b (zCc h) n)).trans h
theorem Fr.old {h0 H H' : zAc} {F : Nat → Prop} (a : Fr H H' F) (o : Adds h0 H) (n : ∀ b,b < h0.length → ¬ F b) : Adds h0 H':=by
 have:=o.len
 refine Adds.of_get (Nat.le_trans this a.1) fun b hb=>?_
 rw [a.2 b (by omega) (n b hb)]
 obtain ⟨G,rfl⟩:=o
 exact List.getElem?_append_left hb
theorem zRe {H K : zAc} {v : AV} (hl : H.length ≤ K.length) (hv : v.under H.length = true) (hk : ∀ (b : Nat) k',b < H.length → K[b]? = some k' → H[b]? = some k' ∨ ∀ a ∈ k'.vals,a.under H.length = true) : trim H (some (v,K)) = some (v,K.take H.length):=by
 have ht : zBu H v K:=⟨hl,hv,fun b k' hb hb' a ha=>by
  rcases hk b k' hb hb' with h | h
  ·exact .inr ⟨k',h,ha⟩
  ·exact .inl (h a ha)⟩
 simp only [trim,Option.map_some,ht,if_true]
theorem zGt {n m : Nat} (h : n ≤ m) : ∀ {a : AV},a.under n = true → a.under m = true
 | .int _ _,_ | .bool _,_ | .str _,_ | .nilPtr,_ | .nilSl,_ | .nilFn,_ | .undef,_ | .any,_=>rfl
 | .ptr b _,u=>by simp only [AV.under,decide_eq_true_eq] at u ⊢; omega
 | .sl b _ _ _ _ _,u=>by simp only [AV.under,decide_eq_true_eq] at u ⊢; omega
 | .yld b,u=>by simp only [AV.under,decide_eq_true_eq] at u ⊢; omega
 | .agg cs,u=>by simp only [AV.under] at u ⊢; exact all cs u
 | .tup cs,u=>by simp only [AV.under] at u ⊢; exact all cs u
 | .fn _ cs,u=>by simp only [AV.under] at u ⊢; exact all cs u
where all : ∀ (cs : List AV),zBc n cs = true → zBc m cs = true
 | [],_=>rfl
 | a :: cs,u=>by
  simp only [zBc,Bool.and_eq_true] at u ⊢
  exact ⟨zGt h u.1,all cs u.2⟩
def slb : AV → Option Nat
 | .sl b _ _ _ _ _=>some b
 | _=>none
def zKe (l : AV) (H : zAc) : zAc:=match l with | .sl b _ _ _ _ _=>H.set b .dead | _=>H
theorem zGf (l : AV) (H : zAc) : (zKe l H).length = H.length:=by unfold zKe; split <;> simp
theorem zTc (l : AV) (H : zAc) (b : Nat) (h : slb l ≠ some b) : (zKe l H)[b]? = H[b]?:=by
 unfold zKe
 split
 ·exact List.getElem?_set_ne (fun e=>h (by rw [e]; rfl))
 ·rfl
theorem GR.app2 {k : Nat} (hk : 1 ≤ k) {d : TyD} (hd : d.size = k) (hb : 1 ≤ d.bytes) {H : zAc} {B : Nat} {l y : AV} {rows : List (List AV)} {r : List AV} (g : GR k H B l rows) (hr : ∀ x ∈ rows,x.length = k) (hx : zDg y = some 1) (hy : zA4 k 1 y H = some r)
  (hc : r.all AV.isCell = true) (hn : (rows.length + 1) * d.bytes ≤ roomy) : Eng.app d l y H = some (.sl H.length 0 k (rows.length + 1) (rows.length + 1) false,zKe l H ++ [.rw (rows ++ [r]).flatten]):=by
 rcases g with ⟨rfl,rfl⟩ | ⟨hne,b,hb2,rfl,hH⟩
 ·unfold Eng.app
  rw [hx]
  simp only [Option.bind_some,hd,hy]
  unfold zB6
  simp only [hd]
  rw [if_neg (by omega),if_pos ⟨hk,hb,by simpa using hn⟩]
  simp [zKe]
 ·have hl:=zDj hr
  unfold Eng.app
  rw [hx]
  simp only [Option.bind_some,hd,hy]
  unfold zB6
  simp only [hd]
  rw [if_neg (by omega),if_neg (by omega),if_neg (by omega),if_pos ⟨hb,hn⟩]
  have hrd : zB0 H b 0 (rows.length * k) = some rows.flatten:=by
   unfold zB0
   rw [zAl hH]
   simp only [Option.bind_some]
   rw [if_pos (by omega),List.drop_zero,List.take_of_length_le (by omega)]
  rw [hrd]
  simp only [Option.bind_some,Bool.false_eq_true,if_false,hH]
  rw [if_pos ⟨by omega,hc⟩]
  simp [zKe]
theorem zPo {P : Program} {l : Nat} {args : List AV} {K : zAc} {e0 : Ex} {T0 : T} {ps : List Nat} {ka kb : Code} {a b : CT} (ea : ∀ t h,zAo P (envL P) ka t h = runC (envL P) a t h) (eb : ∀ t h,zAo P (envL P) kb t h = runC (envL P) b t h)
  (hl : K[l]? = some (.loop ⟨.ready,e0,T0,ps,ka,kb⟩)) (hp : args.length = ps.length) {t1 : T} (ha : runC (envL P) a (zBm ps args T0) K = some (.normal,t1,K))
  {ex : Ex} {t2 : T} {K2 : zAc} {L2 : ALoop} (hb : runC (envL P) b t1 (K.set l (.loop ⟨.busy,e0,T0,ps,ka,kb⟩)) = some (ex,t2,K2)) (h2 : K2[l]? = some (.loop L2)) :
  (envL P).yield l args K = trim K (some (.bool ex.isNormal,K2.set l (.loop ⟨if ex.isNormal then .ready else .done,ex,L2.tmps,L2.params,L2.assign,L2.body⟩))):=by
 rw [zK5 P l args K _ hl hp]
 simp only [ea,ha]
 rw [zLn P (envL P) l _ t1 K _ hl rfl]
 simp only [eb,hb]
 rw [zLp l ex t2 K2 L2 h2]
theorem rows_sub {k : Nat} {rows : List (List AV)} {i : Nat} {r : List AV} (h : ∀ r ∈ rows,r.length = k) (hi : rows[i]? = some r) (f n : Nat) (hf : f + n ≤ k) : (rows.flatten.drop (i * k + f)).take n = (r.drop f).take n ∧ i * k + f + n ≤ rows.flatten.length:=by
 have hl:=zDj h
 have hlt:=(List.getElem?_eq_some_iff.1 hi).1
 have : (i + 1) * k ≤ rows.length * k:=Nat.mul_le_mul_right k hlt
 rw [Nat.add_mul] at this
 refine ⟨?_,by omega⟩
 apply List.ext_getElem?
 intro j
 rw [List.getElem?_take,List.getElem?_take]
 split
 ·rw [List.getElem?_drop,List.getElem?_drop,show i * k + f + j = i * k + (f + j) by omega]
  exact zEf h hi (f + j) (by omega)
 ·rfl
end Go.Proofs.Ythgflkfhjnbheaa.Eng
end
section
namespace Go.Proofs.Ythgflkfhjnbheaa.Eng
open Go
def B64 (z : List Int) : Prop:=z.length = 64 ∧ IsU8 z
structure Sec where
 there : List Int
 vers : List (List Int)
def Sec.last (s : Sec) : List Int:=s.vers.getLast?.getD s.there
structure Sec.Ok (s : Sec) : Prop where
 t : B64 s.there
 v : ∀ z ∈ s.vers,B64 z
def zsec : Sec:=⟨List.replicate 64 0,[]⟩
def verR (s : Sec) : List (List AV):=s.vers.map u8s
def secR (x : AV × Sec) : List AV:=u8s x.2.there ++ [x.1]
theorem zKk {α β : Type} {L : List α} {i : Nat} {x : α} (f : α → β) (h : L[i]? = some x) : (L.map f)[i]? = some (f x):=by rw [List.getElem?_map,h]; rfl
structure VS (H : zAc) (L : List (AV × Sec)) (c : Nat) (P : Nat → Prop) : Prop where
 cb : c ≤ 1000000000
 ver : ∀ x ∈ L,GR 64 H 0 x.1 (verR x.2)
 ok : ∀ x ∈ L,x.2.Ok
 cap : ∀ x ∈ L,x.2.vers.length ≤ c
 out : ∀ x ∈ L,∀ b,slb x.1 = some b → ¬ P b
 inj : ∀ (i j : Nat) x y,L[i]? = some x → L[j]? = some y → i ≠ j → ∀ b,slb x.1 = some b → slb y.1 ≠ some b
def fpV (L : List (AV × Sec)) (b : Nat) : Prop:=∃ x ∈ L,slb x.1 = some b
structure DK (H : zAc) (p d c : Nat) (L : List (AV × Sec)) : Prop where
 ptr : cellsOf H p = some [.sl d 0 65 L.length L.length true]
 blk : H[d]? = some (.rw (L.map secR).flatten)
 np : p ≠ d
 sz : L.length ≤ 4096
 vs : VS H L c fun b=>b = p ∨ b = d
def fpD (p d : Nat) (L : List (AV × Sec)) (b : Nat) : Prop:=b = p ∨ b = d ∨ fpV L b
theorem Fr.kill (v : AV) (H : zAc) : Fr H (zKe v H) fun b=>slb v = some b:=⟨by rw [zGf]; exact Nat.le_refl _,fun b _ hn=>zTc v H b hn⟩
end Go.Proofs.Ythgflkfhjnbheaa.Eng
end
section
namespace Go.Proofs.Ythgflkfhjnbheaa.Eng
open Go
structure Src (k : Nat) (H : zAc) (v : AV) (n : Nat) (cs : List AV) : Prop where
 len : zD3 v = some (.int .i64 (n : Int))
 sl : zDg v = some n
 cells : zA4 k n v H = some cs
 clen : cs.length = n * k
 cell : cs.all AV.isCell = true
theorem Src.fr {k : Nat} {H H' : zAc} {v : AV} {n : Nat} {cs : List AV} {F : Nat → Prop} (s : Src k H v n cs) (a : Fr H H' F) (hn : ∀ b,slb v = some b → ¬ F b) : Src k H' v n cs:=by
 refine ⟨s.len,s.sl,?_,s.clen,s.cell⟩
 have h:=s.cells
 cases v with
 | sl b o z l c e =>
  simp only [zA4,zB0] at h ⊢
  by_cases hz : z = k
  ·rw [if_pos hz] at h ⊢
   obtain ⟨C,hC,h2⟩:=Option.bind_eq_some_iff.1 h
   rw [a.cells hC (hn b rfl)]; exact h2
  ·rw [if_neg hz] at h; cases h
 | nilSl=>exact h
 | str s=>exact h
 | _=>cases h
theorem Src.adds {k : Nat} {H : zAc} {v : AV} {n : Nat} {cs : List AV} (s : Src k H v n cs) (B : zAc) : Src k (H ++ B) v n cs:=s.fr (Fr.adds ⟨B,rfl⟩ (fun _=>False)) (fun _ _ h=>h)
theorem Src.nil (k : Nat) (H : zAc) : Src k H .nilSl 0 []:=⟨rfl,rfl,rfl,by simp,rfl⟩
theorem Src.block {k : Nat} {H : zAc} {b n c : Nat} {e : Bool} {cs : List AV} (h : cellsOf H b = some cs) (hl : cs.length = n * k) (hc : cs.all AV.isCell = true) : Src k H (.sl b 0 k n c e) n cs:=by
 refine ⟨rfl,rfl,?_,hl,hc⟩
 simp only [zA4,zB0,if_true,h,Option.bind_some,Nat.zero_add,List.drop_zero]
 rw [if_pos (by omega),List.take_of_length_le (by omega)]
theorem BS.src {H : zAc} {v : AV} {zs : List Int} (b : BS H v zs) : Src 1 H v zs.length (u8s zs):=⟨b.len,b.read.1,b.read.2,by rw [zCu]; omega,zOf zs⟩
theorem zLc (A Z xs : List AV) (h : xs.length ≤ Z.length) : zCg (A ++ Z) A.length xs = A ++ xs ++ Z.drop xs.length:=by
 by_cases h1 : xs.length = 1
 ·match xs,h1 with
  | [x],_ =>
   rw [zBw,List.set_append_right _ _ (Nat.le_refl _),Nat.sub_self]
   cases Z with
   | nil=>simp at h
   | cons z Z=>simp
 ·rw [zM6 _ _ _ h1,List.take_left,List.drop_append_of_le_length' (by omega)]
  congr 2
  omega
where
 List.drop_append_of_le_length' {A Z : List AV} {n : Nat} (h : A.length ≤ n) : (A ++ Z).drop n = Z.drop (n - A.length):=by
  rw [List.drop_append]
  rw [List.drop_of_length_le h,List.nil_append]
theorem app_in {k : Nat} (hk : 1 ≤ k) {d : TyD} (hd : d.size = k) {H : zAc} {b m n j : Nat} {A Z cs : List AV} {y : AV} (hH : H[b]? = some (.rw (A ++ Z))) (hA : A.length = m * k) (s : Src k H y j cs) (hZ : cs.length ≤ Z.length) (hm : m + j ≤ n) :
  app d (.sl b 0 k m n false) y H = some (.sl b 0 k (m + j) n false,H.set b (.rw (A ++ cs ++ Z.drop cs.length))):=by
 unfold app
 rw [s.sl]
 simp only [Option.bind_some,hd,s.cells]
 unfold zB6
 simp only [hd]
 rw [if_neg (by omega)]
 by_cases h0 : j = 0
 ·subst h0
  have : cs = []:=List.eq_nil_of_length_eq_zero (by rw [s.clen]; omega)
  subst this
  rw [if_pos rfl]
  simp only [List.append_nil,List.length_nil,List.drop_zero,Nat.add_zero,Option.some.injEq,Prod.mk.injEq,true_and]
  apply List.ext_getElem?
  intro i
  by_cases e : i = b
  ·subst e; rw [List.getElem?_set_self (zA8 hH),hH]
  ·rw [List.getElem?_set_ne (fun q=>e q.symm)]
 ·rw [if_neg h0,if_pos hm]
  rw [zA2 hH,if_pos ⟨by rw [List.length_append]; omega,s.cell⟩,Nat.zero_add,← hA,zLc _ _ _ hZ]
  rfl
theorem app_nil0 {d : TyD} {H : zAc} {y : AV} {k : Nat} {cs : List AV} (hd : d.size = k) (s : Src k H y 0 cs) : app d .nilSl y H = some (.nilSl,H):=by
 unfold app
 rw [s.sl]
 simp only [Option.bind_some,hd,s.cells]
 rfl
theorem appN_nil {d : TyD} {H : zAc} {n : Nat} {k : Nat} (hk : 1 ≤ k) (hd : d.size = k) (hb : 1 ≤ d.bytes) (h1 : 1 ≤ n) (hn : n * d.bytes ≤ roomy) : appN d .nilSl (.int .i64 (n : Int)) H = some (.sl H.length 0 k n n false,H ++ [.rw (List.replicate n d.zero).flatten]):=by
 unfold appN zB6
 simp only [Int.toNat_natCast]
 have : ((n : Int) * d.bytes) ≤ ((roomy : Nat) : Int):=by exact_mod_cast hn
 rw [if_pos ⟨by omega,hb,this⟩,if_neg (by omega),if_pos ⟨by omega,hb,hn⟩,hd]
theorem zLq {n k : Nat} {z : List AV} (h : z.length = k) : (List.replicate n z).flatten.length = n * k:=by simp [h]
theorem zBg (t : T) (i j : Nat) (v : AV) : getT (t.set i v) j = if i = j then (if i < t.length then v else .undef) else getT t j:=by
 unfold getT
 by_cases h : i = j
 ·subst h
  rw [if_pos rfl]
  by_cases hl : i < t.length
  ·rw [if_pos hl,List.getElem?_set_self hl]; rfl
  ·rw [if_neg hl,List.getElem?_eq_none (by rw [List.length_set]; omega)]; rfl
 ·rw [if_neg h,List.getElem?_set_ne h]
end Go.Proofs.Ythgflkfhjnbheaa.Eng
end
section
set_option linter.unusedVariables false
namespace Go.Proofs.Ythgflkfhjnbheaa.Eng
open Go
def zFw (v : AV) : Prop:=∀ b o s n l e,v = .sl b o s n l e → n ≤ l
theorem BS.fr {H H' : zAc} {F : Nat → Prop} {v : AV} {zs : List Int} (h : BS H v zs) (a : Fr H H' F) (hn : ∀ b,slb v = some b → ¬ F b) : BS H' v zs:=by
 rcases h with h | ⟨b,o,l,e,cs,rfl,hc,h⟩
 ·exact .inl h
 ·exact .inr ⟨b,o,l,e,cs,rfl,a.cells hc (hn b rfl),h⟩
theorem skolem_c {C : T → Prop} {Q : T → zAc → Prop} (h : ∀ t : T,C t → ∃ K,Q t K) : ∃ KK : T → zAc,∀ t : T,C t → Q t (KK t):=by
 have h2 : ∀ t : T,∃ K,C t → Q t K:=fun t=>by
  by_cases e : C t
  ·obtain ⟨K,hK⟩:=h t e; exact ⟨K,fun _=>hK⟩
  ·exact ⟨[],fun q=>absurd q e⟩
 exact ⟨fun t=>(h2 t).choose,fun t=>(h2 t).choose_spec⟩
end Go.Proofs.Ythgflkfhjnbheaa.Eng
end
section
set_option linter.unusedVariables false
namespace Go.Proofs.Ythgflkfhjnbheaa.Eng
open Go
structure RgS where
 a : List Sec
 b : List Sec
 fuse : Int
 down : Bool
 done : Int
def RgS.dk (r : RgS) (dev : Int) : List Sec:=if dev = 0 then r.a else if dev = 1 then r.b else []
def RgS.put (r : RgS) (dev : Int) (l : List Sec) : RgS:=if dev = 0 then { r with a:=l } else if dev = 1 then { r with b:=l } else r
def zQ4 : List Int:=List.replicate 64 0
def RgS.read (r : RgS) (dev i : Int) : List Int × Int :=
 if 0 ≤ i ∧ i < (r.dk dev).length then (if r.down then (zQ4,14) else ((((r.dk dev)[i.toNat]?).getD zsec).last,0)) else (zQ4,1)
def RgS.pass (r : RgS) : RgS × Int :=
 if r.down ∨ r.fuse = 0 then ({ r with down:=true },14) else ({ r with fuse:=if r.fuse > 0 then IntKind.i64.wrap (r.fuse - 1) else r.fuse,done:=IntKind.i64.wrap (r.done + 1) },0)
def RgS.write (r : RgS) (dev i : Int) (z : List Int) : RgS × Int :=
 if 0 ≤ i ∧ i < (r.dk dev).length then
  (if r.pass.2 = 0 then (r.pass.1.put dev ((r.dk dev).modify i.toNat fun s=>⟨s.there,s.vers ++ [z]⟩),0) else r.pass)
 else (r,1)
def settled (s : Sec) : Sec:=⟨s.last,[]⟩
def RgS.flush (r : RgS) (dev : Int) : RgS × Int :=
 if dev = 0 ∨ dev = 1 then (if r.pass.2 = 0 then (r.pass.1.put dev ((r.dk dev).map settled),0) else r.pass) else (r,1)
def zSb (p0 p1 : Nat) (r : RgS) : List AV:=[.ptr p0 0,.ptr p1 0,.int .i64 r.fuse,.bool r.down,.int .i64 r.done]
structure RG (H : zAc) (p p0 d0 p1 d1 c : Nat) (L0 L1 : List (AV × Sec)) (r : RgS) : Prop where
 blk : H[p]? = some (.rw (zSb p0 p1 r))
 k0 : DK H p0 d0 c L0
 k1 : DK H p1 d1 c L1
 e0 : L0.map (·.2) = r.a
 e1 : L1.map (·.2) = r.b
 dis : ∀ b,fpD p0 d0 L0 b → ¬ fpD p1 d1 L1 b
 n0 : ¬ fpD p0 d0 L0 p
 n1 : ¬ fpD p1 d1 L1 p
def fpR (p p0 d0 p1 d1 : Nat) (L0 L1 : List (AV × Sec)) (b : Nat) : Prop:=b = p ∨ fpD p0 d0 L0 b ∨ fpD p1 d1 L1 b
section
variable {H H' : zAc} {p p0 d0 p1 d1 c : Nat} {L0 L1 : List (AV × Sec)} {r : RgS} (m : RG H p p0 d0 p1 d1 c L0 L1 r)
include m
end
def RigIn (H : zAc) (p c : Nat) (r : RgS) (F : Nat → Prop) : Prop:=∃ p0 d0 p1 d1 L0 L1,RG H p p0 d0 p1 d1 c L0 L1 r ∧ (∀ b,fpR p p0 d0 p1 d1 L0 L1 b → F b) ∧ ∀ b,F b → b < H.length
def RStep (H : zAc) (F : Nat → Prop) (H' : zAc) (F' : Nat → Prop) : Prop:=Fr H H' F ∧ ∀ b,F' b → F b ∨ H.length ≤ b
end Go.Proofs.Ythgflkfhjnbheaa.Eng
end
section
set_option linter.unusedVariables false
namespace Go.Proofs.Ythgflkfhjnbheaa.Eng
open Go Go.ChangeShapes Go.WideShapes Go.ChangeAt Go.RowKit
inductive Sh where
 | int (k : IntKind)
 | bool
 | sl (e : List Sh)
mutual
inductive DatC (h : zAc) : Sh → AV → Prop
 | int {k : IntKind} {n : Int} (hn : k.has n) : DatC h (.int k) (.int k n)
 | bool (b : Bool) : DatC h .bool (.bool b)
 | nil (e : List Sh) : DatC h (.sl e) .nilSl
 | sl {e : List Sh} {b : Nat} {rows : List (List AV)} (hn : rows.length ≤ 9223372036854775807) (hb : cellsOf h b = some rows.flatten) (hr : ∀ r,r ∈ rows → DatR h e r) : DatC h (.sl e) (.sl b 0 e.length rows.length rows.length false)
inductive DatR (h : zAc) : List Sh → List AV → Prop
 | nil : DatR h [] []
 | cons {s : Sh} {a : AV} {ss : List Sh} {as : List AV} (hd : DatC h s a) (tl : DatR h ss as) : DatR h (s :: ss) (a :: as)
end
theorem DatR.app {h : zAc} {s2 : List Sh} {a2 : List AV} (d2 : DatR h s2 a2) : ∀ {s1 : List Sh} {a1 : List AV},DatR h s1 a1 → DatR h (s1 ++ s2) (a1 ++ a2)
 | _,_,.nil=>d2
 | _,_,.cons hd t=>.cons hd (DatR.app d2 t)
mutual
theorem DatC.fr {h h' : zAc} {F : Nat → Prop} (a : Fr h h' F) (n : ∀ b,b < h.length → ¬ F b) : ∀ {s : Sh} {v : AV},DatC h s v → DatC h' s v
 | _,_,.int hn=>.int hn
 | _,_,.bool b=>.bool b
 | _,_,.nil e=>.nil e
 | _,_,.sl hn hb hr=>.sl hn (a.cells hb (n _ (zCc hb))) fun r hm=>DatR.fr a n (hr r hm)
theorem DatR.fr {h h' : zAc} {F : Nat → Prop} (a : Fr h h' F) (n : ∀ b,b < h.length → ¬ F b) : ∀ {s : List Sh} {v : List AV},DatR h s v → DatR h' s v
 | _,_,.nil=>.nil
 | _,_,.cons hd tl=>.cons (DatC.fr a n hd) (DatR.fr a n tl)
end
theorem DatC.bytes {h : zAc} {v : AV} (d : DatC h (.sl [.int .u8]) v) : ∃ zs,BS h v zs ∧ IsU8 zs ∧ (∀ b o s n l e,v = .sl b o s n l e → n ≤ l):=by
 cases d with
 | nil=>exact ⟨[],.inl ⟨rfl,rfl⟩,fun z hz=>(by cases hz),fun b o s n l e h=>(by cases h)⟩
 | @sl _ b rows hn hb hr =>
  have key : ∀ rows : List (List AV),(∀ r,r ∈ rows → DatR h [.int .u8] r) → ∃ zs : List Int,rows.flatten = u8s zs ∧ zs.length = rows.length ∧ IsU8 zs:=by
   intro rows
   induction rows with
   | nil=>intro _; exact ⟨[],rfl,rfl,fun z hz=>(by cases hz)⟩
   | cons r rows ih =>
    intro hr
    obtain ⟨zs,e1,e2,e3⟩:=ih fun r hm=>hr r (by simp [hm])
    have hd:=hr r (by simp)
    cases hd with
    | cons hd tl =>
     cases hd with
     | @int _ n hn =>
      cases tl
      refine ⟨n :: zs,by rw [List.flatten_cons,e1]; rfl,by simp [e2],fun z hz=>?_⟩
      rcases List.mem_cons.1 hz with rfl | hz
      ·exact hn
      ·exact e3 z hz
  obtain ⟨zs,e1,e2,e3⟩:=key rows hr
  rw [e1] at hb
  refine ⟨zs,.inr ⟨b,0,rows.length,false,u8s zs,by rw [e2]; rfl,hb,fun i z hz=>by rw [Nat.zero_add]; exact zM2 hz,by rw [zCu]; omega⟩,e3,fun b' o s n l e h=>?_⟩
  injection h with _ _ _ h4 h5
  omega
variable {P : Program}
structure Got (w : World) (base : Nat) (shs : List Sh) (cs : List Value) (Bs : List (ABlk × Ent)) (as : List AV) : Prop where
 len : as.length = shs.length
 clen : cs.length = shs.length
 rel : ∀ φ : Ren,(∀ (i : Nat) be,Bs[i]? = some be → φ (base + i) = some be.2) → VRels φ as cs
 blk : ∀ φ : Ren,(∀ (i : Nat) be,Bs[i]? = some be → φ (base + i) = some be.2) → ∀ be ∈ Bs,∃ o,w.heap[be.2.blk]? = some o ∧ zD1 φ be.1 be.2 o
 own : ∀ be ∈ Bs,be.1.own = false
 dat : ∀ h : zAc,(∀ (i : Nat) be,Bs[i]? = some be → h[base + i]? = some be.1) → DatR h shs as
theorem Got.nil (w : World) (base : Nat) : Got w base [] [] [] []:=⟨rfl,rfl,fun _ _=>.nil,fun _ _ _ h=>(by cases h),fun _ h=>(by cases h),fun _ _=>.nil⟩
theorem Got.app {w : World} {base : Nat} {s1 s2 : List Sh} {c1 c2 : List Value} {B1 B2 : List (ABlk × Ent)} {a1 a2 : List AV} (g1 : Got w base s1 c1 B1 a1) (g2 : Got w (base + B1.length) s2 c2 B2 a2) : Got w base (s1 ++ s2) (c1 ++ c2) (B1 ++ B2) (a1 ++ a2):=by
 have l : ∀ {α : Type} {Q : Nat → α → Prop} {X Y : List α},(∀ (i : Nat) be,(X ++ Y)[i]? = some be → Q (base + i) be) → (∀ (i : Nat) be,X[i]? = some be → Q (base + i) be) ∧ ∀ (i : Nat) be,Y[i]? = some be → Q (base + X.length + i) be:=by
  intro α Q X Y h
  refine ⟨fun i be hi=>h i be (by rw [List.getElem?_append_left (List.getElem?_eq_some_iff.1 hi).1]; exact hi),fun i be hi=>?_⟩
  have:=h (X.length + i) be (by rw [List.getElem?_append_right (by omega),show X.length + i - X.length = i by omega]; exact hi)
  rw [Nat.add_assoc]; exact this
 refine ⟨by simp [g1.len,g2.len],by simp [g1.clen,g2.clen],fun φ hφ=>?_,fun φ hφ be hb=>?_,fun be hb=>?_,fun h hh=>?_⟩
 ·obtain ⟨h1,h2⟩:=l (Q:=fun i (be : ABlk × Ent)=>φ i = some be.2) hφ
  exact (g1.rel φ h1).append (g2.rel φ h2)
 ·obtain ⟨h1,h2⟩:=l (Q:=fun i (be : ABlk × Ent)=>φ i = some be.2) hφ
  rcases List.mem_append.1 hb with hb | hb
  ·exact g1.blk φ h1 be hb
  ·exact g2.blk φ h2 be hb
 ·rcases List.mem_append.1 hb with hb | hb
  ·exact g1.own be hb
  ·exact g2.own be hb
 ·obtain ⟨h1,h2⟩:=l (Q:=fun i (be : ABlk × Ent)=>h[i]? = some be.1) hh
  exact DatR.app (g2.dat h h2) (g1.dat h h1)
def Imp (P : Program) (t : TypeId) (shs : List Sh) : Prop :=
 ∀ {H : Type} {enc : TypeId × Value → H} {w : World} {held : Bool} {fuel : Nat} {cs : List Value} {x : DataW H × List MemPlace},DataW.trod enc P w 0 (fun _=>true) held fuel t cs = some x →
  ∀ {r0 : Nat} {C0 : Array Value} {t0 : TypeId} {f0 : Nat × Nat},w.heap[r0]? = some (.cells C0 t0 f0) → ∀ base : Nat,∃ Bs as,Got w base shs cs Bs as
theorem imp_int {t : TypeId} {k : IntKind} (ht : P.underlying t = some (.int k)) : Imp P t [.int k]:=by
 intro H enc w held fuel cs x h r0 C0 t0 f0 h0 base
 obtain ⟨n,rfl,_,hwf⟩:=DataW.trod_int ht h
 exact ⟨[],[.int k n],rfl,rfl,fun _ _=>.cons (.int k n) .nil,fun _ _ _ h=>(by cases h),fun _ h=>(by cases h),fun _ _=>.cons (.int (zTj hwf)) .nil⟩
theorem imp_struct {t : TypeId} {fs : Array Field} {fields : List (List Sh)} (ht : P.underlying t = some (.struct fs)) (hc : P.cellsOf t = fields.flatten.length) (hn : fs.size = fields.length)
  (hf : ∀ (i : Nat) f ls,fs[i]? = some f → fields[i]? = some ls → f.offset = (fields.take i).flatten.length ∧ P.cellsOf f.type = ls.length ∧ Imp P f.type ls) : Imp P t fields.flatten:=by
 intro H enc w held fuel cs x h r0 C0 t0 f0 h0 base
 obtain ⟨xs,n,rfl,_,hl,hxs,hg⟩:=DataW.trod_struct ht h
 rw [hc] at hl
 have key : ∀ m,m ≤ fields.length → ∃ Bs as,Got w base (fields.take m).flatten (cs.take (fields.take m).flatten.length) Bs as:=by
  intro m
  induction m with
  | zero=>intro _; exact ⟨[],[],Got.nil w base⟩
  | succ m ih =>
   intro hm
   obtain ⟨B1,a1,g1⟩:=ih (by omega)
   have hlt : m < fs.size:=by omega
   obtain ⟨q1,q2,q3⟩:=hf m fs[m] fields[m] (Array.getElem?_eq_getElem hlt) (List.getElem?_eq_getElem (by omega))
   have g:=hg m fs[m] (Array.getElem?_eq_getElem hlt)
   rw [List.getElem?_eq_getElem (by omega),q1,q2] at g
   obtain ⟨B2,a2,g2⟩:=q3 g h0 (base + B1.length)
   refine ⟨B1 ++ B2,a1 ++ a2,?_⟩
   rw [List.take_add_one,List.getElem?_eq_getElem (by omega),Option.toList_some,List.flatten_append,List.flatten_cons,List.flatten_nil,List.append_nil,List.length_append,List.take_add]
   exact g1.app g2
 obtain ⟨Bs,as,g⟩:=key fields.length (Nat.le_refl _)
 rw [List.take_length,List.take_of_length_le (by omega)] at g
 exact ⟨Bs,as,g⟩
structure GotR (w : World) (base : Nat) (e : List Sh) (C : Array Value) (off : Nat) (rows : List (List AV)) (Bs : List (ABlk × Ent)) : Prop where
 len : ∀ r ∈ rows,r.length = e.length
 rel : ∀ φ : Ren,(∀ (i : Nat) be,Bs[i]? = some be → φ (base + i) = some be.2) → ∀ (i : Nat) r f a,rows[i]? = some r → r[f]? = some a → ∃ v,C[off + (i * e.length + f)]? = some v ∧ VRel φ a v
 blk : ∀ φ : Ren,(∀ (i : Nat) be,Bs[i]? = some be → φ (base + i) = some be.2) → ∀ be ∈ Bs,∃ o,w.heap[be.2.blk]? = some o ∧ zD1 φ be.1 be.2 o
 own : ∀ be ∈ Bs,be.1.own = false
 dat : ∀ h : zAc,(∀ (i : Nat) be,Bs[i]? = some be → h[base + i]? = some be.1) → ∀ r ∈ rows,DatR h e r
theorem zRp {w : World} {a : Addr} {v : Value} (h : w.cell? a = some v) : a.spot = none ∧ ∃ C t f,w.heap[a.block]? = some (.cells C t f) ∧ C[a.off]? = some v:=by
 unfold World.cell? at h
 split at h
 ·rename_i c t f hh
  split at h
  ·cases h
  ·rename_i hs
   refine ⟨by simpa using hs,c,t,f,hh,h⟩
 ·cases h
theorem imp_slice {t e : TypeId} {ks : List Sh} (ht : P.underlying t = some (.slice e)) (hc : P.cellsOf e = ks.length) (h1 : 1 ≤ ks.length) (he : Imp P e ks) : Imp P t [.sl ks]:=by
 intro H enc w held fuel cs x h r0 C0 t0 f0 h0 base
 rcases DataW.trod_slice ht h with ⟨rfl,_⟩ | ⟨ad,len,cap,elems,rest,n,rfl,rfl,_,_,hle,hmax,hel,hg,hg2,_⟩
 ·exact ⟨[],[.nilSl],rfl,rfl,fun _ _=>.cons .nilSl .nil,fun _ _ _ h=>(by cases h),fun _ h=>(by cases h),fun _ _=>.cons (.nil ks) .nil⟩
 by_cases hcap0 : cap = 0
 ·subst hcap0
  obtain rfl : len = 0:=by omega
  refine ⟨[(.ro [],⟨r0,0,C0.size⟩)],[.sl base 0 ks.length 0 0 false],rfl,rfl,fun φ hφ=>?_,fun φ hφ be hb=>?_,fun be hb=>?_,fun h hh=>?_⟩
  ·have:=hφ 0 _ rfl
   exact .cons (.sl (e:=⟨r0,0,C0.size⟩) (a:=ad) (cap:=0) this (.inr rfl) (Nat.le_refl _) (Nat.le_refl _) (fun h=>by cases h) (by simp)) .nil
  ·simp only [List.mem_cons,List.not_mem_nil,or_false] at hb; subst hb
   exact ⟨_,h0,C0,t0,f0,rfl,rfl,by simp,fun i a ha=>by simp at ha⟩
  ·simp only [List.mem_cons,List.not_mem_nil,or_false] at hb; subst hb; rfl
  ·have:=hh 0 _ rfl
   exact .cons (.sl (rows:=[]) (by simp) (by unfold cellsOf; rw [Nat.add_zero] at this; rw [this]; rfl) (fun r hr=>by cases hr)) .nil
 obtain ⟨hrl,hrest⟩:=hg2 rfl
 have cellAt : ∀ i,i < cap → ∃ y cs',w.cells? 0 (ad.add (i * ks.length)) ks.length = some cs' ∧ DataW.trod enc P w 0 (fun _=>true) held n e cs' = some y:=by
  intro i hi
  by_cases hl : i < len
  ·have g:=hg i hl
   rw [List.getElem?_eq_getElem (by omega),Option.bind_eq_some_iff,hc] at g
   obtain ⟨cs',h1,h2⟩:=g
   exact ⟨_,cs',h1,h2⟩
  ·have g:=hrest (i - len) (by omega)
   rw [List.getElem?_eq_getElem (by omega),Option.bind_eq_some_iff,hc,show len + (i - len) = i by omega] at g
   obtain ⟨cs',h1,h2⟩:=g
   exact ⟨_,cs',h1,h2⟩
 have cellG : ∀ {i cs'},w.cells? 0 (ad.add (i * ks.length)) ks.length = some cs' → ∀ f,f < ks.length → w.cell? ((ad.add (i * ks.length)).add f) = cs'[f]?:=by
  intro i cs' h f hf
  unfold World.cells? at h
  rw [if_pos (Nat.zero_le _)] at h
  exact mapM_some_get h f f (by rw [List.getElem?_range hf])
 obtain ⟨hs,C,tt,fz,ho,_⟩ : ad.spot = none ∧ ∃ C t f,w.heap[ad.block]? = some (.cells C t f) ∧ True:=by
  obtain ⟨y,cs',q1,q2⟩:=cellAt 0 (by omega)
  have q3:=cellG q1 0 (by omega)
  have hlen : 0 < cs'.length:=by
   obtain ⟨_,_,g⟩:=he q2 h0 0
   rw [g.clen]; omega
  rw [List.getElem?_eq_getElem hlen,Nat.zero_mul] at q3
  have e0 : (ad.add 0).add 0 = ad:=rfl
  rw [e0] at q3
  obtain ⟨h1,C,t,f,h2,_⟩:=zRp q3
  exact ⟨h1,C,t,f,h2,trivial⟩
 have cellC : ∀ {i cs'},w.cells? 0 (ad.add (i * ks.length)) ks.length = some cs' → ∀ f,f < ks.length → C[ad.off + (i * ks.length + f)]? = cs'[f]?:=by
  intro i cs' h f hf
  have:=cellG h f hf
  rw [add_add hs,cell_of hs ho rfl] at this
  exact this
 have hsz : ad.off + cap * ks.length ≤ C.size:=by
  obtain ⟨y,cs',q1,q2⟩:=cellAt (cap - 1) (by omega)
  have hl : cs'.length = ks.length:=by
   obtain ⟨_,_,g⟩:=he q2 h0 0
   exact g.clen
  have:=cellC q1 (ks.length - 1) (by omega)
  rw [List.getElem?_eq_getElem (by omega)] at this
  have:=(Array.getElem?_eq_some_iff.1 this).1
  have e3 : cap * ks.length = (cap - 1) * ks.length + ks.length:=by
   conv=>lhs; rw [show cap = (cap - 1) + 1 by omega,Nat.add_mul,Nat.one_mul]
  omega
 have key : ∀ m,m ≤ len → ∃ rows Bs,rows.length = m ∧ GotR w (base + 1) ks C ad.off rows Bs:=by
  intro m
  induction m with
  | zero=>intro _; exact ⟨[],[],rfl,fun r h=>(by cases h),fun φ _ i r f a h=>(by simp at h),fun φ _ be h=>(by cases h),fun be h=>(by cases h),fun h _ r hr=>(by cases hr)⟩
  | succ m ih =>
   intro hm
   obtain ⟨rows,B1,hl,g1⟩:=ih (by omega)
   obtain ⟨y,cs',q1,q2⟩:=cellAt m (by omega)
   obtain ⟨B2,as,g2⟩:=he q2 h0 (base + 1 + B1.length)
   have l : ∀ {Q : Nat → (ABlk × Ent) → Prop},(∀ (i : Nat) be,(B1 ++ B2)[i]? = some be → Q (base + 1 + i) be) → (∀ (i : Nat) be,B1[i]? = some be → Q (base + 1 + i) be) ∧ ∀ (i : Nat) be,B2[i]? = some be → Q (base + 1 + B1.length + i) be:=by
    intro Q h
    refine ⟨fun i be hi=>h i be (by rw [List.getElem?_append_left (List.getElem?_eq_some_iff.1 hi).1]; exact hi),fun i be hi=>?_⟩
    have:=h (B1.length + i) be (by rw [List.getElem?_append_right (by omega),show B1.length + i - B1.length = i by omega]; exact hi)
    rw [Nat.add_assoc (base + 1)]; exact this
   refine ⟨rows ++ [as],B1 ++ B2,by simp [hl],⟨fun r hr=>?_,fun φ hφ i r f a hi hf=>?_,fun φ hφ be hb=>?_,fun be hb=>?_,fun h hh r hr=>?_⟩⟩
   ·rcases List.mem_append.1 hr with hr | hr
    ·exact g1.len r hr
    ·simp only [List.mem_cons,List.not_mem_nil,or_false] at hr; subst hr; exact g2.len
   ·obtain ⟨h1,h2⟩:=l (Q:=fun i (be : ABlk × Ent)=>φ i = some be.2) hφ
    by_cases hlt : i < rows.length
    ·rw [List.getElem?_append_left hlt] at hi
     exact g1.rel φ h1 i r f a hi hf
    ·have hi2 : i = m:=by
      have:=(List.getElem?_eq_some_iff.1 hi).1
      simp at this; omega
     subst hi2
     rw [List.getElem?_append_right (by omega),hl,Nat.sub_self] at hi
     simp only [List.getElem?_cons_zero,Option.some.injEq] at hi
     subst hi
     obtain ⟨v,hv,hr⟩:=(g2.rel φ h2).get hf
     have hfl : f < ks.length:=by rw [← g2.len]; exact (List.getElem?_eq_some_iff.1 hf).1
     exact ⟨v,by rw [cellC q1 f hfl]; exact hv,hr⟩
   ·obtain ⟨h1,h2⟩:=l (Q:=fun i (be : ABlk × Ent)=>φ i = some be.2) hφ
    rcases List.mem_append.1 hb with hb | hb
    ·exact g1.blk φ h1 be hb
    ·exact g2.blk φ h2 be hb
   ·rcases List.mem_append.1 hb with hb | hb
    ·exact g1.own be hb
    ·exact g2.own be hb
   ·obtain ⟨h1,h2⟩:=l (Q:=fun i (be : ABlk × Ent)=>h[i]? = some be.1) hh
    rcases List.mem_append.1 hr with hr | hr
    ·exact g1.dat h h1 r hr
    ·simp only [List.mem_cons,List.not_mem_nil,or_false] at hr; subst hr; exact g2.dat h h2
 obtain ⟨rows,Bs,hl,g⟩:=key len (Nat.le_refl _)
 have hfl:=zDj g.len
 have bs : ∀ {Q : Nat → (ABlk × Ent) → Prop},(∀ (i : Nat) be,((ABlk.ro rows.flatten,(⟨ad.block,ad.off,C.size⟩ : Ent)) :: Bs)[i]? = some be → Q (base + i) be) → Q base (.ro rows.flatten,⟨ad.block,ad.off,C.size⟩) ∧ ∀ (i : Nat) be,Bs[i]? = some be → Q (base + 1 + i) be:=by
  intro Q h
  refine ⟨h 0 _ rfl,fun i be hi=>?_⟩
  have:=h (i + 1) be (by simpa using hi)
  rw [show base + 1 + i = base + (i + 1) by omega]; exact this
 have hlen : rows.flatten.length ≤ cap * ks.length:=by rw [hfl,hl]; exact Nat.mul_le_mul_right _ hle
 refine ⟨(.ro rows.flatten,⟨ad.block,ad.off,C.size⟩) :: Bs,[.sl base 0 ks.length rows.length rows.length false],rfl,rfl,fun φ hφ=>?_,fun φ hφ be hb=>?_,fun be hb=>?_,fun h hh=>?_⟩
 ·obtain ⟨q1,_⟩:=bs (Q:=fun i (be : ABlk × Ent)=>φ i = some be.2) hφ
  have : VRel φ (.sl base 0 ks.length rows.length rows.length false) (.slice (some ad) len cap):=by
   rw [hl]
   refine .sl (e:=⟨ad.block,ad.off,C.size⟩) (a:=ad) (cap:=cap) q1 (.inl ?_) (Nat.le_refl _) hle (fun h=>by cases h) (by simp; exact hsz)
   cases ad; simp at hs; subst hs; rfl
  exact .cons this .nil
 ·obtain ⟨q1,q2⟩:=bs (Q:=fun i (be : ABlk × Ent)=>φ i = some be.2) hφ
  rcases List.mem_cons.1 hb with rfl | hb
  ·refine ⟨_,ho,C,tt,fz,rfl,rfl,by show ad.off + rows.flatten.length ≤ C.size; omega,fun j a hj=>?_⟩
   have hjl:=(List.getElem?_eq_some_iff.1 hj).1
   rw [hfl] at hjl
   have hi : j / ks.length < rows.length:=Nat.div_lt_of_lt_mul (by rw [Nat.mul_comm]; exact hjl)
   have e1 : j / ks.length * ks.length + j % ks.length = j:=by rw [Nat.mul_comm]; exact Nat.div_add_mod j ks.length
   have e2:=Nat.mod_lt j (show 0 < ks.length by omega)
   have e3:=zEf g.len (List.getElem?_eq_getElem hi) _ e2
   rw [e1,hj] at e3
   obtain ⟨v,hv,hr⟩:=g.rel φ q2 _ _ _ _ (List.getElem?_eq_getElem hi) e3.symm
   rw [e1] at hv
   exact ⟨v,hv,hr⟩
  ·exact g.blk φ q2 be hb
 ·rcases List.mem_cons.1 hb with rfl | hb
  ·rfl
  ·exact g.own be hb
 ·obtain ⟨q1,q2⟩:=bs (Q:=fun i (be : ABlk × Ent)=>h[i]? = some be.1) hh
  exact .cons (.sl (by rw [hl]; unfold maxLen at hmax; omega) (by unfold cellsOf; rw [q1]) (g.dat h q2)) .nil
theorem imp_arg {t : TypeId} {ks : List Sh} {w : World} {v : Value} {H : Type} {enc : TypeId × Value → H} {d : DataW H} {ps : List MemPlace} (he : Imp P t [.sl ks]) (hv : OkSl w v) (h : DataW.Trod enc P w 0 (fun _=>true) true t v d ps) :
  ∀ base : Nat,∃ Bs a,Got w base [.sl ks] [v] Bs [a]:=by
 intro base
 obtain ⟨fuel,h⟩:=h
 rw [hv.cells] at h
 rcases hv with rfl | ⟨ad,len,cap,o,rfl,_,_,ho,C,tt,fz,rfl⟩
 ·exact ⟨[],.nilSl,rfl,rfl,fun _ _=>.cons .nilSl .nil,fun _ _ _ h=>(by cases h),fun _ h=>(by cases h),fun _ _=>.cons (.nil ks) .nil⟩
 ·obtain ⟨Bs,as,g⟩:=he h ho base
  match as,g.len with
  | [a],_=>exact ⟨Bs,a,g⟩
theorem zCa {φ : Ren} {a : AV} {v : Value} {as : List AV} {vs : List Value} (h : VRels φ (a :: as) (v :: vs)) : VRel φ a v:=by cases h; assumption
theorem zA7 {φ : Ren} {a : AV} {v : Value} {as : List AV} {vs : List Value} (h : VRels φ (a :: as) (v :: vs)) : VRels φ as vs:=by cases h; assumption
theorem DatR.head {h : zAc} {s : Sh} {a : AV} {ss : List Sh} {as : List AV} (d : DatR h (s :: ss) (a :: as)) : DatC h s a:=by cases d; assumption
theorem DatR.tail {h : zAc} {s : Sh} {a : AV} {ss : List Sh} {as : List AV} (d : DatR h (s :: ss) (a :: as)) : DatR h ss as:=by cases d; assumption
theorem st_got (w : World) (Bs : List (ABlk × Ent)) (ho : ∀ be ∈ Bs,be.1.own = false) (hb : ∀ φ : Ren,(∀ (i : Nat) be,Bs[i]? = some be → φ i = some be.2) → ∀ be ∈ Bs,∃ o,w.heap[be.2.blk]? = some o ∧ zD1 φ be.1 be.2 o) :
  St (fun i=>(Bs[i]?).map (·.2)) (Bs.map (·.1)) w:=by
 have hφ : ∀ (i : Nat) be,Bs[i]? = some be → (fun i=>(Bs[i]?).map (·.2)) i = some be.2:=fun i be h=>by simp [h]
 constructor
 ·intro b e he
  obtain ⟨x,hx,rfl⟩:=Option.map_eq_some_iff.1 he
  obtain ⟨o,h1,h2⟩:=hb _ hφ x (List.mem_of_getElem? hx)
  exact ⟨x.1,o,by rw [List.getElem?_map,hx]; rfl,h1,h2⟩
 ·intro b b' e e' k k' _ _ hk _ ho' _ _
  rw [List.getElem?_map] at hk
  obtain ⟨x,hx,rfl⟩:=Option.map_eq_some_iff.1 hk
  rw [ho x (List.mem_of_getElem? hx)] at ho'; cases ho'
theorem zSo (Bs : List (ABlk × Ent)) (ho : ∀ be ∈ Bs,be.1.own = false) : NoOwn (Bs.map (·.1)):=by
 intro b k hk
 rw [List.getElem?_map] at hk
 obtain ⟨x,hx,rfl⟩:=Option.map_eq_some_iff.1 hk
 exact ho x (List.mem_of_getElem? hx)
end Go.Proofs.Ythgflkfhjnbheaa.Eng
end
section
namespace Go.Proofs.Ythgflkfhjnbheaa.Eng
open Go
end Go.Proofs.Ythgflkfhjnbheaa.Eng
end
section
set_option linter.unusedVariables false
namespace Go.Proofs.Ythgflkfhjnbheaa.Eng
open Go
def thereR (x : AV × Sec) : List AV:=u8s x.2.there
structure RD (H : zAc) (p s v c : Nat) (L : List (AV × Sec)) : Prop where
 ptr : cellsOf H p = some [.sl s 0 64 L.length L.length true,.sl v 0 1 L.length L.length true]
 bs : H[s]? = some (.rw (L.map thereR).flatten)
 bv : H[v]? = some (.rw (L.map (·.1)))
 n1 : p ≠ s
 n2 : p ≠ v
 n3 : s ≠ v
 sz : L.length ≤ 4096
 vs : VS H L c fun b=>b = p ∨ b = s ∨ b = v
def fpQ (p s v : Nat) (L : List (AV × Sec)) (b : Nat) : Prop:=b = p ∨ b = s ∨ b = v ∨ fpV L b
section
variable {H : zAc} {p s v c : Nat} {L : List (AV × Sec)} (m : RD H p s v c L)
include m
end
end Go.Proofs.Ythgflkfhjnbheaa.Eng
end
section
set_option linter.unusedVariables false
namespace Go.Proofs.Ythgflkfhjnbheaa.Eng
open Go
end Go.Proofs.Ythgflkfhjnbheaa.Eng
end
section
set_option linter.unusedVariables false
namespace Go.Proofs.Ythgflkfhjnbheaa.Eng
open Go
structure Pl where
 p : Nat
 s : Nat
 v : Nat
def fpP (a : Pl) (L : List (AV × Sec)) (b : Nat) : Prop:=fpQ a.p a.s a.v L b
structure RQ (H : zAc) (p : Nat) (x y : Pl) (c : Nat) (L0 L1 : List (AV × Sec)) (r : RgS) : Prop where
 blk : H[p]? = some (.rw (zSb x.p y.p r))
 k0 : RD H x.p x.s x.v c L0
 k1 : RD H y.p y.s y.v c L1
 e0 : L0.map (·.2) = r.a
 e1 : L1.map (·.2) = r.b
 dis : ∀ b,fpP x L0 b → ¬ fpP y L1 b
 n0 : ¬ fpP x L0 p
 n1 : ¬ fpP y L1 p
def fpW (p : Nat) (x y : Pl) (L0 L1 : List (AV × Sec)) (b : Nat) : Prop:=b = p ∨ fpP x L0 b ∨ fpP y L1 b
section
variable {H H' : zAc} {p c : Nat} {x y : Pl} {L0 L1 : List (AV × Sec)} {r : RgS} (m : RQ H p x y c L0 L1 r)
include m
end
def RefIn (H : zAc) (p c : Nat) (r : RgS) (F : Nat → Prop) : Prop:=∃ x y L0 L1,RQ H p x y c L0 L1 r ∧ (∀ b,fpW p x y L0 L1 b → F b) ∧ ∀ b,F b → b < H.length
end Go.Proofs.Ythgflkfhjnbheaa.Eng
end
section
namespace Go.Proofs.Ythgflkfhjnbheaa.Eng
open Go
def putS : Nat → Int → List Int
 | 0,_=>[]
 | k + 1,n=>n % 256 :: putS k (n / 256)
theorem zA5 : ∀ (k : Nat) (n : Int),(putS k n).length = k
 | 0,_=>rfl
 | k + 1,n=>by simp [putS,zA5 k]
theorem zJ9 : ∀ (k : Nat) (n : Int),IsU8 (putS k n)
 | 0,_=>fun z hz=>by cases hz
 | k + 1,n=>fun z hz=>by
  simp only [putS,List.mem_cons] at hz
  rcases hz with rfl | hz
  ·omega
  ·exact zJ9 k _ z hz
theorem div_pow (n : Int) (k : Nat) : n / 256 / 256 ^ k = n / 256 ^ (k + 1):=by
 rw [Int.ediv_ediv_of_nonneg (by omega),Int.pow_succ,Int.mul_comm]
theorem div_pow' (n : Int) (k : Nat) : n / 256 ^ k / 256 = n / 256 ^ (k + 1):=by
 rw [Int.ediv_ediv_of_nonneg (Int.pow_nonneg (by omega)),Int.pow_succ]
theorem zIa : ∀ (k : Nat) (n : Int),putS (k + 1) n = putS k n ++ [n / 256 ^ k % 256]
 | 0,n=>by simp [putS]
 | k + 1,n=>by
  rw [putS,zIa k,putS,List.cons_append,div_pow]
def getS : List Int → Int
 | []=>0
 | z :: zs=>z + 256 * getS zs
theorem zIj : ∀ (zs : List Int) (z : Int),getS (zs ++ [z]) = getS zs + z * 256 ^ zs.length
 | [],z=>by simp [getS]
 | y :: zs,z=>by
  rw [List.cons_append,getS,zIj zs z,getS,List.length_cons,Int.pow_succ,Int.mul_add,← Int.mul_assoc,Int.mul_comm 256 z,Int.mul_assoc,Int.mul_comm 256 (256 ^ _)]
  omega
theorem zEy : ∀ {zs : List Int},IsU8 zs → 0 ≤ getS zs ∧ getS zs < 256 ^ zs.length
 | [],_=>by simp [getS]
 | z :: zs,h=>by
  have a:=h z (by simp)
  obtain ⟨b,c⟩:=zEy (zs:=zs) fun y hy=>h y (by simp [hy])
  rw [getS,List.length_cons,Int.pow_succ]
  generalize (256 : Int) ^ zs.length = w at *
  omega
theorem zHs : ∀ (k : Nat) (n : Int),0 ≤ n → n < 256 ^ k → getS (putS k n) = n
 | 0,n,h0,h1=>by
  rw [Int.pow_zero] at h1
  simp only [putS,getS]; omega
 | k + 1,n,h0,h1=>by
  rw [Int.pow_succ] at h1
  rw [putS,getS,zHs k (n / 256) (by omega) (by
   generalize (256 : Int) ^ k = w at *
   omega)]
  omega
theorem zLv (i : Nat) : (2 : Int) ^ (8 * i) = 256 ^ i:=by rw [Int.pow_mul]; rfl
theorem wrapu64 (n : Int) : IntKind.u64.wrap n = n % 18446744073709551616:=rfl
theorem zOb (n : Int) : IntKind.u8.wrap n = n % 256:=rfl
theorem zBv {n : Int} (h0 : 0 ≤ n) (h1 : n < 18446744073709551616) : IntKind.u64.wrap n = n:=by rw [wrapu64]; omega
theorem toNat_ofInt {n : Int} (h0 : 0 ≤ n) (h1 : n < 18446744073709551616) : (BitVec.ofInt 64 n).toNat = n.toNat:=by
 rw [BitVec.toNat_ofInt]
 show (n % (18446744073709551616 : Int)).toNat = _
 congr 1
 omega
theorem zSp {a z : Int} {i : Nat} (h0 : 0 ≤ a) (h1 : a < 256 ^ i) (z0 : 0 ≤ z) (z1 : z ≤ 255) (hi : i < 8) :
  IntKind.u64.wrap ((BitVec.ofInt 64 a ||| BitVec.ofInt 64 (IntKind.u64.wrap (z * 2 ^ min (8 * i) 64))).toNat : Int) = a + z * 256 ^ i:=by
 have e8 : (256 : Int) ^ 8 = 18446744073709551616:=by decide
 have hp : (256 : Int) ^ (i + 1) ≤ 256 ^ 8:=by
  rcases (by omega : i = 0 ∨ i = 1 ∨ i = 2 ∨ i = 3 ∨ i = 4 ∨ i = 5 ∨ i = 6 ∨ i = 7) with rfl | rfl | rfl | rfl | rfl | rfl | rfl | rfl <;> decide
 have hq : (0 : Int) < 256 ^ i:=Int.pow_pos (by omega)
 rw [e8,Int.pow_succ] at hp
 have hz : z * 256 ^ i ≤ 255 * 256 ^ i:=Int.mul_le_mul_of_nonneg_right z1 (by omega)
 have hz0 : 0 ≤ z * 256 ^ i:=Int.mul_nonneg z0 (by omega)
 have hm : min (8 * i) 64 = 8 * i:=by omega
 rw [hm,zLv,zBv hz0 (by omega),BitVec.toNat_or,toNat_ofInt h0 (by omega),toNat_ofInt hz0 (by omega)]
 have en : a.toNat < 2 ^ (8 * i):=by
  have : ((a.toNat : Nat) : Int) < ((2 ^ (8 * i) : Nat) : Int):=by
   rw [Int.toNat_of_nonneg h0]; push_cast; rw [zLv]; exact h1
  exact_mod_cast this
 have ez : (z * 256 ^ i).toNat = z.toNat <<< (8 * i):=by
  rw [Nat.shiftLeft_eq]
  apply Int.ofNat.inj
  show (((z * 256 ^ i).toNat : Nat) : Int) = ((z.toNat * 2 ^ (8 * i) : Nat) : Int)
  rw [Int.toNat_of_nonneg hz0]; push_cast; rw [zLv,Int.toNat_of_nonneg z0]
 rw [ez,Nat.or_comm,← Nat.shiftLeft_add_eq_or_of_lt en,← ez]
 push_cast
 rw [Int.toNat_of_nonneg hz0,Int.toNat_of_nonneg h0,zBv (by omega) (by omega)]
 omega
def fnvStep (h c : Int) : Int:=IntKind.u64.wrap (IntKind.u64.wrap ((BitVec.ofInt 64 h ^^^ BitVec.ofInt 64 c).toNat : Int) * 1099511628211)
def zHl (h : Int) (zs : List Int) : Int:=zs.foldl fnvStep h
def checkS (zs : List Int) : Int:=zHl 14695981039346656037 zs
def B48 (z : List Int) : Prop:=z.length = 48 ∧ IsU8 z
def headS (m s i : Int) (body : List Int) : List Int:=m :: (putS 4 s ++ putS 2 i ++ body)
def encS (m s i : Int) (body : List Int) : List Int:=headS m s i body ++ putS 8 (checkS (headS m s i body)) ++ [0]
def zbody : List Int:=List.replicate 48 0
structure PgS where
 m : Int
 s : Int
 i : Int
 b : List Int
structure PgS.Ok (p : PgS) : Prop where
 m : 0 ≤ p.m ∧ p.m ≤ 255
 s : 0 ≤ p.s ∧ p.s < 4294967296
 i : -9223372036854775808 ≤ p.i ∧ p.i ≤ 9223372036854775807
 b : B48 p.b
def PgS.cells (p : PgS) : List AV:=.int .u8 p.m :: .int .u32 p.s :: .int .i64 p.i :: u8s p.b
theorem skolem_v {C : T → Prop} {Q : T → AV → Prop} (h : ∀ t : T,C t → ∃ v,Q t v) : ∃ VV : T → AV,∀ t : T,C t → Q t (VV t):=by
 have h2 : ∀ t : T,∃ v,C t → Q t v:=fun t=>by
  by_cases e : C t
  ·obtain ⟨v,hv⟩:=h t e; exact ⟨v,fun _=>hv⟩
  ·exact ⟨.undef,fun q=>absurd q e⟩
 exact ⟨fun t=>(h2 t).choose,fun t=>(h2 t).choose_spec⟩
def GB (H : zAc) (B : Nat) (l : AV) (zs : List Int) : Prop :=
 (zs = [] ∧ l = .nilSl) ∨ (zs ≠ [] ∧ ∃ b,B ≤ b ∧ l = .sl b 0 1 zs.length zs.length false ∧ H[b]? = some (.rw (u8s zs)))
theorem GB.bs {H : zAc} {B : Nat} {l : AV} {zs : List Int} (g : GB H B l zs) : BS H l zs:=by
 rcases g with ⟨rfl,rfl⟩ | ⟨_,b,_,rfl,h⟩
 ·exact BS.nil _
 ·exact BS.block h
theorem GB.out {H : zAc} {B : Nat} {l : AV} {zs : List Int} (g : GB H B l zs) : ∀ b,slb l = some b → B ≤ b:=by
 rcases g with ⟨rfl,rfl⟩ | ⟨_,b,hb,rfl,h⟩
 ·intro b h; cases h
 ·intro b' h; injection h with h; omega
theorem GB.cells {H : zAc} {B : Nat} {l : AV} {zs : List Int} (g : GB H B l zs) : zA0 l = some [l] ∧ l.isCell = true:=by
 rcases g with ⟨rfl,rfl⟩ | ⟨_,b,_,rfl,_⟩ <;> exact ⟨rfl,rfl⟩
theorem GB.fr {H H' : zAc} {F : Nat → Prop} {B : Nat} {l : AV} {zs : List Int} (a : Fr H H' F) (g : GB H B l zs) (n : ∀ b,slb l = some b → ¬ F b) : GB H' B l zs:=by
 rcases g with g | ⟨h0,b,hb,rfl,h⟩
 ·exact .inl g
 ·exact .inr ⟨h0,b,hb,rfl,a.at h (n b rfl)⟩
theorem GB.under {H : zAc} {B : Nat} {l : AV} {zs : List Int} (g : GB H B l zs) (h0 : zs ≠ []) : l.under B = false:=by
 rcases g with ⟨rfl,_⟩ | ⟨_,b,hb,rfl,h⟩
 ·exact absurd rfl h0
 ·simp [AV.under]; omega
theorem GB.more {d : TyD} (hd : d.size = 1) (hb : d.bytes = 1) {P H : zAc} (a : Adds P H) {l y : AV} {zs ys : List Int} (g : GB H P.length l zs) (s : Src 1 H y ys.length (u8s ys)) (hn : zs.length + ys.length ≤ 1000000000) :
  ∃ l' H',Adds P H' ∧ GB H' P.length l' (zs ++ ys) ∧ Fr H H' (fun b=>slb l = some b) ∧ (ys ≠ [] → l'.under H.length = false) ∧ app d l y H = some (l',H'):=by
 obtain ⟨G,rfl⟩:=a
 unfold app
 rw [s.sl]
 simp only [Option.bind_some,hd,s.cells]
 unfold zB6
 simp only [hd,hb]
 rcases g with ⟨rfl,rfl⟩ | ⟨hne,b,hb2,rfl,hH⟩
 ·by_cases h0 : ys = []
  ·subst h0
   exact ⟨.nilSl,P ++ G,⟨G,rfl⟩,.inl ⟨rfl,rfl⟩,Fr.refl _ _,fun h=>absurd rfl h,rfl⟩
  ·have hp:=List.length_pos_iff.2 h0
   refine ⟨.sl (P ++ G).length 0 1 ys.length ys.length false,(P ++ G) ++ [.rw (u8s ys)],⟨G ++ [.rw (u8s ys)],by simp⟩,.inr ⟨h0,(P ++ G).length,by simp,rfl,by simp⟩,Fr.adds ⟨_,rfl⟩ _,fun _=>by simp [AV.under],?_⟩
   rw [if_neg (by omega),if_pos ⟨by omega,by omega,by unfold roomy; omega⟩]
 ·have hp:=List.length_pos_iff.2 hne
  by_cases h0 : ys = []
  ·subst h0
   refine ⟨_,P ++ G,⟨G,rfl⟩,.inr ⟨by simpa using hne,b,hb2,by rw [List.append_nil],by rw [List.append_nil]; exact hH⟩,Fr.refl _ _,fun h=>absurd rfl h,?_⟩
   dsimp only
   rw [if_neg (by omega),if_pos (by simp)]
  ·have hq:=List.length_pos_iff.2 h0
   refine ⟨.sl (P ++ G).length 0 1 (zs.length + ys.length) (zs.length + ys.length) false,((P ++ G).set b .dead) ++ [.rw (u8s zs ++ u8s ys)],⟨G.set (b - P.length) .dead ++ [.rw (u8s zs ++ u8s ys)],by rw [List.set_append_right _ _ hb2,List.append_assoc]⟩,.inr ⟨by simp [hne],(P ++ G).length,by simp,by simp,by rw [List.getElem?_append_right (by simp)]; simp [u8s]⟩,?_,fun _=>by simp [AV.under],?_⟩
   ·exact (Fr.set _ _ (F:=fun x=>slb (.sl b 0 1 zs.length zs.length false) = some x) rfl).trans (Fr.adds ⟨_,rfl⟩ (F:=fun _=>False)) (fun _ _ h=>h.elim)
   ·dsimp only
    rw [if_neg (by omega),if_neg (by omega),if_neg (by omega),if_pos ⟨by omega,by unfold roomy; omega⟩]
    have hrd : zB0 (P ++ G) b 0 (zs.length * 1) = some (u8s zs):=by
     unfold zB0
     rw [zAl hH]
     simp only [Option.bind_some]
     rw [if_pos (by rw [zCu]; omega),List.drop_zero,List.take_of_length_le (by rw [zCu]; omega)]
    rw [hrd]
    simp only [Option.bind_some,Bool.false_eq_true,if_false,hH]
    rw [if_pos ⟨by rw [zCu]; omega,zOf ys⟩]
end Go.Proofs.Ythgflkfhjnbheaa.Eng
end
section
set_option linter.unusedVariables false
namespace Go.Proofs.Ythgflkfhjnbheaa.Eng
open Go
theorem GR.same {k : Nat} {H H' : zAc} {B : Nat} {l : AV} {rows : List (List AV)} (g : GR k H B l rows) (e : ∀ b,slb l = some b → H'[b]? = H[b]?) : GR k H' B l rows:=by
 rcases g with g | ⟨h0,b,hb,rfl,h⟩
 ·exact .inl g
 ·exact .inr ⟨h0,b,hb,rfl,(e b rfl).trans h⟩
theorem zB4 {a : AV} {n b : Nat} (h : a.under n = true) (hb : slb a = some b) : b < n:=by
 cases a with
 | sl b' o z l c e=>injection hb with hb; subst hb; simpa [AV.under] using h
 | _=>cases hb
theorem zRg (h : zAc) (v : AV) (K : zAc) : (zBu h v K ∧ trim h (some (v,K)) = some (v,K.take h.length)) ∨ trim h (some (v,K)) = some (v,K):=by
 unfold trim
 simp only [Option.map_some]
 split
 ·exact .inl ⟨by assumption,rfl⟩
 ·exact .inr rfl
structure RPl where
 p : Nat
 p0 : Nat
 d0 : Nat
 p1 : Nat
 d1 : Nat
def RPl.fp (q : RPl) (L0 L1 : List (AV × Sec)) (b : Nat) : Prop:=fpR q.p q.p0 q.d0 q.p1 q.d1 L0 L1 b
def RigAt (q : RPl) (H : zAc) (c : Nat) (r : RgS) (F : Nat → Prop) : Prop:=∃ L0 L1,RG H q.p q.p0 q.d0 q.p1 q.d1 c L0 L1 r ∧ (∀ b,q.fp L0 L1 b → F b) ∧ ∀ b,F b → b < H.length
structure QPl where
 p : Nat
 x : Pl
 y : Pl
def RefAt (q : QPl) (H : zAc) (c : Nat) (r : RgS) (F : Nat → Prop) : Prop:=∃ L0 L1,RQ H q.p q.x q.y c L0 L1 r ∧ (∀ b,fpW q.p q.x q.y L0 L1 b → F b) ∧ ∀ b,F b → b < H.length
end Go.Proofs.Ythgflkfhjnbheaa.Eng
end
section
set_option linter.unusedVariables false
namespace Go.Proofs.Ythgflkfhjnbheaa.Eng
open Go
theorem exF2 {t : T} {f : (Nat → AV) → T} {Q : (Nat → AV) → Prop} (h : t = f (getT t)) (q : Q (getT t)) : ∃ k,t = f k ∧ Q k:=⟨getT t,h,q⟩
structure ImS where
 i : Int
 b : List Int
deriving DecidableEq
def ImS.cells (x : ImS) : List AV:=.int .i64 x.i :: u8s x.b
deriving instance DecidableEq for PgS
def goodS (r : RgS) (f c at_ : Int) : Prop:=0 ≤ f ∧ 2 ≤ c ∧ c ≤ 256 ∧ f ≤ (r.a.length : Int) - c ∧ 0 ≤ at_ ∧ at_ < c
instance (r : RgS) (f c at_ : Int) : Decidable (goodS r f c at_):=by unfold goodS; exact inferInstance
def okIm (x : ImS) : Bool:=decide (0 ≤ x.i) && decide (x.i ≤ 65535)
end Go.Proofs.Ythgflkfhjnbheaa.Eng
end
section
set_option linter.unusedVariables false
namespace Go.Proofs.Ythgflkfhjnbheaa.Eng
open Go
def imRows (l : List ImS) : List (List AV):=l.map ImS.cells
theorem GR.low {k : Nat} {H : zAc} {B B' : Nat} {l : AV} {rows : List (List AV)} (g : GR k H B l rows) (h : B' ≤ B) : GR k H B' l rows:=by
 rcases g with g | ⟨h0,b,hb,h2⟩
 ·exact .inl g
 ·exact .inr ⟨h0,b,by omega,h2⟩
theorem GR.out {k : Nat} {H : zAc} {B : Nat} {l : AV} {rows : List (List AV)} (g : GR k H B l rows) : ∀ b,slb l = some b → B ≤ b ∧ b < H.length:=by
 rcases g with ⟨_,rfl⟩ | ⟨_,b,hb,rfl,h⟩
 ·intro b h; cases h
 ·intro b' h2; injection h2 with h2; subst h2; exact ⟨hb,zA8 h⟩
theorem GR.frS {k : Nat} {H H' : zAc} {F : Nat → Prop} {B : Nat} {l : AV} {rows : List (List AV)} (g : GR k H B l rows) (a : Fr H H' F) (n : ∀ b,slb l = some b → ¬ F b) : GR k H' B l rows :=
 g.same fun b hb=>a.2 b (g.out b hb).2 (n b hb)
theorem GR.read {k : Nat} (hk : 1 ≤ k) {H : zAc} {B : Nat} {l : AV} {rows : List (List AV)} (g : GR k H B l rows) (hr : ∀ r ∈ rows,r.length = k) {i : Nat} {r : List AV} (hi : rows[i]? = some r) :
  ∃ b cs,slb l = some b ∧ zBj k l (.int .i64 (i : Int)) = some (.ptr b (i * k)) ∧ cellsOf H b = some cs ∧ (cs.drop (i * k)).take k = r ∧ i * k + k ≤ cs.length:=by
 rcases g with ⟨rfl,_⟩ | ⟨_,b,_,rfl,h⟩
 ·simp at hi
 ·obtain ⟨q1,q2⟩:=rows_sub hr hi 0 k (by omega)
  rw [Nat.add_zero] at q1 q2
  refine ⟨b,_,rfl,zEh b k _ _ i false .i64 hk (List.getElem?_eq_some_iff.1 hi).1,zAl h,?_,q2⟩
  rw [q1,List.drop_zero,List.take_of_length_le (by rw [hr r (List.mem_of_getElem? hi)]; exact Nat.le_refl _)]
def oneR (vs : List AV) : List (List AV):=vs.map fun a=>[a]
structure LogH (H : zAc) (B : Nat) (v : AV) (T : List (List ImS)) (vs : List AV) : Prop where
 g : GR 1 H B v (oneR vs)
 len : vs.length = T.length
 el : ∀ (i : Nat) a t,vs[i]? = some a → T[i]? = some t → GR 49 H B a (imRows t)
 ap : ∀ a ∈ vs,∀ b,slb a = some b → slb v ≠ some b
 b48 : ∀ t ∈ T,∀ x ∈ t,x.b.length = 48
end Go.Proofs.Ythgflkfhjnbheaa.Eng
end
section
namespace Go.Proofs.Ythgflkfhjnbheaa.Eng
open Go
end Go.Proofs.Ythgflkfhjnbheaa.Eng
end
section
set_option linter.unusedVariables false
namespace Go.Proofs.Ythgflkfhjnbheaa.Eng
open Go
theorem zTm {k : Nat} (hk : 1 ≤ k) {d : TyD} (hd : d.size = k) (hb : 1 ≤ d.bytes) {K : zAc} {B s : Nat} {l : AV} {rows : List (List AV)} {r : List AV} (g : GR k K B l rows) (hr : ∀ x ∈ rows,x.length = k) (hs : cellsOf K s = some r) (hl : r.length = k)
  (hc : r.all AV.isCell = true) (hn : (rows.length + 1) * d.bytes ≤ roomy) (hB : B ≤ K.length) : ∃ v' K',Eng.app d l (.sl s 0 k 1 1 true) K = some (v',K') ∧ GR k K' B v' (rows ++ [r]) ∧ Fr K K' (fun b=>slb l = some b) ∧ slb v' = some K.length ∧ K'.length = K.length + 1 ∧ zA0 v' = some [v'] ∧ v'.isCell = true:=by
 have ea:=GR.app2 hk hd hb (y:=.sl s 0 k 1 1 true) g hr rfl (by
  unfold zA4 zB0
  simp [hs,hl,List.take_of_length_le (Nat.le_of_eq hl)]) hc hn
 have fr : Fr K (zKe l K ++ [ABlk.rw (rows ++ [r]).flatten]) (fun b=>slb l = some b):=(Fr.kill l K).trans (Fr.adds ⟨_,rfl⟩ (fun _=>False)) (fun _ _ h=>h.elim)
 refine ⟨_,_,ea,.inr ⟨by simp,K.length,hB,?_,?_⟩,fr,rfl,by rw [List.length_append,zGf]; rfl,rfl,rfl⟩
 ·simp
 ·rw [List.getElem?_append_right (by rw [zGf]; exact Nat.le_refl _),zGf,Nat.sub_self]; rfl
abbrev PrS:=Int × Int
def prC (p : PrS) : List AV:=[.int .i64 p.1,.int .i64 p.2]
theorem zOp {h : zAc} : ∀ {rows : List (List AV)},(∀ r ∈ rows,DatR h [.int .i64,.int .i64] r) → ∃ l : List PrS,rows = l.map prC ∧ ∀ p ∈ l,IntKind.i64.has p.1 ∧ IntKind.i64.has p.2
 | [],_=>⟨[],rfl,fun p hp=>by cases hp⟩
 | r :: rows,hr=>by
  obtain ⟨l,e,hl⟩:=zOp (rows:=rows) fun r hm=>hr r (by simp [hm])
  have hd:=hr r (by simp)
  cases hd with
  | cons d1 t=>cases t with
   | cons d2 t=>cases t with
    | nil=>cases d1 with
     | @int _ x n1=>cases d2 with
      | @int _ y n2 =>
       refine ⟨(x,y) :: l,by rw [e]; rfl,fun p hp=>?_⟩
       rcases List.mem_cons.1 hp with rfl | hp
       ·exact ⟨n1,n2⟩
       ·exact hl p hp
def PS (H : zAc) (v : AV) (l : List PrS) : Prop:=RS 2 H v (l.map prC)
end Go.Proofs.Ythgflkfhjnbheaa.Eng
end
section
set_option linter.unusedVariables false
namespace Go.Proofs.Ythgflkfhjnbheaa.Eng
open Go
section
variable {r q : RgS} (e : ∀ i,r.read 0 i = q.read 0 i)
include e
end
section
variable {R : RgS → RgS → Prop} (hw : ∀ r q i z,R r q → (r.write 0 i z).2 = (q.write 0 i z).2 ∧ R (r.write 0 i z).1 (q.write 0 i z).1) (hf : ∀ r q,R r q → (r.flush 0).2 = (q.flush 0).2 ∧ R (r.flush 0).1 (q.flush 0).1)
include hw hf
end
structure Up (r : RgS) : Prop where
 fuse : r.fuse = -1
 down : r.down = false
end Go.Proofs.Ythgflkfhjnbheaa.Eng
end
section
set_option linter.unusedVariables false
namespace Go.Proofs.Ythgflkfhjnbheaa.Eng
open Go
def cont (r : RgS) (i : Nat) : List Int:=((r.a[i]?).getD zsec).last
def Still (r : RgS) : Prop:=∀ s ∈ r.a,s.vers = []
structure Rn (r : RgS) (f c : Nat) : Prop where
 up : Up r
 c2 : 2 ≤ c
 c256 : c ≤ 256
 fit : f + c ≤ r.a.length
def vw (r : RgS) (f c p j : Nat) : List Int:=cont r (f + (p + j) % c)
section
variable {r : RgS} {f c : Nat} (h : Rn r f c)
include h
end
def encI (s : Int) (x : ImS) : List Int:=encS 73 s x.i x.b
def secT (s : Int) (l : List ImS) : List (List Int):=l.map (encI s) ++ [encS 67 s l.length zbody]
structure GoodT (c : Nat) (t : List ImS) : Prop where
 ne : 1 ≤ t.length
 ok : t.all okIm = true
 b : ∀ x ∈ t,B48 x.b
 fit : t.length + 1 ≤ c
section
variable {f c : Nat} (p off : Nat) {s : Int}
end
section
variable {r : RgS} {f c : Nat} (h : Rn r f c) (p off : Nat) {s : Int} (hs : 0 ≤ s ∧ s < 4294967296) {t : List ImS} (g : GoodT c t)
include h hs g
end
def tot (T : List (List ImS)) : Nat:=(T.map fun t=>t.length + 1).sum
def Trail (r : RgS) (f c p : Nat) : Nat → Int → List (List ImS) → Prop
 | _,_,[]=>True
 | off,s,t :: T=>(∀ k z,(secT s t)[k]? = some z → vw r f c p (off + k) = z) ∧ Trail r f c p (off + (t.length + 1)) (s + 1) T
end Go.Proofs.Ythgflkfhjnbheaa.Eng
end
section
set_option linter.unusedVariables false
namespace Go.Proofs.Ythgflkfhjnbheaa.Eng
open Go
section
variable {r : RgS} {f c p : Nat} {s : Int} {T : List (List ImS)} {t : List ImS}
end
end Go.Proofs.Ythgflkfhjnbheaa.Eng
end
section
set_option linter.unusedVariables false
namespace Go.Proofs.Ythgflkfhjnbheaa.Eng
open Go
structure Form (z hd : List Int) : Prop where
 l : hd.length = 55
 e : z = hd ++ (putS 8 (checkS hd) ++ [0])
end Go.Proofs.Ythgflkfhjnbheaa.Eng
end
section
set_option linter.unusedVariables false
namespace Go.Proofs.Ythgflkfhjnbheaa.Eng
open Go
def Sub (r : RgS) (A : Nat → List Int → Prop) : Prop:=∀ i s,r.a[i]? = some s → ∀ z,(z = s.there ∨ z ∈ s.vers) → A i z
theorem pass_a (r : RgS) : r.pass.1.a = r.a:=by unfold RgS.pass; split <;> rfl
section
variable {f c : Nat} (p off : Nat) {s : Int}
end
end Go.Proofs.Ythgflkfhjnbheaa.Eng
end
section
set_option linter.unusedVariables false
namespace Go.Proofs.Ythgflkfhjnbheaa.Eng
open Go
section
variable {r r2 : RgS} {f c p : Nat} {s : Int} {T : List (List ImS)} {t : List ImS}
end
end Go.Proofs.Ythgflkfhjnbheaa.Eng
end
section
namespace Go.Proofs.Ythgflkfhjnbheaa.Eng
open Go Go.ChangeShapes Go.WideShapes Go.ChangeAt Go.RowKit
variable {P : Program} {H : Type} {enc : TypeId × Value → H}
theorem zDi {w : World} {b : Nat} {sp : Nat → Bool} {held : Bool} {t u : TypeId} {fs : Array Field} {f : Field} {cs : List Value} {d : DataW H} {ps : List MemPlace} (ht : P.underlying t = some (.struct fs)) (i : Nat) (hf : fs[i]? = some f) (hu : f.type = u) (hc : P.cellsOf u = 1)
  (h : DataW.Trod enc P w b sp held t (.agg cs.toArray) d ps) (v : Value) (hv : cs[f.offset]? = some v) (ho : OkSl w v) : ∃ d' p',DataW.Trod enc P w b sp held u v d' p':=by
 obtain ⟨fuel,h⟩:=h
 obtain ⟨xs,m,rfl,hx,hl,hn,hg⟩:=DataW.trod_struct ht h
 have g:=hg i f hf
 subst hu
 rw [hc] at g
 have e1 : (((Value.agg cs.toArray).cells.toList.drop f.offset).take 1) = [v]:=by
  show ((cs.drop f.offset).take 1) = [v]
  obtain ⟨hlt,hq⟩:=List.getElem?_eq_some_iff.1 hv
  rw [List.drop_eq_getElem_cons hlt,hq]; rfl
 have lt : i < fs.size:=by
  rcases Nat.lt_or_ge i fs.size with q | q
  ·exact q
  ·rw [Array.getElem?_eq_none q] at hf; cases hf
 rw [e1,List.getElem?_eq_getElem (by omega)] at g
 exact ⟨_,_,m,by rw [ho.cells]; exact g⟩
end Go.Proofs.Ythgflkfhjnbheaa.Eng
end
section
set_option linter.unusedVariables false
namespace Go.Proofs.Ythgflkfhjnbheaa.Eng
open Go Go.ChangeShapes Go.WideShapes Go.ChangeAt Go.RowKit
abbrev Over:=Nat → List AV → zAc → Option (AV × zAc)
noncomputable def envX (P : Program) (X : Over) : Env :=
 ⟨fun f args h=>match X f args h with | some r=>some r | none=>(envL P).call f args h,(envL P).yield,(envL P).loop⟩
def Told1 (P : Program) (f : Nat) (args : List AV) (h : zAc) (v : AV) (h' : zAc) : Prop :=
 ((∃ fn,P.funcs[f]? = some fn ∧ fn.body.isSome = true) ∧ ∀ φ w (cargs : Array Value) n,St φ h w → VRels φ args cargs.toList → CallsIn Fence.wide n P f cargs w (Post φ h w v h')) ∨
  ((∀ b l,args ≠ .yld b :: l) ∧ ∀ φ w (cargs : Array Value),St φ h w → VRels φ args cargs.toList → ∃ cv w' φ',(callFunc f cargs).run P w = .ok (.value cv) w' ∧ VRel φ' v cv ∧ St φ' h' w' ∧ Ext φ h w φ' h' w')
def Over.Ok (P : Program) (X : Over) : Prop:=∀ f args h v h',X f args h = some (v,h') → Told1 P f args h v h'
theorem zJl {P : Program} (g : Good P) {X : Over} (ok : X.Ok P) : SoundE P (envX P X) where
 call f args h v h' hv:=by
  unfold envX at hv
  simp only at hv
  cases ho : X f args h with
  | none=>rw [ho] at hv; exact (zG4 g).call _ _ _ _ _ hv
  | some u =>
   rw [ho] at hv
   simp only [Option.some.injEq] at hv
   subst hv
   exact ok f args h v h' ho
 yield:=(zG4 g).yield
 loop:=(zG4 g).loop
def Over.none : Over:=fun _ _ _=>.none
theorem zSy (P : Program) : Over.none.Ok P:=fun _ _ _ _ _ h=>by cases h
def Over.with (X : Over) (g : Nat) (R : List AV → zAc → Option (AV × zAc)) : Over:=fun f args h=>if f = g then R args h else X f args h
theorem with_ok {P : Program} {X : Over} (ok : X.Ok P) {g : Nat} {R : List AV → zAc → Option (AV × zAc)} (hR : ∀ args h v h',R args h = some (v,h') → Told1 P g args h v h') : (X.with g R).Ok P:=by
 intro f args h v h' hv
 unfold Over.with at hv
 split at hv
 ·rename_i e; subst e; exact hR _ _ _ _ hv
 ·exact ok _ _ _ _ _ hv
noncomputable def Over.up (P : Program) (X : Over) (g : Nat) : Over:=X.with g fun args h=>zBs P (envX P X) g args h
def wakeR : List AV → zAc → Option (AV × zAc):=fun args h=>if args.isEmpty = true then some (.bool true,h) else .none
theorem wake_ok {P : Program} (g : Good P) {X : Over} (ok : X.Ok P) {f : Nat} {h1 : zAc} (hv : zBs P (envX P X) f [] [] = some (.bool true,h1)) : ∀ args h v h',wakeR args h = some (v,h') → Told1 P f args h v h':=by
 intro args h v h' e
 unfold wakeR at e
 split at e
 ·rename_i he
  cases args with
  | cons _ _=>cases he
  | nil =>
   injection e with e; injection e with e1 e2; subst e1; subst e2
   obtain ⟨q1,q2⟩:=zN0 g (zJl g ok) hv
   refine .inl ⟨q1,fun φ w cargs n s hr=>CallsIn.mono (q2 (fun _=>Option.none) w cargs n (St.none w) (hr.bare rfl)) fun e w' p=>?_⟩
   obtain ⟨cv,φ',he,hr,_,x⟩:=p
   have keep : ∀ r,r < w.heap.size → w'.heap[r]? = w.heap[r]?:=fun r hr=>x.cfr r hr (by rintro ⟨_,_,_,hb,_⟩; cases hb)
   refine ⟨cv,φ,he,VRel.bare rfl hr,⟨fun b e hb=>?_,s.inj⟩,⟨Nat.le_refl _,x.wlen,x.os,x.tape,x.output,fun _ _=>rfl,fun _ _ _=>rfl,fun _ _ ho=>ho,fun r hr _=>keep r hr,fun _ L hL=>⟨L,hL⟩⟩⟩
   obtain ⟨k,o,hk,ho,hrel⟩:=s.dom b e hb
   exact ⟨k,o,hk,by rw [keep _ (s.wlt hb)]; exact ho,hrel⟩
 ·cases e
theorem zIt {P : Program} (g : Good P) {X : Over} (ok : X.Ok P) {f : Nat} {args : List AV} {h0 h' : zAc} (hn : NoOwn h0) (hv : zBs P (envX P X) f args h0 = some (.bool true,h')) {w : World} {φ : Ren} (s : St φ h0 w) {cargs : Array Value} (ha : VRels φ args cargs.toList) :
  Calls P f cargs w fun e w'=>e = .returned (.bool true) ∧ Below w.heap.size w w':=by
 refine Calls.mono (callsIn_wide.1 ((zN0 g (zJl g ok) hv).2 φ w cargs 0 s ha)) fun e w' p=>?_
 obtain ⟨cv,φ',rfl,hr,_,x⟩:=p
 cases hr
 exact ⟨rfl,x.under hn⟩
end Go.Proofs.Ythgflkfhjnbheaa.Eng
end
section
set_option linter.unusedVariables false
namespace Go.Proofs.Ythgflkfhjnbheaa.Eng
open Go Go.ChangeShapes Go.WideShapes Go.ChangeAt Go.RowKit
end Go.Proofs.Ythgflkfhjnbheaa.Eng
end
section
set_option linter.unusedVariables false
namespace Go.Proofs.Ythgflkfhjnbheaa.Eng
open Go Go.ChangeShapes Go.WideShapes Go.ChangeAt Go.RowKit
section
variable {φ φ' : Ren} {h K : zAc} {w w' : World}
end
end Go.Proofs.Ythgflkfhjnbheaa.Eng
end
section
set_option linter.unusedVariables false
namespace Go.Proofs.Ythgflkfhjnbheaa.Eng
open Go
theorem zRs {sz b off len cp i : Nat} {ex : Bool} (h1 : i ≤ len) (h2 : len ≤ cp) : zB3 sz (.sl b off sz len cp ex) (some (.int .i64 (i : Int))) none none = some (.sl b (off + i * sz) sz (len - i) (cp - i) ex):=by
 unfold zB3 asI
 simp only [ne_eq,not_true,if_false,Option.bind_some,Int.toNat_natCast]
 rw [if_pos ⟨by omega,by omega,by omega⟩]
theorem sl_to {sz b off len cp u : Nat} {ex : Bool} (h2 : u ≤ cp) : zB3 sz (.sl b off sz len cp ex) none (some (.int .i64 (u : Int))) none = some (.sl b off sz u cp ex):=by
 unfold zB3 asI
 simp only [ne_eq,not_true,if_false,Option.bind_some,Int.toNat_natCast]
 rw [if_pos ⟨by omega,by omega,by omega⟩]
 simp
theorem zT1 {d : TyD} {h : zAc} {b off sz len c b2 off2 m c2 : Nat} {ex ex2 : Bool} {cs src : List AV} (hd : d.size = sz) (hs : sz ≠ 0) (hk : h[b]? = some (.rw cs)) (hm : min m len ≠ 0) (hr : zB0 h b2 off2 (min m len * sz) = some src) (hl : off + src.length ≤ cs.length) (hc : src.all AV.isCell = true) :
  zKt d (.sl b off sz len c ex) (.sl b2 off2 sz m c2 ex2) h = some (.int .i64 ((min m len : Nat) : Int),h.set b (.rw (zCg cs off src))):=by
 unfold zKt zDg
 simp only [Option.bind_some,hd]
 rw [if_neg (by simp [hs])]
 have : zA4 sz (min m len) (.sl b2 off2 sz m c2 ex2) h = some src:=by unfold zA4; simp only [if_true]; exact hr
 rw [this]
 simp only [Option.bind_some]
 rw [if_neg hm,zA2 hk,if_pos ⟨hl,hc⟩]; rfl
theorem zNc {h : zAc} {b : Nat} {cs : List AV} (hk : h[b]? = some (.rw cs)) {off n : Nat} (hl : off + n ≤ cs.length) : zB0 h b off n = some ((cs.drop off).take n):=by
 unfold zB0
 rw [zAl hk,Option.bind_some,if_pos hl]
theorem zNe (l : List PrS) : ∀ r ∈ l.map prC,r.length = 2:=fun r hr=>by obtain ⟨p,_,rfl⟩:=List.mem_map.1 hr; rfl
theorem prC_flat (l : List PrS) : (l.map prC).flatten.length = l.length * 2:=by rw [zDj (zNe l),List.length_map]
theorem prC_cell (l : List PrS) : (l.map prC).flatten.all AV.isCell = true:=by
 rw [List.all_eq_true]
 intro x hx
 obtain ⟨r,hr,hx⟩:=List.mem_flatten.1 hx
 obtain ⟨p,_,rfl⟩:=List.mem_map.1 hr
 unfold prC at hx
 simp only [List.mem_cons,List.not_mem_nil,or_false] at hx
 rcases hx with rfl | rfl <;> rfl
end Go.Proofs.Ythgflkfhjnbheaa.Eng
end
section
set_option linter.unusedVariables false
namespace Go.Proofs.Ythgflkfhjnbheaa.Eng
open Go
def idxF (b : Int) : Nat → List PrS → Int
 | _,[]=>-1
 | n,p :: l=>if p.1 = b then (n : Int) else idxF b (n + 1) l
def idxS (l : List PrS) (b : Int) : Int:=idxF b 0 l
def tins (b a : Int) : List PrS → List PrS
 | []=>[(b,a)]
 | q :: l=>if q.1 > b then (b,a) :: q :: l else q :: tins b a l
def tput (l : List PrS) (b a : Int) : List PrS:=if 0 ≤ idxS l b then l.set (idxS l b).toNat (b,a) else tins b a l
def zRk (a : List PrS) : List PrS → List PrS → List Int → List PrS × List Int
 | [],k,f=>(k,f)
 | p :: b,k,f=>if 0 ≤ idxS a p.1 then zRk a b k (f ++ [p.2]) else zRk a b (tput k p.1 p.2) f
def okAt (blocks area : Int) (pre : List PrS) (p : PrS) : Bool :=
 decide (0 ≤ p.1) && (decide (p.1 < blocks) && (decide (0 ≤ p.2) && (decide (p.2 < area) && (!(pre.map (·.2)).contains p.2 && (match pre.getLast? with | none=>true | some q=>decide (q.1 < p.1))))))
def zEr (blocks area : Int) : List PrS → List PrS → Bool
 | _,[]=>true
 | pre,p :: l=>okAt blocks area pre p && zEr blocks area (pre ++ [p]) l
def zEc (l : List PrS) (blocks area : Int) : Bool:=zEr blocks area [] l
theorem zOz (b : Int) : ∀ (l : List PrS) (n : Nat),idxF b n l = -1 ∨ ((n : Int) ≤ idxF b n l ∧ idxF b n l < (n : Int) + l.length)
 | [],n=>.inl rfl
 | p :: l,n=>by
  unfold idxF
  split
  ·right; simp; omega
  ·rcases zOz b l (n + 1) with h | h
   ·exact .inl h
   ·right; simp only [List.length_cons]; push_cast at *; omega
theorem zOy (l : List PrS) (b : Int) : idxS l b = -1 ∨ (0 ≤ idxS l b ∧ idxS l b < l.length):=by
 have:=zOz b l 0
 unfold idxS
 simpa using this
def flat (l : List PrS) : List AV:=(l.map prC).flatten
theorem zE4 (l : List PrS) : (flat l).length = l.length * 2:=prC_flat l
theorem zTp (l : List PrS) : (flat l).all AV.isCell = true:=prC_cell l
theorem flat_get {l : List PrS} {i : Nat} {p : PrS} (h : l[i]? = some p) : (flat l)[i * 2]? = some (.int .i64 p.1) ∧ (flat l)[i * 2 + 1]? = some (.int .i64 p.2) ∧ ((flat l).drop (i * 2)).take 2 = prC p ∧ i * 2 + 2 ≤ (flat l).length:=by
 have hi:=zKk prC h
 have:=zEf (zNe l) hi
 refine ⟨by have:=this 0 (by omega); exact this,by have:=this 1 (by omega); exact this,?_,?_⟩
 ·exact zH9 (zNe l) hi
 ·have:=(List.getElem?_eq_some_iff.1 h).1
  rw [zE4]; omega
def IsP (H : zAc) (v : AV) (l : List PrS) : Prop:=(v = .nilSl ∧ l = []) ∨ ∃ b c ex,v = .sl b 0 2 l.length c ex ∧ l.length ≤ c ∧ cellsOf H b = some (flat l)
def Gp (H : zAc) (B : Nat) (v : AV) (l : List PrS) : Prop :=
 (v = .nilSl ∧ l = []) ∨ (l = [] ∧ ∃ b,B ≤ b ∧ v = .sl b 0 2 0 0 true ∧ H[b]? = some (.rw [])) ∨ (l ≠ [] ∧ ∃ b,B ≤ b ∧ v = .sl b 0 2 l.length l.length false ∧ H[b]? = some (.rw (flat l)))
theorem Gp.isP {H : zAc} {B : Nat} {v : AV} {l : List PrS} (g : Gp H B v l) : IsP H v l:=by
 rcases g with h | ⟨rfl,b,_,rfl,h⟩ | ⟨_,b,_,rfl,h⟩
 ·exact .inl h
 ·exact .inr ⟨b,0,true,rfl,Nat.le_refl _,zAl h⟩
 ·exact .inr ⟨b,_,false,rfl,Nat.le_refl _,zAl h⟩
theorem Gp.fr {H H' : zAc} {F : Nat → Prop} {B : Nat} {v : AV} {l : List PrS} (g : Gp H B v l) (a : Fr H H' F) (n : ∀ b,slb v = some b → ¬ F b) : Gp H' B v l:=by
 rcases g with h | ⟨h0,b,hb,rfl,h⟩ | ⟨h0,b,hb,rfl,h⟩
 ·exact .inl h
 ·exact .inr (.inl ⟨h0,b,hb,rfl,a.at h (n b rfl)⟩)
 ·exact .inr (.inr ⟨h0,b,hb,rfl,a.at h (n b rfl)⟩)
theorem Gp.adds {H : zAc} {B : Nat} {v : AV} {l : List PrS} (g : Gp H B v l) (X : zAc) : Gp (H ++ X) B v l:=g.fr (Fr.adds ⟨X,rfl⟩ (fun _=>False)) fun _ _ h=>h
theorem Gp.low {H : zAc} {B B' : Nat} {v : AV} {l : List PrS} (g : Gp H B v l) (h : B' ≤ B) : Gp H B' v l:=by
 rcases g with g | ⟨h0,b,hb,g⟩ | ⟨h0,b,hb,g⟩
 ·exact .inl g
 ·exact .inr (.inl ⟨h0,b,by omega,g⟩)
 ·exact .inr (.inr ⟨h0,b,by omega,g⟩)
theorem Gp.out {H : zAc} {B : Nat} {v : AV} {l : List PrS} (g : Gp H B v l) : ∀ b,slb v = some b → B ≤ b ∧ b < H.length:=by
 rcases g with ⟨rfl,_⟩ | ⟨_,b,hb,rfl,h⟩ | ⟨_,b,hb,rfl,h⟩
 ·intro b h; cases h
 ·intro b' h2; injection h2 with h2; subst h2; exact ⟨hb,zA8 h⟩
 ·intro b' h2; injection h2 with h2; subst h2; exact ⟨hb,zA8 h⟩
theorem IsP.fr {H H' : zAc} {F : Nat → Prop} {v : AV} {l : List PrS} (g : IsP H v l) (a : Fr H H' F) (n : ∀ b,slb v = some b → ¬ F b) : IsP H' v l:=by
 rcases g with h | ⟨b,c,ex,rfl,h,hc⟩
 ·exact .inl h
 ·exact .inr ⟨b,c,ex,rfl,h,a.cells hc (n b rfl)⟩
theorem IsP.adds {H H' : zAc} {v : AV} {l : List PrS} (g : IsP H v l) (a : Adds H H') : IsP H' v l:=g.fr (Fr.adds a (fun _=>False)) fun _ _ h=>h
theorem IsP.len {H : zAc} {v : AV} {l : List PrS} (g : IsP H v l) : zD3 v = some (.int .i64 l.length):=by
 rcases g with ⟨rfl,rfl⟩ | ⟨b,c,ex,rfl,_,_⟩ <;> rfl
theorem IsP.cell {H : zAc} {v : AV} {l : List PrS} (g : IsP H v l) : zA0 v = some [v] ∧ v.isCell = true:=by
 rcases g with ⟨rfl,rfl⟩ | ⟨b,c,ex,rfl,_,_⟩ <;> exact ⟨rfl,rfl⟩
theorem IsP.lt {H : zAc} {v : AV} {l : List PrS} (g : IsP H v l) : ∀ b,slb v = some b → b < H.length:=by
 rcases g with ⟨rfl,rfl⟩ | ⟨b,c,ex,rfl,_,hc⟩
 ·intro b h; cases h
 ·intro b' h; injection h with h; subst h; exact zCc hc
theorem IsP.idx {H : zAc} {v : AV} {l : List PrS} (g : IsP H v l) {i : Nat} {p : PrS} (h : l[i]? = some p) :
  ∃ b cs,slb v = some b ∧ zBj 2 v (.int .i64 (i : Int)) = some (.ptr b (i * 2)) ∧ cellsOf H b = some cs ∧ cs[i * 2]? = some (.int .i64 p.1) ∧ cs[i * 2 + 1]? = some (.int .i64 p.2) ∧ (cs.drop (i * 2)).take 2 = prC p ∧ i * 2 + 2 ≤ cs.length:=by
 have lt:=(List.getElem?_eq_some_iff.1 h).1
 rcases g with ⟨_,rfl⟩ | ⟨b,c,ex,rfl,_,hc⟩
 ·simp at lt
 ·obtain ⟨q1,q2,q3,q4⟩:=flat_get h
  exact ⟨b,_,rfl,zEh b 2 _ c i ex .i64 (by omega) lt,hc,q1,q2,q3,q4⟩
theorem IsP.src {H : zAc} {v : AV} {l : List PrS} (g : IsP H v l) : zDg v = some l.length ∧ zA4 2 l.length v H = some (flat l):=by
 rcases g with ⟨rfl,rfl⟩ | ⟨b,c,ex,rfl,_,hc⟩
 ·exact ⟨rfl,rfl⟩
 ·refine ⟨rfl,?_⟩
  unfold zA4 zB0
  simp only [if_true,hc,Option.bind_some]
  rw [if_pos (by rw [zE4]; omega),List.drop_zero,List.take_of_length_le (by rw [zE4]; exact Nat.le_refl _)]
theorem zLx {h : zAc} {v : AV} (d : DatC h (.sl [.int .i64,.int .i64]) v) : ∃ l,IsP h v l ∧ l.length ≤ 9223372036854775807 ∧ ∀ p ∈ l,IntKind.i64.has p.1 ∧ IntKind.i64.has p.2:=by
 cases d with
 | nil=>exact ⟨[],.inl ⟨rfl,rfl⟩,by simp,fun p hp=>by cases hp⟩
 | @sl _ b rows hn hb hr =>
  obtain ⟨l,rfl,hl⟩:=zOp hr
  refine ⟨l,.inr ⟨b,l.length,false,by simp,Nat.le_refl _,hb⟩,by simpa using hn,hl⟩
theorem flat_app (l m : List PrS) : flat (l ++ m) = flat l ++ flat m:=by unfold flat; simp
theorem zL9 {K : zAc} {B : Nat} {v y : AV} {l m : List PrS} (g : Gp K B v l) (hB : B ≤ K.length) (hs : zDg y = some m.length) (hc : zA4 2 m.length y K = some (flat m)) (room : (l.length + m.length) * 16 ≤ roomy) :
  ∃ v' K',app (ty 2 true 16 [.int .i64 0,.int .i64 0]) v y K = some (v',K') ∧ Gp K' B v' (l ++ m) ∧ Fr K K' (fun b=>slb v = some b) ∧ (m ≠ [] → slb v' = some K.length) ∧ (m = [] → v' = v ∧ K' = K):=by
 unfold app
 rw [hs]
 simp only [Option.bind_some,show (ty 2 true 16 [.int .i64 0,.int .i64 0]).size = 2 from rfl,hc]
 unfold zB6
 simp only [show (ty 2 true 16 [.int .i64 0,.int .i64 0]).size = 2 from rfl,show (ty 2 true 16 [.int .i64 0,.int .i64 0]).bytes = 16 from rfl]
 by_cases hm : m = []
 ·subst hm
  rcases g with ⟨rfl,rfl⟩ | ⟨rfl,b,hb,rfl,h⟩ | ⟨h0,b,hb,rfl,h⟩
  ·refine ⟨.nilSl,K,by simp,.inl ⟨rfl,rfl⟩,Fr.refl _ _,fun h=>absurd rfl h,fun _=>⟨rfl,rfl⟩⟩
  ·refine ⟨_,K,by simp,.inr (.inl ⟨rfl,b,hb,rfl,h⟩),Fr.refl _ _,fun h=>absurd rfl h,fun _=>⟨rfl,rfl⟩⟩
  ·refine ⟨_,K,by simp,.inr (.inr ⟨by simpa using h0,b,hb,by simp,by simpa using h⟩),Fr.refl _ _,fun h=>absurd rfl h,fun _=>⟨rfl,rfl⟩⟩
 ·have hp:=List.length_pos_iff.2 hm
  rcases g with ⟨rfl,rfl⟩ | ⟨rfl,b,hb,rfl,h⟩ | ⟨h0,b,hb,rfl,h⟩
  ·refine ⟨.sl K.length 0 2 m.length m.length false,K ++ [.rw (flat m)],?_,.inr (.inr ⟨by simpa using hm,K.length,hB,by simp,by simp⟩),Fr.adds ⟨_,rfl⟩ _,fun _=>rfl,fun e=>absurd e hm⟩
   rw [if_neg (by omega),if_pos ⟨by omega,by omega,by simpa using room⟩]
  ·refine ⟨.sl K.length 0 2 m.length m.length false,K ++ [.rw (flat m)],?_,.inr (.inr ⟨by simpa using hm,K.length,hB,by simp,by simp⟩),Fr.adds ⟨_,rfl⟩ _,fun _=>rfl,fun e=>absurd e hm⟩
   have hr : zB0 K b 0 (0 * 2) = some []:=by unfold zB0; rw [zAl h]; simp
   dsimp only
   rw [if_neg (by simp),if_neg (by omega),if_neg (by omega),if_pos ⟨by omega,by simpa using room⟩,hr]
   simp
  ·have hq:=List.length_pos_iff.2 h0
   refine ⟨.sl K.length 0 2 (l.length + m.length) (l.length + m.length) false,K.set b .dead ++ [.rw (flat l ++ flat m)],?_,.inr (.inr ⟨by simp [h0],K.length,hB,by simp,by rw [flat_app,List.getElem?_append_right (by simp)]; simp⟩),?_,fun _=>rfl,fun e=>absurd e hm⟩
   ·have hr : zB0 K b 0 (l.length * 2) = some (flat l):=by
     unfold zB0
     rw [zAl h,Option.bind_some,if_pos (by rw [zE4]; omega),List.drop_zero,List.take_of_length_le (by rw [zE4]; exact Nat.le_refl _)]
    dsimp only
    rw [if_neg (by simp),if_neg (by omega),if_neg (by omega),if_pos ⟨by omega,room⟩,hr]
    simp only [Option.bind_some,Bool.false_eq_true,if_false,h]
    rw [if_pos ⟨by rw [zE4]; omega,zTp m⟩]
   ·exact (Fr.set _ _ (F:=fun x=>slb (.sl b 0 2 l.length l.length false) = some x) rfl).trans (Fr.adds ⟨_,rfl⟩ (F:=fun _=>False)) (fun _ _ h=>h.elim)
end Go.Proofs.Ythgflkfhjnbheaa.Eng
end
section
set_option linter.unusedVariables false
namespace Go.Proofs.Ythgflkfhjnbheaa.Eng
open Go
def asc (l : List PrS) : Prop:=(l.map (·.1)).Pairwise (· < ·)
structure GoodL (bl ar : Int) (l : List PrS) : Prop where
 rng : ∀ p ∈ l,(0 ≤ p.1 ∧ p.1 < bl) ∧ (0 ≤ p.2 ∧ p.2 < ar)
 up : asc l
 inj : ∀ p ∈ l,∀ q ∈ l,p.2 = q.2 → p = q
theorem zIx : asc []:=by unfold asc; exact List.Pairwise.nil
theorem zHy {p : PrS} {l : List PrS} : asc (p :: l) ↔ (∀ q ∈ l,p.1 < q.1) ∧ asc l:=by
 unfold asc
 rw [List.map_cons,List.pairwise_cons]
 constructor
 ·rintro ⟨h1,h2⟩; exact ⟨fun q hq=>h1 _ (List.mem_map.2 ⟨q,hq,rfl⟩),h2⟩
 ·rintro ⟨h1,h2⟩; exact ⟨fun x hx=>by obtain ⟨q,hq,rfl⟩:=List.mem_map.1 hx; exact h1 q hq,h2⟩
theorem zG6 {l m : List PrS} : asc (l ++ m) ↔ asc l ∧ asc m ∧ ∀ p ∈ l,∀ q ∈ m,p.1 < q.1:=by
 unfold asc
 rw [List.map_append,List.pairwise_append]
 constructor
 ·rintro ⟨h1,h2,h3⟩; exact ⟨h1,h2,fun p hp q hq=>h3 _ (List.mem_map.2 ⟨p,hp,rfl⟩) _ (List.mem_map.2 ⟨q,hq,rfl⟩)⟩
 ·rintro ⟨h1,h2,h3⟩; exact ⟨h1,h2,fun x hx y hy=>by obtain ⟨p,hp,rfl⟩:=List.mem_map.1 hx; obtain ⟨q,hq,rfl⟩:=List.mem_map.1 hy; exact h3 p hp q hq⟩
theorem okAt_iff {bl ar : Int} {pre : List PrS} {p : PrS} : okAt bl ar pre p = true ↔ ((0 ≤ p.1 ∧ p.1 < bl) ∧ (0 ≤ p.2 ∧ p.2 < ar)) ∧ (∀ q ∈ pre,q.2 ≠ p.2) ∧ (∀ q,pre.getLast? = some q → q.1 < p.1):=by
 unfold okAt
 have hc : (pre.map (·.2)).contains p.2 = false ↔ ∀ q ∈ pre,q.2 ≠ p.2:=by
  rw [← Bool.not_eq_true,List.contains_iff_mem,List.mem_map]
  constructor
  ·intro h q hq e; exact h ⟨q,hq,e⟩
  ·rintro h ⟨q,hq,e⟩; exact h q hq e
 have hl : (match pre.getLast? with | none=>true | some q=>decide (q.1 < p.1)) = true ↔ ∀ q,pre.getLast? = some q → q.1 < p.1:=by
  cases pre.getLast? with
  | none=>simp
  | some q=>simp
 rw [Bool.and_eq_true,Bool.and_eq_true,Bool.and_eq_true,Bool.and_eq_true,Bool.and_eq_true,Bool.not_eq_true',hc,decide_eq_true_eq,decide_eq_true_eq,decide_eq_true_eq,decide_eq_true_eq]
 constructor
 ·rintro ⟨a,b,c,d,e,f⟩; exact ⟨⟨⟨a,b⟩,c,d⟩,e,hl.1 f⟩
 ·rintro ⟨⟨⟨a,b⟩,c,d⟩,e,f⟩; exact ⟨a,b,c,d,e,hl.2 f⟩
theorem zQf {bl ar : Int} {pre : List PrS} {p : PrS} (g : GoodL bl ar pre) : okAt bl ar pre p = true ↔ GoodL bl ar (pre ++ [p]):=by
 rw [okAt_iff]
 constructor
 ·rintro ⟨h1,h2,h3⟩
  have lt : ∀ q ∈ pre,q.1 < p.1:=fun q hq=>by
   rcases List.eq_nil_or_concat pre with e | ⟨z,y,e⟩
   ·rw [e] at hq; cases hq
   rw [List.concat_eq_append] at e
   ·have hy:=h3 y (by rw [e]; exact List.getLast?_concat)
    rw [e] at hq
    rcases List.mem_append.1 hq with hq | hq
    ·have u:=g.up
     rw [e] at u
     have:=(zG6.1 u).2.2 q hq y (by simp)
     omega
    ·rw [List.mem_singleton.1 hq]; exact hy
  refine ⟨fun q hq=>(List.mem_append.1 hq).elim (g.rng q) fun e=>(by rw [List.mem_singleton.1 e]; exact h1),zG6.2 ⟨g.up,zHy.2 ⟨fun q hq=>(by cases hq),zIx⟩,fun x hx y hy=>(by rw [List.mem_singleton.1 hy]; exact lt x hx)⟩,fun x hx y hy e=>?_⟩
  rcases List.mem_append.1 hx with hx | hx <;> rcases List.mem_append.1 hy with hy | hy
  ·exact g.inj x hx y hy e
  ·rw [List.mem_singleton.1 hy] at e; exact absurd e (h2 x hx)
  ·rw [List.mem_singleton.1 hx] at e; exact absurd e.symm (h2 y hy)
  ·rw [List.mem_singleton.1 hx,List.mem_singleton.1 hy]
 ·intro h
  obtain ⟨u1,u2,u3⟩:=zG6.1 h.up
  refine ⟨h.rng p (by simp),fun q hq e=>?_,fun q hq=>u3 q (List.mem_of_getLast? hq) p (by simp)⟩
  have:=h.inj q (by simp [hq]) p (by simp) e
  have lt:=u3 q hq p (by simp)
  rw [this] at lt; omega
theorem zIi {bl ar : Int} : ∀ (l pre : List PrS),GoodL bl ar pre → (zEr bl ar pre l = true ↔ GoodL bl ar (pre ++ l))
 | [],pre,g=>by simp [zEr,g]
 | p :: l,pre,g=>by
  rw [zEr,Bool.and_eq_true,zQf g]
  constructor
  ·rintro ⟨h1,h2⟩
   have:=(zIi l (pre ++ [p]) h1).1 h2
   rwa [List.append_assoc] at this
  ·intro h
   have h1 : GoodL bl ar (pre ++ [p]):=by
    refine ⟨fun q hq=>h.rng q ?_,?_,fun x hx y hy=>h.inj x ?_ y ?_⟩
    ·rcases List.mem_append.1 hq with q1 | q1
     ·simp [q1]
     ·simp [List.mem_singleton.1 q1]
    ·have u:=h.up
     rw [show pre ++ p :: l = (pre ++ [p]) ++ l by simp] at u
     exact (zG6.1 u).1
    ·rcases List.mem_append.1 hx with q1 | q1
     ·simp [q1]
     ·simp [List.mem_singleton.1 q1]
    ·rcases List.mem_append.1 hy with q1 | q1
     ·simp [q1]
     ·simp [List.mem_singleton.1 q1]
   refine ⟨h1,(zIi l (pre ++ [p]) h1).2 ?_⟩
   rwa [List.append_assoc]
theorem good_nil (bl ar : Int) : GoodL bl ar []:=⟨fun p h=>(by cases h),zIx,fun p h=>(by cases h)⟩
theorem zGg {bl ar : Int} {l : List PrS} : zEc l bl ar = true ↔ GoodL bl ar l:=zIi l [] (good_nil bl ar)
theorem zKg {b : Int} : ∀ {l : List PrS} {n : Nat},(idxF b n l = -1 ↔ ∀ p ∈ l,p.1 ≠ b)
 | [],n=>by simp [idxF]
 | p :: l,n=>by
  unfold idxF
  by_cases h : p.1 = b
  ·rw [if_pos h]
   constructor
   ·intro e; omega
   ·intro e; exact absurd h (e p (by simp))
  ·rw [if_neg h,zKg (l:=l) (n:=n + 1)]
   constructor
   ·intro e q hq
    rcases List.mem_cons.1 hq with rfl | hq
    ·exact h
    ·exact e q hq
   ·intro e q hq; exact e q (by simp [hq])
theorem zTh {l : List PrS} {b : Int} : (0 ≤ idxS l b) ↔ ∃ p ∈ l,p.1 = b:=by
 rcases zOy l b with h | h
 ·have:=(zKg (l:=l) (n:=0)).1 h
  constructor
  ·intro e; omega
  ·rintro ⟨p,hp,e⟩; exact absurd e (this p hp)
 ·constructor
  ·intro _
   have h2 : ¬ ∀ p ∈ l,p.1 ≠ b:=fun q=>by have:=(zKg (n:=0)).2 q; unfold idxS at h; omega
   exact Classical.byContradiction fun q=>h2 fun p hp e=>q ⟨p,hp,e⟩
  ·intro _; exact h.1
end Go.Proofs.Ythgflkfhjnbheaa.Eng
end
section
set_option linter.unusedVariables false
namespace Go.Proofs.Ythgflkfhjnbheaa.Eng
open Go
structure SnS where
 id : Int
 ch : List Int
 tb : List PrS
deriving DecidableEq
theorem BS.lt {H : zAc} {v : AV} {zs : List Int} (g : BS H v zs) : ∀ b,slb v = some b → b < H.length:=by
 rcases g with ⟨rfl,rfl⟩ | ⟨b,o,l,e,cs,rfl,hc,_⟩
 ·intro b h; cases h
 ·intro b' h; injection h with h; subst h; exact zCc hc
theorem BS.cell {H : zAc} {v : AV} {zs : List Int} (g : BS H v zs) : zA0 v = some [v] ∧ v.isCell = true:=by
 rcases g with ⟨rfl,rfl⟩ | ⟨b,o,l,e,cs,rfl,hc,_⟩ <;> exact ⟨rfl,rfl⟩
def SnR (H : zAc) (r : List AV) (s : SnS) : Prop:=∃ vc vt,r = [.int .i64 s.id,vc,vt] ∧ BS H vc s.ch ∧ IsP H vt s.tb
theorem SnR.len {H : zAc} {r : List AV} {s : SnS} (g : SnR H r s) : r.length = 3:=by obtain ⟨vc,vt,rfl,_⟩:=g; rfl
theorem SnR.cell {H : zAc} {r : List AV} {s : SnS} (g : SnR H r s) : r.all AV.isCell = true:=by
 obtain ⟨vc,vt,rfl,h1,h2⟩:=g
 simp only [List.all_cons,List.all_nil,h1.cell.2,h2.cell.2,Bool.and_true]
 rfl
theorem SnR.lt {H : zAc} {r : List AV} {s : SnS} (g : SnR H r s) : ∀ x ∈ r,∀ b,slb x = some b → b < H.length:=by
 obtain ⟨vc,vt,rfl,h1,h2⟩:=g
 intro x hx b hb
 simp only [List.mem_cons,List.mem_nil_iff,or_false] at hx
 rcases hx with rfl | rfl | rfl
 ·cases hb
 ·exact h1.lt b hb
 ·exact h2.lt b hb
theorem SnR.fr {H H' : zAc} {F : Nat → Prop} {r : List AV} {s : SnS} (g : SnR H r s) (a : Fr H H' F) (n : ∀ x ∈ r,∀ b,slb x = some b → ¬ F b) : SnR H' r s:=by
 obtain ⟨vc,vt,rfl,h1,h2⟩:=g
 exact ⟨vc,vt,rfl,h1.fr a (n vc (by simp)),h2.fr a (n vt (by simp))⟩
structure ChR (H : zAc) (rows : List (List AV)) (L : List SnS) : Prop where
 len : rows.length = L.length
 el : ∀ (i : Nat) r s,rows[i]? = some r → L[i]? = some s → SnR H r s
theorem ChR.get {H : zAc} {rows : List (List AV)} {L : List SnS} (g : ChR H rows L) {i : Nat} {s : SnS} (h : L[i]? = some s) : ∃ r,rows[i]? = some r ∧ SnR H r s:=by
 have lt:=(List.getElem?_eq_some_iff.1 h).1
 rw [← g.len] at lt
 exact ⟨_,List.getElem?_eq_getElem lt,g.el i _ s (List.getElem?_eq_getElem lt) h⟩
theorem ChR.row {H : zAc} {rows : List (List AV)} {L : List SnS} (g : ChR H rows L) {r : List AV} (h : r ∈ rows) : ∃ s ∈ L,SnR H r s:=by
 obtain ⟨i,hi⟩:=List.getElem?_of_mem h
 have lt:=(List.getElem?_eq_some_iff.1 hi).1
 rw [g.len] at lt
 exact ⟨_,List.getElem_mem lt,g.el i _ _ hi (List.getElem?_eq_getElem lt)⟩
theorem ChR.len3 {H : zAc} {rows : List (List AV)} {L : List SnS} (g : ChR H rows L) : ∀ r ∈ rows,r.length = 3:=fun r h=>by obtain ⟨s,_,q⟩:=g.row h; exact q.len
theorem ChR.fr {H H' : zAc} {F : Nat → Prop} {rows : List (List AV)} {L : List SnS} (g : ChR H rows L) (a : Fr H H' F) (n : ∀ r ∈ rows,∀ x ∈ r,∀ b,slb x = some b → ¬ F b) : ChR H' rows L :=
 ⟨g.len,fun i r s h1 h2=>(g.el i r s h1 h2).fr a (n r (List.mem_of_getElem? h1))⟩
theorem ChR.adds {H H' : zAc} {rows : List (List AV)} {L : List SnS} (g : ChR H rows L) (a : Adds H H') : ChR H' rows L:=g.fr (Fr.adds a (fun _=>False)) fun _ _ _ _ _ _ h=>h
def IsC (H : zAc) (v : AV) (L : List SnS) : Prop:=(v = .nilSl ∧ L = []) ∨ ∃ b n e rows X,v = .sl b 0 3 L.length n e ∧ L.length ≤ n ∧ cellsOf H b = some (rows.flatten ++ X) ∧ ChR H rows L
theorem IsC.len {H : zAc} {v : AV} {L : List SnS} (g : IsC H v L) : zD3 v = some (.int .i64 L.length):=by
 rcases g with ⟨rfl,rfl⟩ | ⟨b,n,e,rows,X,rfl,_⟩ <;> rfl
theorem IsC.cell {H : zAc} {v : AV} {L : List SnS} (g : IsC H v L) : zA0 v = some [v] ∧ v.isCell = true:=by
 rcases g with ⟨rfl,rfl⟩ | ⟨b,n,e,rows,X,rfl,_⟩ <;> exact ⟨rfl,rfl⟩
theorem IsC.adds {H H' : zAc} {v : AV} {L : List SnS} (g : IsC H v L) (a : Adds H H') : IsC H' v L:=by
 rcases g with h | ⟨b,n,e,rows,X,rfl,hn,hc,hr⟩
 ·exact .inl h
 ·exact .inr ⟨b,n,e,rows,X,rfl,hn,a.cells hc,hr.adds a⟩
theorem IsC.idx {H : zAc} {v : AV} {L : List SnS} (g : IsC H v L) {i : Nat} {s : SnS} (h : L[i]? = some s) :
  ∃ b cs vc vt,slb v = some b ∧ zBj 3 v (.int .i64 (i : Int)) = some (.ptr b (i * 3)) ∧ cellsOf H b = some cs ∧ cs[i * 3]? = some (.int .i64 s.id) ∧ cs[i * 3 + 1]? = some vc ∧ cs[i * 3 + 2]? = some vt ∧ (cs.drop (i * 3)).take 3 = [.int .i64 s.id,vc,vt] ∧ i * 3 + 3 ≤ cs.length ∧ BS H vc s.ch ∧ IsP H vt s.tb:=by
 have lt:=(List.getElem?_eq_some_iff.1 h).1
 rcases g with ⟨_,rfl⟩ | ⟨b,n,e,rows,X,rfl,hn,hc,hr⟩
 ·simp at lt
 ·obtain ⟨r,h1,vc,vt,rfl,hb,hp⟩:=hr.get h
  have hl:=zDj hr.len3
  have hle : i * 3 + 3 ≤ rows.flatten.length:=by rw [hl,hr.len]; omega
  have q:=fun f (hf : f < 3)=>zEf hr.len3 h1 f hf
  have q0:=q 0 (by omega)
  have q1:=q 1 (by omega)
  have q2:=q 2 (by omega)
  rw [Nat.add_zero] at q0
  refine ⟨b,_,vc,vt,rfl,zEh b 3 _ n i e .i64 (by omega) lt,hc,?_,?_,?_,?_,by rw [List.length_append]; omega,hb,hp⟩
  ·rw [List.getElem?_append_left (by omega)]; exact q0
  ·rw [List.getElem?_append_left (by omega)]; exact q1
  ·rw [List.getElem?_append_left (by omega)]; exact q2
  ·rw [List.drop_append_of_le_length (by omega),List.take_append_of_le_length (by rw [List.length_drop]; omega)]
   exact zH9 hr.len3 h1
structure Gc (H : zAc) (B : Nat) (v : AV) (L : List SnS) (rows : List (List AV)) : Prop where
 g : GR 3 H B v rows
 ch : ChR H rows L
 ap : ∀ r ∈ rows,∀ x ∈ r,∀ b,slb x = some b → slb v ≠ some b
theorem Gc.isC {H : zAc} {B : Nat} {v : AV} {L : List SnS} {rows : List (List AV)} (g : Gc H B v L rows) : IsC H v L:=by
 rcases g.g with ⟨rfl,rfl⟩ | ⟨_,b,_,rfl,h⟩
 ·exact .inl ⟨rfl,List.length_eq_zero_iff.1 g.ch.len.symm⟩
 ·refine .inr ⟨b,rows.length,false,rows,[],by rw [g.ch.len],by rw [g.ch.len]; exact Nat.le_refl _,by rw [List.append_nil]; exact zAl h,g.ch⟩
theorem Gc.nil (H : zAc) (B : Nat) : Gc H B .nilSl [] []:=⟨.inl ⟨rfl,rfl⟩,⟨rfl,fun i r s h=>by simp at h⟩,fun r h=>by cases h⟩
theorem Gc.adds {H H' : zAc} {B : Nat} {v : AV} {L : List SnS} {rows : List (List AV)} (g : Gc H B v L rows) (a : Adds H H') : Gc H' B v L rows :=
 ⟨g.g.frS (Fr.adds a (fun _=>False)) fun _ _ h=>h,g.ch.adds a,g.ap⟩
theorem Gc.low {H : zAc} {B B' : Nat} {v : AV} {L : List SnS} {rows : List (List AV)} (g : Gc H B v L rows) (h : B' ≤ B) : Gc H B' v L rows:=⟨g.g.low h,g.ch,g.ap⟩
theorem Gc.push {d : TyD} (hd : d.size = 3) (hb : 1 ≤ d.bytes) (hb2 : d.bytes ≤ 1000) {K : zAc} {B s : Nat} {v : AV} {L : List SnS} {rows : List (List AV)} {r : List AV} {x : SnS} (g : Gc K B v L rows) (hs : cellsOf K s = some r) (hx : SnR K r x)
  (ha : ∀ y ∈ r,∀ b,slb y = some b → slb v ≠ some b) (hn : L.length ≤ 1000) (hB : B ≤ K.length) :
  ∃ v' K',Eng.app d v (.sl s 0 3 1 1 true) K = some (v',K') ∧ Gc K' B v' (L ++ [x]) (rows ++ [r]) ∧ Fr K K' (fun b=>slb v = some b) ∧ slb v' = some K.length ∧ K'.length = K.length + 1 ∧ zA0 v' = some [v'] ∧ v'.isCell = true:=by
 have hl:=g.ch.len
 obtain ⟨v',K',e,g',fr,sb,kl,c1,c2⟩:=zTm (by omega) hd hb g.g g.ch.len3 hs hx.len hx.cell (by
  have : (rows.length + 1) * d.bytes ≤ 1001 * 1000:=Nat.mul_le_mul (by omega) hb2
  unfold roomy; omega) hB
 have fx:=hx.fr fr fun y hy b h1 h2=>ha y hy b h1 h2
 refine ⟨v',K',e,⟨g',⟨by simp [hl],fun i r' s' h1 h2=>?_⟩,fun r' hr y hy b h1=>?_⟩,fr,sb,kl,c1,c2⟩
 ·by_cases hi : i < rows.length
  ·rw [List.getElem?_append_left hi] at h1
   rw [List.getElem?_append_left (by omega)] at h2
   exact (g.ch.el i r' s' h1 h2).fr fr fun y hy b q1 q2=>g.ap r' (List.mem_of_getElem? h1) y hy b q1 q2
  ·have : i = rows.length:=by
    have:=(List.getElem?_eq_some_iff.1 h1).1
    rw [List.length_append,List.length_singleton] at this; omega
   subst this
   rw [List.getElem?_append_right (Nat.le_refl _),Nat.sub_self] at h1
   rw [List.getElem?_append_right (by omega),show rows.length - L.length = 0 by omega] at h2
   simp only [List.getElem?_cons_zero,Option.some.injEq] at h1 h2
   subst h1; subst h2; exact fx
 ·rw [sb]
  intro q
  injection q with q
  have : b < K.length:=by
   rcases List.mem_append.1 hr with hr | hr
   ·obtain ⟨s,_,hs⟩:=g.ch.row hr; exact hs.lt y hy b h1
   ·rw [List.mem_singleton.1 hr] at hy; exact hx.lt y hy b h1
  omega
theorem zRq {h : zAc} {v : AV} (d : DatC h (.sl [.int .i64,.sl [.int .u8],.sl [.int .i64,.int .i64]]) v) : ∃ L,IsC h v L ∧ L.length ≤ 9223372036854775807 ∧ ∀ s ∈ L,IntKind.i64.has s.id ∧ IsU8 s.ch ∧ s.ch.length ≤ 9223372036854775807 ∧ s.tb.length ≤ 9223372036854775807 ∧ ∀ p ∈ s.tb,IntKind.i64.has p.1 ∧ IntKind.i64.has p.2:=by
 have key : ∀ rows : List (List AV),(∀ r ∈ rows,DatR h [.int .i64,.sl [.int .u8],.sl [.int .i64,.int .i64]] r) → ∃ L,ChR h rows L ∧ ∀ s ∈ L,IntKind.i64.has s.id ∧ IsU8 s.ch ∧ s.ch.length ≤ 9223372036854775807 ∧ s.tb.length ≤ 9223372036854775807 ∧ ∀ p ∈ s.tb,IntKind.i64.has p.1 ∧ IntKind.i64.has p.2:=by
  intro rows
  induction rows with
  | nil=>intro _; exact ⟨[],⟨rfl,fun i r s h=>by simp at h⟩,fun s h=>by cases h⟩
  | cons r rows ih =>
   intro hr
   obtain ⟨L,c,q⟩:=ih fun r hm=>hr r (by simp [hm])
   have hd:=hr r (by simp)
   cases hd with
   | cons d1 t=>cases t with
    | cons d2 t=>cases t with
     | cons d3 t=>cases t with
      | nil=>cases d1 with
       | @int _ x n1 =>
        rename_i vc vt
        obtain ⟨zs,bz,uz,_⟩:=d2.bytes
        obtain ⟨l,pl,nl,kl⟩:=zLx d3
        have nz : zs.length ≤ 9223372036854775807:=by
         cases d2 with
         | nil =>
          rcases bz with ⟨_,rfl⟩ | ⟨_,_,_,_,_,h,_⟩
          ·simp
          ·cases h
         | @sl _ b rws hn hb hr2 =>
          rcases bz with ⟨h,_⟩ | ⟨_,_,_,_,_,h,_⟩
          ·cases h
          ·injection h with _ _ _ h _ _; omega
        refine ⟨⟨x,zs,l⟩ :: L,⟨by simp [c.len],fun i r s h1 h2=>?_⟩,fun s hs=>?_⟩
        ·cases i with
         | zero =>
          simp only [List.getElem?_cons_zero,Option.some.injEq] at h1 h2
          subst h1; subst h2
          exact ⟨vc,vt,rfl,bz,pl⟩
         | succ i=>exact c.el i r s (by simpa using h1) (by simpa using h2)
        ·rcases List.mem_cons.1 hs with rfl | hs
         ·exact ⟨n1,uz,nz,nl,kl⟩
         ·exact q s hs
 cases d with
 | nil=>exact ⟨[],.inl ⟨rfl,rfl⟩,by simp,fun s h=>by cases h⟩
 | @sl _ b rows hn hb hr =>
  obtain ⟨L,c,q⟩:=key rows hr
  exact ⟨L,.inr ⟨b,rows.length,false,rows,[],by rw [c.len]; rfl,by rw [c.len]; exact Nat.le_refl _,by rw [List.append_nil]; exact hb,c⟩,by rw [← c.len]; exact hn,q⟩
end Go.Proofs.Ythgflkfhjnbheaa.Eng
end
section
set_option linter.unusedVariables false
namespace Go.Proofs.Ythgflkfhjnbheaa.Eng
open Go
theorem zUs {K : zAc} {b : Nat} {y : AV} {zs : List Int} (hb : K[b]? = some (.rw [])) (hs : BS K y zs) (hn : zs.length ≤ 100000) :
  ∃ v' K',app (ty 1 false 1 [.int .u8 0]) (.sl b 0 1 0 0 true) y K = some (v',K') ∧ Adds K K' ∧ BS K' v' zs ∧ (slb v' = some b ∨ slb v' = some K.length):=by
 obtain ⟨r1,r2⟩:=hs.read
 have hr : (roomy : Nat) = 140737488355328:=rfl
 unfold app
 rw [r1]
 simp only [Option.bind_some,show (ty 1 false 1 [AV.int .u8 0]).size = 1 from rfl,r2]
 unfold zB6
 simp only [show (ty 1 false 1 [AV.int .u8 0]).size = 1 from rfl,show (ty 1 false 1 [AV.int .u8 0]).bytes = 1 from rfl]
 by_cases hz : zs = []
 ·subst hz
  refine ⟨.sl b 0 1 0 0 true,K,by simp,Adds.refl K,.inr ⟨b,0,0,true,[],rfl,zAl hb,fun i z h=>by simp at h,by simp⟩,.inl rfl⟩
 ·have hp:=List.length_pos_iff.2 hz
  refine ⟨.sl K.length 0 1 zs.length zs.length false,K ++ [.rw (u8s zs)],?_,⟨_,rfl⟩,BS.block (by simp),.inr rfl⟩
  have hrd : zB0 K b 0 (0 * 1) = some []:=by unfold zB0; rw [zAl hb]; simp
  rw [if_neg (by simp),if_neg (by omega),if_neg (by omega),if_pos ⟨by omega,by omega⟩,hrd]
  simp
theorem zIr {K : zAc} {n b : Nat} (h : b < n) : (K.take n)[b]? = K[b]?:=by rw [List.getElem?_take,if_pos h]
theorem GR.cut {k : Nat} {K : zAc} {B : Nat} {v : AV} {rows : List (List AV)} {n : Nat} (g : GR k K B v rows) (h : ∀ b,slb v = some b → b < n) : GR k (K.take n) B v rows:=by
 rcases g with g | ⟨h0,b,hb,rfl,q⟩
 ·exact .inl g
 ·exact .inr ⟨h0,b,hb,rfl,by rw [zIr (h b rfl)]; exact q⟩
structure SnS.Fit (s : SnS) : Prop where
 u8 : IsU8 s.ch
 lc : s.ch.length ≤ 1000
 lt : s.tb.length ≤ 1000
def Fits (L : List SnS) : Prop:=L.length ≤ 100 ∧ ∀ s ∈ L,s.Fit
theorem zD7 {H K : zAc} {v : AV} (a : Adds H K) : trim H (some (v,K)) = some (v,K) ∨ (v.under H.length = true ∧ trim H (some (v,K)) = some (v,H)):=by
 rcases zRg H v K with ⟨t,e⟩ | e
 ·obtain ⟨X,rfl⟩:=a
  rw [List.take_left] at e
  exact .inr ⟨t.2.1,e⟩
 ·exact .inl e
end Go.Proofs.Ythgflkfhjnbheaa.Eng
end
section
set_option linter.unusedVariables false
namespace Go.Proofs.Ythgflkfhjnbheaa.Eng
open Go
theorem zQ5 {P : Program} {l : Nat} {args : List AV} {K : zAc} {e0 : Ex} {T0 : T} {ps : List Nat} {ka kb : Code} {a b : CT} (ea : ∀ t h,zAo P (envL P) ka t h = runC (envL P) a t h) (eb : ∀ t h,zAo P (envL P) kb t h = runC (envL P) b t h)
  (hl : K[l]? = some (.loop ⟨.ready,e0,T0,ps,ka,kb⟩)) (hp : args.length = ps.length) {t1 : T} {K1 : zAc} (ha : runC (envL P) a (zBm ps args T0) K = some (.normal,t1,K1)) (h1 : K1[l]? = some (.loop ⟨.ready,e0,T0,ps,ka,kb⟩))
  {ex : Ex} {t2 : T} {K2 : zAc} (hb : runC (envL P) b t1 (K1.set l (.loop ⟨.busy,e0,T0,ps,ka,kb⟩)) = some (ex,t2,K2)) (h2 : K2[l]? = some (.loop ⟨.busy,e0,T0,ps,ka,kb⟩)) :
  (envL P).yield l args K = trim K (some (.bool ex.isNormal,K2.set l (.loop ⟨if ex.isNormal then .ready else .done,ex,T0,ps,ka,kb⟩))):=by
 rw [zK5 P l args K _ hl hp]
 simp only [ea,ha]
 rw [zLn P (envL P) l _ t1 K1 _ h1 rfl]
 simp only [eb,hb]
 rw [zLp l ex t2 K2 _ h2]
theorem zRj {K K3 : zAc} {v0 : AV} (t : zBu K v0 K3) {b : Nat} (hb : b < K.length) {vs : List AV} (h3 : K3[b]? = some (.rw vs)) {a : AV} (ha : a ∈ vs) (hK : ∀ k,K[b]? = some k → ∀ a ∈ k.vals,∀ x,slb a = some x → x < K.length) : ∀ x,slb a = some x → x < K.length:=by
 intro x hx
 rcases t.2.2 b _ hb h3 a ha with h | ⟨k,hk,ha2⟩
 ·exact zB4 h hx
 ·exact hK k hk a ha2 x hx
theorem zJx (K : zAc) (v : AV) (K3 : zAc) : ∃ K4,trim K (some (v,K3)) = some (v,K4) ∧ (K4 = K3 ∨ (zBu K v K3 ∧ K4 = K3.take K.length)):=by
 rcases zRg K v K3 with ⟨t,e⟩ | e
 ·exact ⟨_,e,.inr ⟨t,rfl⟩⟩
 ·exact ⟨_,e,.inl rfl⟩
theorem two_at {K K3 K4 : zAc} {v : AV} (h : K4 = K3 ∨ (zBu K v K3 ∧ K4 = K3.take K.length)) {b : Nat} (hb : b < K.length) : K4[b]? = K3[b]?:=by
 rcases h with rfl | ⟨_,rfl⟩
 ·rfl
 ·exact zIr hb
theorem zRd {K K3 K4 : zAc} {v : AV} (h : K4 = K3 ∨ (zBu K v K3 ∧ K4 = K3.take K.length)) (hl : K.length ≤ K3.length) : K.length ≤ K4.length:=by
 rcases h with rfl | ⟨_,rfl⟩
 ·exact hl
 ·rw [List.length_take]; omega
theorem two_gr {k : Nat} {K K3 K4 : zAc} {v a : AV} {B : Nat} {rows : List (List AV)} (h : K4 = K3 ∨ (zBu K v K3 ∧ K4 = K3.take K.length)) (g : GR k K3 B a rows) {b : Nat} (hb : b < K.length) {vs : List AV} (h3 : K3[b]? = some (.rw vs)) (ha : a ∈ vs) (hK : ∀ k,K[b]? = some k → ∀ a ∈ k.vals,∀ x,slb a = some x → x < K.length) : GR k K4 B a rows:=by
 rcases h with rfl | ⟨t,rfl⟩
 ·exact g
 ·exact g.cut (zRj t hb h3 ha hK)
theorem zLo {P : Program} {l : Nat} {args : List AV} {K : zAc} {e0 : Ex} {T0 : T} {ps : List Nat} {ka kb : Code} {a b : CT} (ea : ∀ t h,zAo P (envL P) ka t h = runC (envL P) a t h) (eb : ∀ t h,zAo P (envL P) kb t h = runC (envL P) b t h)
  (hl : K[l]? = some (.loop ⟨.ready,e0,T0,ps,ka,kb⟩)) (hp : args.length = ps.length) {t1 : T} {cs : List AV} (ha : runC (envL P) a (zBm ps args T0) K = some (.normal,t1,K ++ [ABlk.rw cs]))
  {R : Ex → zAc → Prop} (hb : Outs (runC (envL P) b t1 ((K ++ [ABlk.rw cs]).set l (.loop ⟨.busy,e0,T0,ps,ka,kb⟩))) fun e _ K2=>R e K2) (h2 : ∀ e K2,R e K2 → K2[l]? = some (.loop ⟨.busy,e0,T0,ps,ka,kb⟩)) :
  ∃ e K2 K4,R e K2 ∧ (envL P).yield l args K = some (.bool e.isNormal,K4) ∧ (K4 = K2.set l (.loop ⟨if e.isNormal then .ready else .done,e,T0,ps,ka,kb⟩) ∨ (zBu K (.bool e.isNormal) (K2.set l (.loop ⟨if e.isNormal then .ready else .done,e,T0,ps,ka,kb⟩)) ∧ K4 = (K2.set l (.loop ⟨if e.isNormal then .ready else .done,e,T0,ps,ka,kb⟩)).take K.length)):=by
 obtain ⟨e,t2,K2,er,r⟩:=hb
 have:=zQ5 ea eb hl hp ha (by rw [List.getElem?_append_left (zA8 hl)]; exact hl) er (h2 e K2 r)
 obtain ⟨K4,et,h4⟩:=zJx K (.bool e.isNormal) (K2.set l (.loop ⟨if e.isNormal then .ready else .done,e,T0,ps,ka,kb⟩))
 exact ⟨e,K2,K4,r,this.trans et,h4⟩
theorem zN1 {K : zAc} {cs : List AV} {l : Nat} {x : ABlk} {b : Nat} (hb : b < K.length) (hn : b ≠ l) : ((K ++ [ABlk.rw cs]).set l x)[b]? = K[b]?:=by
 rw [zAn _ _ _ _ hn,List.getElem?_append_left hb]
theorem zPi {K : zAc} {cs : List AV} {l : Nat} {x : ABlk} (hl : l < K.length) : ((K ++ [ABlk.rw cs]).set l x)[K.length]? = some (.rw cs):=by
 rw [zAn _ _ _ _ (by omega),List.getElem?_append_right (Nat.le_refl _),Nat.sub_self]; rfl
theorem zUq {K : zAc} {cs : List AV} {l : Nat} {x : ABlk} (hl : l < K.length) : ((K ++ [ABlk.rw cs]).set l x)[l]? = some x:=zBe _ _ _ (by rw [List.length_append]; omega)
theorem zKz {K : zAc} {cs : List AV} {l : Nat} {x : ABlk} : ((K ++ [ABlk.rw cs]).set l x).length = K.length + 1:=by rw [List.length_set,List.length_append]; rfl
theorem zUr {K : zAc} {cs : List AV} {l : Nat} {x : ABlk} : Fr K ((K ++ [ABlk.rw cs]).set l x) (fun b=>b = l):=⟨by rw [zKz]; omega,fun b hb hn=>zN1 hb hn⟩
theorem zFy {K : zAc} {b : Nat} {x y : AV} (h : K[b]? = some (.rw [x])) (hc : y.isCell = true) : zA3 K b 0 [y] = some (K.set b (.rw [y])):=by
 rw [zA2 h,if_pos ⟨by simp,by simp [hc]⟩,zBw]; rfl
theorem zLu {E : Env} {f : T → AV} {ps : List Nat} {ka kb : Code} {t : T} {h K : zAc} {e : Ex} {st : LoopState} {v : AV} (hc : zIu E (f t) [.yld h.length] (h ++ [.loop ⟨.ready,.normal,t,ps,ka,kb⟩]) = some (v,K)) (hl : K[h.length]? = some (.loop ⟨st,e,t,ps,ka,kb⟩)) (hs : st ≠ .busy) :
  runC E (.range f ps ka kb) t h = some (e,t,K.set h.length (.loop ⟨.exhausted,e,t,ps,ka,kb⟩)):=by
 rw [zC4,hc,zSg _ _ _ _ _ hl hs]
theorem Gc.frT {H H' : zAc} {F : Nat → Prop} {B : Nat} {v : AV} {L : List SnS} {rows : List (List AV)} (g : Gc H B v L rows) (a : Fr H H' F) (n1 : ∀ b,slb v = some b → ¬ F b) (n2 : ∀ r ∈ rows,∀ x ∈ r,∀ b,slb x = some b → ¬ F b) : Gc H' B v L rows :=
 ⟨g.g.frS a n1,g.ch.fr a n2,g.ap⟩
def cidF (n : Int) : Nat → List SnS → Int
 | _,[]=>-1
 | i,s :: L=>if s.id = n then (i : Int) else cidF n (i + 1) L
end Go.Proofs.Ythgflkfhjnbheaa.Eng
end
section
set_option linter.unusedVariables false
namespace Go.Proofs.Ythgflkfhjnbheaa.Eng
open Go Go.Sort
end Go.Proofs.Ythgflkfhjnbheaa.Eng
end
section
set_option linter.unusedVariables false
namespace Go.Proofs.Ythgflkfhjnbheaa.Eng
open Go
end Go.Proofs.Ythgflkfhjnbheaa.Eng
end
section
namespace Go.Proofs.Ythgflkfhjnbheaa.Eng
open Go Go.ChangeShapes Go.WideShapes Go.ChangeAt Go.RowKit
variable {P : Program} {H : Type} {enc : TypeId × Value → H}
theorem zJw {w : World} {b : Nat} {sp : Nat → Bool} {held : Bool} {t u : TypeId} {fs : Array Field} {f : Field} {cs : List Value} {d : DataW H} {ps : List MemPlace} (ht : P.underlying t = some (.struct fs)) (i : Nat) (hf : fs[i]? = some f) (hu : f.type = u) {n : Nat} (hc : P.cellsOf u = n)
  (h : DataW.Trod enc P w b sp held t (.agg cs.toArray) d ps) {xs : List Value} (hv : (cs.drop f.offset).take n = xs) : ∃ d' p',DataW.Trod enc P w b sp held u (.agg xs.toArray) d' p':=by
 obtain ⟨fuel,h⟩:=h
 obtain ⟨ys,m,rfl,hx,hl,hn,hg⟩:=DataW.trod_struct ht h
 have g:=hg i f hf
 subst hu
 rw [hc] at g
 have e1 : (((Value.agg cs.toArray).cells.toList.drop f.offset).take n) = xs:=hv
 have lt : i < fs.size:=by
  rcases Nat.lt_or_ge i fs.size with q | q
  ·exact q
  ·rw [Array.getElem?_eq_none q] at hf; cases hf
 rw [e1,List.getElem?_eq_getElem (by omega)] at g
 exact ⟨_,_,m,g⟩
end Go.Proofs.Ythgflkfhjnbheaa.Eng
end
section
namespace Go.Proofs.Ythgflkfhjnbheaa.Eng
open Go
set_option linter.defProp false
def itr:=And.intro @zAk (And.intro @zAi (And.intro @zPf (And.intro @zGq (And.intro @zEb (And.intro @Bool.not_not (And.intro @put_cons (And.intro @put_nil (And.intro @zBo (And.intro @zUu (And.intro @at_add (And.intro @zOi (And.intro @zRt (And.intro @zAx (And.intro @zC1 (And.intro @zQ7 (And.intro @zPq (And.intro @zPp (And.intro @zBw (And.intro @zM5 (And.intro @List.drop_nil.{0} (And.intro @List.take_nil.{0} (And.intro @cell_int (And.intro @zUl (And.intro @List.set_nil.{0} (And.intro @List.length_set.{0} (And.intro @List.all_cons.{0} (And.intro @List.all_nil.{0} (And.intro @Bool.and_self (And.intro @and_self (And.intro @true_and (And.intro @and_true (And.intro @List.getElem?_nil.{0} (And.intro @Int.toNat_zero (And.intro @Int.toNat_one (And.intro @zA6 (And.intro @under_fn (And.intro @zQ9 (And.intro @under_sl (And.intro @Nat.lt_irrefl (And.intro @zP7 (And.intro @zRf (And.intro @Int.cast_ofNat_Int (And.intro @decide_true (And.intro @decide_false (And.intro @Nat.zero_mul (And.intro @Nat.mul_one (And.intro @Nat.one_mul (And.intro @zI3.eq_1 (And.intro @zI3.eq_2 (And.intro @idxA.eq_1 (And.intro @idxA.eq_2 (And.intro @Ex.isNormal.eq_1 (And.intro @Ex.isNormal.eq_2 (And.intro @zEn.eq_1 (And.intro @zEn.eq_2 (And.intro @zEn.eq_3 (And.intro @ABlk.vals.eq_1 (And.intro @ABlk.vals.eq_2 (And.intro @ABlk.vals.eq_3 (@ABlk.vals.eq_4))))))))))))))))))))))))))))))))))))))))))))))))))))))))))))
def itq:=And.intro @zC4 (And.intro @zOa (And.intro @zCh.eq_1 (And.intro @zCt.eq_1 (And.intro @zBq.eq_1 (And.intro @zBq.eq_2 (And.intro @zDk.eq_1 (@zCv.eq_1)))))))
end Go.Proofs.Ythgflkfhjnbheaa.Eng
end
section
set_option linter.unusedVariables false
namespace Go.Proofs.Ythgflkfhjnbheaa.Eng
open Go Go.ChangeShapes Go.WideShapes Go.ChangeAt Go.RowKit
variable {P : Program} {H : Type} {enc : TypeId × Value → H}
theorem zD6 {w : World} {b : Nat} {sp : Nat → Bool} {held : Bool} {n : Nat} {t e : TypeId} {cs : List Value} {d : DataW H} {ps : List MemPlace} (ht : P.underlying t = some (.array n e)) {k : Nat} (hc : P.cellsOf e = k)
  (h : DataW.Trod enc P w b sp held t (.agg cs.toArray) d ps) (i : Nat) (hi : i < n) {xs : List Value} (hv : (cs.drop (i * k)).take k = xs) : ∃ d' p',DataW.Trod enc P w b sp held e (.agg xs.toArray) d' p':=by
 obtain ⟨fuel,h⟩:=h
 obtain ⟨ys,m,rfl,hx,hl,hn,hg⟩:=DataW.trod_array ht h
 have g:=hg i hi
 rw [hc] at g
 have e1 : (((Value.agg cs.toArray).cells.toList.drop (i * k)).take k) = xs:=hv
 rw [e1,List.getElem?_eq_getElem (by omega)] at g
 exact ⟨_,_,m,g⟩
theorem len12 {α : Type} {l : List α} (h : l.length = 12) : ∃ a0 a1 a2 a3 a4 a5 a6 a7 a8 a9 a10 a11,l = [a0,a1,a2,a3,a4,a5,a6,a7,a8,a9,a10,a11]:=by
 match l,h with
 | [a0,a1,a2,a3,a4,a5,a6,a7,a8,a9,a10,a11],_=>exact ⟨_,_,_,_,_,_,_,_,_,_,_,_,rfl⟩
end Go.Proofs.Ythgflkfhjnbheaa.Eng
end
