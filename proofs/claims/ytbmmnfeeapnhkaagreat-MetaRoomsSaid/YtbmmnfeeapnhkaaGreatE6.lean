/- An evaluator over abstract values, proved sound against the machine: what it says of a call, the call does. No condition. -/
import Derived.Test.YtbmmnfeeapnhkaaGreatE5
import Derived.Test.YtbmmnfeeapnhkaaGreatE4
section
namespace Go.Proofs.YtbmmnfeeapnhkaaGreat.Eng
open Go
theorem exF {t : T} {F : (Nat → AV) → T} (h : F (getT t) = t) : ∃ k,t = F k:=⟨_,h.symm⟩
theorem zAl {H : zAa} {b : Nat} {k : ABlk} (h : H[b]? = some k) : b < H.length:=(List.getElem?_eq_some_iff.1 h).1
theorem zBn {H : zAa} {b : Nat} {cs : List AV} (h : cellsOf H b = some cs) : b < H.length:=by
 unfold cellsOf at h
 cases hx : H[b]? with
 | none=>rw [hx] at h; cases h
 | some k=>exact zAl hx
theorem zDv {H H' : zAa} {b : Nat} (h : H'[b]? = H[b]?) : cellsOf H' b = cellsOf H b:=by unfold cellsOf; rw [h]
def Fr (H H' : zAa) (F : Nat → Prop) : Prop:=H.length ≤ H'.length ∧ ∀ b,b < H.length → ¬ F b → H'[b]? = H[b]?
theorem Fr.refl (H : zAa) (F : Nat → Prop) : Fr H H F:=⟨Nat.le_refl _,fun _ _ _=>rfl⟩
theorem Fr.trans {H H' H'' : zAa} {F G : Nat → Prop} (a : Fr H H' F) (b : Fr H' H'' G) (hG : ∀ x,x < H.length → G x → F x) : Fr H H'' F :=
 ⟨Nat.le_trans a.1 b.1,fun x hx hn=>(b.2 x (Nat.lt_of_lt_of_le hx a.1) (fun hg=>hn (hG x hx hg))).trans (a.2 x hx hn)⟩
theorem Fr.mono {H H' : zAa} {F G : Nat → Prop} (a : Fr H H' F) (h : ∀ x,x < H.length → F x → G x) : Fr H H' G:=⟨a.1,fun x hx hn=>a.2 x hx fun hf=>hn (h x hx hf)⟩
theorem Fr.adds {H H' : zAa} (a : Adds H H') (F : Nat → Prop) : Fr H H' F:=by
 obtain ⟨G,rfl⟩:=a
 exact ⟨by simp,fun b hb _=>List.getElem?_append_left hb⟩
theorem Fr.set (H : zAa) {b : Nat} (k : ABlk) {F : Nat → Prop} (h : F b) : Fr H (H.set b k) F :=
 ⟨by simp,fun x _ hn=>List.getElem?_set_ne (fun e=>by subst e; exact hn h)⟩
theorem Fr.at {H H' : zAa} {F : Nat → Prop} (a : Fr H H' F) {b : Nat} {k : ABlk} (h : H[b]? = some k) (n : ¬ F b) : H'[b]? = some k:=(a.2 b (zAl h) n).trans h
theorem Fr.cells {H H' : zAa} {F : Nat → Prop} (a : Fr H H' F) {b : Nat} {cs : List AV} (h : cellsOf H b = some cs) (n : ¬ F b) : cellsOf H' b = some cs:=(zDv (a.2 b (zBn h) n)).trans h
theorem Fr.gr {H H' : zAa} {F : Nat → Prop} (a : Fr H H' F) {k B : Nat} {l : AV} {rows : List (List AV)} (g : GR k H B l rows) (n : ∀ b o s n c e,l = .sl b o s n c e → ¬ F b) : GR k H' B l rows:=by
 rcases g with g | ⟨g1,b,g2,rfl,g4⟩
 ·exact .inl g
 ·exact .inr ⟨g1,b,g2,rfl,a.at g4 (n _ _ _ _ _ _ rfl)⟩
theorem Fr.old {h0 H H' : zAa} {F : Nat → Prop} (a : Fr H H' F) (o : Adds h0 H) (n : ∀ b,b < h0.length → ¬ F b) : Adds h0 H':=by
 have:=o.len
 refine Adds.of_get (Nat.le_trans this a.1) fun b hb=>?_
 rw [a.2 b (by omega) (n b hb)]
 obtain ⟨G,rfl⟩:=o
 exact List.getElem?_append_left hb
theorem Fr.keep {H H' : zAa} {B : List Nat} (k : KeepB H H' B) : Fr H H' (· ∈ B):=⟨Nat.le_of_eq k.1.symm,fun b _ hn=>k.2 b hn⟩
theorem zE1 {H K : zAa} {v : AV} (hl : H.length ≤ K.length) (hv : v.under H.length = true) (hk : ∀ (b : Nat) k',b < H.length → K[b]? = some k' → H[b]? = some k' ∨ ∀ a ∈ k'.vals,a.under H.length = true) : trim H (some (v,K)) = some (v,K.take H.length):=by
 have ht : zCz H v K:=⟨hl,hv,fun b k' hb hb' a ha=>by
  rcases hk b k' hb hb' with h | h
  ·exact .inr ⟨k',h,ha⟩
  ·exact .inl (h a ha)⟩
 simp only [trim,Option.map_some,ht,if_true]
theorem zGx {K : zAa} {n b : Nat} (h : b < n) : (K.take n)[b]? = K[b]?:=by rw [List.getElem?_take]; simp [h]
theorem zLz {K : zAa} {n b : Nat} (h : b < n) : cellsOf (K.take n) b = cellsOf K b:=zDv (zGx h)
theorem zHy {H K : zAa} (h : H.length ≤ K.length) : (K.take H.length).length = H.length:=by rw [List.length_take]; exact Nat.min_eq_left h
theorem zOb (zs : List Int) (n : Nat) : ∀ a ∈ u8s zs,a.under n = true:=by
 intro a ha
 obtain ⟨z,_,rfl⟩:=List.mem_map.1 ha; rfl
theorem zLy {n m : Nat} (h : n ≤ m) : ∀ {a : AV},a.under n = true → a.under m = true
 | .int _ _,_ | .bool _,_ | .str _,_ | .nilPtr,_ | .nilSl,_ | .nilFn,_ | .undef,_ | .any,_=>rfl
 | .ptr b _,u=>by simp only [AV.under,decide_eq_true_eq] at u ⊢; omega
 | .sl b _ _ _ _ _,u=>by simp only [AV.under,decide_eq_true_eq] at u ⊢; omega
 | .yld b,u=>by simp only [AV.under,decide_eq_true_eq] at u ⊢; omega
 | .agg cs,u=>by simp only [AV.under] at u ⊢; exact all cs u
 | .tup cs,u=>by simp only [AV.under] at u ⊢; exact all cs u
 | .fn _ cs,u=>by simp only [AV.under] at u ⊢; exact all cs u
where all : ∀ (cs : List AV),zAt n cs = true → zAt m cs = true
 | [],_=>rfl
 | a :: cs,u=>by
  simp only [zAt,Bool.and_eq_true] at u ⊢
  exact ⟨zLy h u.1,all cs u.2⟩
def slb : AV → Option Nat
 | .sl b _ _ _ _ _=>some b
 | _=>none
def zI0 (l : AV) (H : zAa) : zAa:=match l with | .sl b _ _ _ _ _=>H.set b .dead | _=>H
theorem zD3 (l : AV) (H : zAa) : (zI0 l H).length = H.length:=by unfold zI0; split <;> simp
theorem zPb (l : AV) (H : zAa) (b : Nat) (h : slb l ≠ some b) : (zI0 l H)[b]? = H[b]?:=by
 unfold zI0
 split
 ·exact List.getElem?_set_ne (fun e=>h (by rw [e]; rfl))
 ·rfl
theorem GR.app2 {k : Nat} (hk : 1 ≤ k) {d : TyD} (hd : d.size = k) (hb : 1 ≤ d.bytes) {H : zAa} {B : Nat} {l y : AV} {rows : List (List AV)} {r : List AV} (g : GR k H B l rows) (hr : ∀ x ∈ rows,x.length = k) (hx : zFm y = some 1) (hy : zBx k 1 y H = some r)
  (hc : r.all AV.isCell = true) (hn : (rows.length + 1) * d.bytes ≤ roomy) : Eng.app d l y H = some (.sl H.length 0 k (rows.length + 1) (rows.length + 1) false,zI0 l H ++ [.rw (rows ++ [r]).flatten]):=by
 rcases g with ⟨rfl,rfl⟩ | ⟨hne,b,hb2,rfl,hH⟩
 ·unfold Eng.app
  rw [hx]
  simp only [Option.bind_some,hd,hy]
  unfold zDd
  simp only [hd]
  rw [if_neg (by omega),if_pos ⟨hk,hb,by simpa using hn⟩]
  simp [zI0]
 ·have hl:=zDn hr
  unfold Eng.app
  rw [hx]
  simp only [Option.bind_some,hd,hy]
  unfold zDd
  simp only [hd]
  rw [if_neg (by omega),if_neg (by omega),if_neg (by omega),if_pos ⟨hb,hn⟩]
  have hrd : zC6 H b 0 (rows.length * k) = some rows.flatten:=by
   unfold zC6
   rw [zAj hH]
   simp only [Option.bind_some]
   rw [if_pos (by omega),List.drop_zero,List.take_of_length_le (by omega)]
  rw [hrd]
  simp only [Option.bind_some,Bool.false_eq_true,if_false,hH]
  rw [if_pos ⟨by omega,hc⟩]
  simp [zI0]
theorem zEz {P : Program} {l : Nat} {args : List AV} {K : zAa} {e0 : Ex} {T0 : T} {ps : List Nat} {ka kb : Code} {a b : CT} (ea : ∀ t h,zAi P (envL P) ka t h = runC (envL P) a t h) (eb : ∀ t h,zAi P (envL P) kb t h = runC (envL P) b t h)
  (hl : K[l]? = some (.loop ⟨.ready,e0,T0,ps,ka,kb⟩)) (hp : args.length = ps.length) {t1 : T} (ha : runC (envL P) a (zBq ps args T0) K = some (.normal,t1,K))
  {ex : Ex} {t2 : T} {K2 : zAa} {L2 : ALoop} (hb : runC (envL P) b t1 (K.set l (.loop ⟨.busy,e0,T0,ps,ka,kb⟩)) = some (ex,t2,K2)) (h2 : K2[l]? = some (.loop L2)) :
  (envL P).yield l args K = trim K (some (.bool ex.isNormal,K2.set l (.loop ⟨if ex.isNormal then .ready else .done,ex,L2.tmps,L2.params,L2.assign,L2.body⟩))):=by
 rw [zN6 P l args K _ hl hp]
 simp only [ea,ha]
 rw [zOr P (envL P) l _ t1 K _ hl rfl]
 simp only [eb,hb]
 rw [zOs l ex t2 K2 L2 h2]
theorem zOq {k : Nat} : ∀ {rows : List (List AV)} {i : Nat} {r : List AV},(∀ r ∈ rows,r.length = k) → rows[i]? = some r → ∀ f v,f + v.length ≤ k → rows.flatten.take (i * k + f) ++ v ++ rows.flatten.drop (i * k + f + v.length) = (rows.set i (r.take f ++ v ++ r.drop (f + v.length))).flatten
 | [],i,r,_,h,_,_,_=>by simp at h
 | x :: rows,0,r,h,hi,f,v,hf=>by
  simp at hi; subst hi
  have hx:=h x (by simp)
  rw [Nat.zero_mul,Nat.zero_add,List.flatten_cons,List.take_append_of_le_length (by omega),List.drop_append_of_le_length (by omega)]
  simp
 | x :: rows,i + 1,r,h,hi,f,v,hf=>by
  have hx:=h x (by simp)
  have ih:=zOq (fun x hx=>h x (by simp [hx])) (by simpa using hi : rows[i]? = some r) f v hf
  rw [List.flatten_cons,List.set_cons_succ,List.flatten_cons,← ih]
  rw [show (i + 1) * k + f = x.length + (i * k + f) by rw [hx,Nat.add_mul]; omega,List.take_length_add_append,show x.length + (i * k + f) + v.length = x.length + (i * k + f + v.length) by omega,List.drop_length_add_append]
  simp
theorem zS7 {H : zAa} {b k i f : Nat} {rows : List (List AV)} {r v : List AV} (hb : H[b]? = some (.rw rows.flatten)) (hk : ∀ r ∈ rows,r.length = k) (hi : rows[i]? = some r) (hf : f + v.length ≤ k) (h1 : v.length ≠ 1) (hc : v.all AV.isCell = true) :
  zAz H b (i * k + f) v = some (H.set b (.rw (rows.set i (r.take f ++ v ++ r.drop (f + v.length))).flatten)):=by
 have hl:=zDn hk
 have hlt:=(List.getElem?_eq_some_iff.1 hi).1
 have : (i + 1) * k ≤ rows.length * k:=Nat.mul_le_mul_right k hlt
 rw [Nat.add_mul] at this
 rw [zAv hb,if_pos ⟨by omega,hc⟩,zAs _ _ _ h1,zOq hk hi f v hf]
theorem zH1 {k : Nat} {rows : List (List AV)} {i : Nat} {r : List AV} (h : ∀ r ∈ rows,r.length = k) (hi : rows[i]? = some r) (f n : Nat) (hf : f + n ≤ k) : (rows.flatten.drop (i * k + f)).take n = (r.drop f).take n ∧ i * k + f + n ≤ rows.flatten.length:=by
 have hl:=zDn h
 have hlt:=(List.getElem?_eq_some_iff.1 hi).1
 have : (i + 1) * k ≤ rows.length * k:=Nat.mul_le_mul_right k hlt
 rw [Nat.add_mul] at this
 refine ⟨?_,by omega⟩
 apply List.ext_getElem?
 intro j
 rw [List.getElem?_take,List.getElem?_take]
 split
 ·rw [List.getElem?_drop,List.getElem?_drop,show i * k + f + j = i * k + (f + j) by omega]
  exact zH2 h hi (f + j) (by omega)
 ·rfl
end Go.Proofs.YtbmmnfeeapnhkaaGreat.Eng
end
section
namespace Go.Proofs.YtbmmnfeeapnhkaaGreat.Eng
open Go
def B64 (z : List Int) : Prop:=z.length = 64 ∧ IsU8 z
theorem B64.zero : B64 (List.replicate 64 0):=⟨by simp,fun z hz=>by rw [(List.mem_replicate.1 hz).2]; omega⟩
theorem zE0 (zs : List Int) (n : Nat) : zAt n (u8s zs) = true:=by
 induction zs with
 | nil=>rfl
 | cons z zs ih=>show zAt n (.int .u8 z :: u8s zs) = true; simp only [zAt,AV.under,ih,Bool.and_self]
theorem zGk {n : Nat} (v : AV) {z : List Int} (hz : z.length = n) (h1 : n ≠ 1) : zBp (rep n v) 0 (u8s z) = u8s z:=by
 rw [zAs _ _ _ (by rw [zAd]; omega),zAd,List.take_zero,List.nil_append,Nat.zero_add,List.drop_of_length_le (by rw [zDj]; omega),List.append_nil]
theorem zCg {n : Nat} {z : List Int} (hz : z.length = n) : (u8s z).take n = u8s z:=List.take_of_length_le (by rw [zAd]; omega)
theorem zKp (n : Nat) (v : Int) : rep n (.int .u8 v) = u8s (List.replicate n v):=by unfold rep u8s; rw [List.map_replicate]
structure Sec where
 there : List Int
 vers : List (List Int)
def Sec.last (s : Sec) : List Int:=s.vers.getLast?.getD s.there
structure Sec.Ok (s : Sec) : Prop where
 t : B64 s.there
 v : ∀ z ∈ s.vers,B64 z
theorem Sec.Ok.last {s : Sec} (h : s.Ok) : B64 s.last:=by
 unfold Sec.last
 cases hx : s.vers.getLast? with
 | none=>exact h.t
 | some z=>exact h.v z (List.mem_of_getLast? hx)
theorem Sec.Ok.settled {z : List Int} (h : B64 z) : Sec.Ok ⟨z,[]⟩:=⟨h,fun _ h=>by cases h⟩
theorem Sec.Ok.more {s : Sec} (h : s.Ok) {z : List Int} (hz : B64 z) : Sec.Ok ⟨s.there,s.vers ++ [z]⟩:=⟨h.t,fun x hx=>by
 rcases List.mem_append.1 hx with hx | hx
 ·exact h.v x hx
 ·simp at hx; subst hx; exact hz⟩
def zsec : Sec:=⟨List.replicate 64 0,[]⟩
theorem zsec_ok : zsec.Ok:=⟨B64.zero,fun _ h=>by cases h⟩
def verR (s : Sec) : List (List AV):=s.vers.map u8s
theorem zJu {s : Sec} (h : s.Ok) : ∀ r ∈ verR s,r.length = 64:=fun r hr=>by
 obtain ⟨z,hz,rfl⟩:=List.mem_map.1 hr
 rw [zAd]; exact (h.v z hz).1
def secR (x : AV × Sec) : List AV:=u8s x.2.there ++ [x.1]
theorem zM8 {L : List (AV × Sec)} (h : ∀ x ∈ L,x.2.Ok) : ∀ r ∈ L.map secR,r.length = 65:=fun r hr=>by
 obtain ⟨x,hx,rfl⟩:=List.mem_map.1 hr
 unfold secR
 rw [List.length_append,zAd,(h x hx).t.1]; rfl
theorem zCf {α β : Type} {L : List α} {i : Nat} {x : α} (f : α → β) (h : L[i]? = some x) : (L.map f)[i]? = some (f x):=by rw [List.getElem?_map,h]; rfl
structure VS (H : zAa) (L : List (AV × Sec)) (c : Nat) (P : Nat → Prop) : Prop where
 cb : c ≤ 1000000000
 ver : ∀ x ∈ L,GR 64 H 0 x.1 (verR x.2)
 ok : ∀ x ∈ L,x.2.Ok
 cap : ∀ x ∈ L,x.2.vers.length ≤ c
 out : ∀ x ∈ L,∀ b,slb x.1 = some b → ¬ P b
 inj : ∀ (i j : Nat) x y,L[i]? = some x → L[j]? = some y → i ≠ j → ∀ b,slb x.1 = some b → slb y.1 ≠ some b
def fpV (L : List (AV × Sec)) (b : Nat) : Prop:=∃ x ∈ L,slb x.1 = some b
theorem VS.lt {H : zAa} {L : List (AV × Sec)} {c : Nat} {P : Nat → Prop} (v : VS H L c P) {b : Nat} (h : fpV L b) : b < H.length:=by
 obtain ⟨x,hx,hb⟩:=h
 rcases v.ver x hx with ⟨_,h0⟩ | ⟨_,b',_,h0,hH⟩
 ·rw [h0] at hb; cases hb
 ·rw [h0] at hb; injection hb with hb; subst hb; exact zAl hH
theorem VS.fr {H H' : zAa} {L : List (AV × Sec)} {c : Nat} {P F : Nat → Prop} (v : VS H L c P) (a : Fr H H' F) (hn : ∀ b,fpV L b → ¬ F b) : VS H' L c P :=
 ⟨v.cb,fun x hx=>a.gr (v.ver x hx) fun b o s n c e he=>hn b ⟨x,hx,by rw [he]; rfl⟩,v.ok,v.cap,v.out,v.inj⟩
theorem zKx {α : Type} {L : List α} {i : Nat} {y x : α} (h : x ∈ L.set i y) : x = y ∨ x ∈ L:=by
 rcases List.mem_or_eq_of_mem_set h with h | h
 ·exact .inr h
 ·exact .inl h
theorem VS.set {H H' : zAa} {L : List (AV × Sec)} {c c' : Nat} {P F : Nat → Prop} (v : VS H L c P) (a : Fr H H' F) {i : Nat} {x y : AV × Sec} (hi : L[i]? = some x) (hF : ∀ b,fpV L b → F b → slb x.1 = some b)
  (hg : GR 64 H' 0 y.1 (verR y.2)) (hok : y.2.Ok) (hc : c ≤ c') (hcb : c' ≤ 1000000000) (hcap : y.2.vers.length ≤ c') (hP : ∀ b,slb y.1 = some b → H.length ≤ b ∧ ¬ P b) : VS H' (L.set i y) c' P:=by
 have lt : i < L.length:=(List.getElem?_eq_some_iff.1 hi).1
 have mem:=List.mem_of_getElem? hi
 have other : ∀ (j : Nat) z,L[j]? = some z → j ≠ i → ∀ b,slb z.1 = some b → ¬ F b:=fun j z hj hne b hb hf=>v.inj j i z x hj hi hne b hb (hF b ⟨z,List.mem_of_getElem? hj,hb⟩ hf)
 have cases' : ∀ (j : Nat) z,(L.set i y)[j]? = some z → (j = i ∧ z = y) ∨ (j ≠ i ∧ L[j]? = some z):=fun j z hj=>by
  by_cases e : j = i
  ·subst e; rw [List.getElem?_set_self lt] at hj; injection hj with hj; exact .inl ⟨rfl,hj.symm⟩
  ·rw [List.getElem?_set_ne (fun q=>e q.symm)] at hj; exact .inr ⟨e,hj⟩
 refine ⟨hcb,fun z hz=>?_,fun z hz=>?_,fun z hz=>?_,fun z hz b hb=>?_,fun j k z w hj hk hne b hb=>?_⟩
 ·obtain ⟨j,hj⟩:=List.getElem?_of_mem hz
  rcases cases' j z hj with ⟨_,rfl⟩ | ⟨hne,hj⟩
  ·exact hg
  ·exact a.gr (v.ver z (List.mem_of_getElem? hj)) fun b o s n c e he=>other j z hj hne b (by rw [he]; rfl)
 ·rcases zKx hz with rfl | hz
  ·exact hok
  ·exact v.ok z hz
 ·rcases zKx hz with rfl | hz
  ·exact hcap
  ·exact Nat.le_trans (v.cap z hz) hc
 ·rcases zKx hz with rfl | hz
  ·exact (hP b hb).2
  ·exact v.out z hz b hb
 ·rcases cases' j z hj with ⟨rfl,rfl⟩ | ⟨h1,hj2⟩
  ·rcases cases' k w hk with ⟨rfl,rfl⟩ | ⟨h2,hk2⟩
   ·exact absurd rfl hne
   ·intro hw
    have:=v.lt ⟨w,List.mem_of_getElem? hk2,hw⟩
    have:=(hP b hb).1
    omega
  ·rcases cases' k w hk with ⟨rfl,rfl⟩ | ⟨h2,hk2⟩
   ·intro hw
    have:=v.lt ⟨z,List.mem_of_getElem? hj2,hb⟩
    have:=(hP b hw).1
    omega
   ·exact v.inj j k z w hj2 hk2 hne b hb
theorem VS.at {H : zAa} {L : List (AV × Sec)} {c : Nat} {P : Nat → Prop} (v : VS H L c P) {i : Nat} {x : AV × Sec} (hi : L[i]? = some x) : GR 64 H 0 x.1 (verR x.2) ∧ x.2.Ok ∧ x.2.vers.length ≤ c :=
 ⟨v.ver x (List.mem_of_getElem? hi),v.ok x (List.mem_of_getElem? hi),v.cap x (List.mem_of_getElem? hi)⟩
structure DK (H : zAa) (p d c : Nat) (L : List (AV × Sec)) : Prop where
 ptr : cellsOf H p = some [.sl d 0 65 L.length L.length true]
 blk : H[d]? = some (.rw (L.map secR).flatten)
 np : p ≠ d
 sz : L.length ≤ 4096
 vs : VS H L c fun b=>b = p ∨ b = d
def fpD (p d : Nat) (L : List (AV × Sec)) (b : Nat) : Prop:=b = p ∨ b = d ∨ fpV L b
theorem DK.lt {H : zAa} {p d c : Nat} {L : List (AV × Sec)} (m : DK H p d c L) {b : Nat} (h : fpD p d L b) : b < H.length:=by
 rcases h with rfl | rfl | h
 ·exact zBn m.ptr
 ·exact zAl m.blk
 ·exact m.vs.lt h
theorem DK.fr {H H' : zAa} {p d c : Nat} {L : List (AV × Sec)} {F : Nat → Prop} (m : DK H p d c L) (a : Fr H H' F) (hn : ∀ b,fpD p d L b → ¬ F b) : DK H' p d c L :=
 ⟨a.cells m.ptr (hn p (.inl rfl)),a.at m.blk (hn d (.inr (.inl rfl))),m.np,m.sz,m.vs.fr a fun b hb=>hn b (.inr (.inr hb))⟩
theorem DK.row {H : zAa} {p d c : Nat} {L : List (AV × Sec)} (m : DK H p d c L) {i : Nat} {x : AV × Sec} (hi : L[i]? = some x) :
  ∃ cs,cellsOf H d = some cs ∧ cs[i * 65 + 64]? = some x.1 ∧ i * 65 + 64 ≤ cs.length ∧ (cs.drop (i * 65)).take 64 = u8s x.2.there ∧ i < 4096:=by
 have hr:=zCf secR hi
 have hl:=zM8 m.vs.ok
 have t:=(m.vs.at hi).2.1.t.1
 obtain ⟨q1,q2⟩:=zH1 hl hr 0 64 (by omega)
 rw [Nat.add_zero] at q1 q2
 refine ⟨_,zAj m.blk,?_,q2,?_,Nat.lt_of_lt_of_le (List.getElem?_eq_some_iff.1 hi).1 m.sz⟩
 ·rw [zH2 hl hr 64 (by omega)]
  unfold secR
  rw [List.getElem?_append_right (by rw [zAd,t]; exact Nat.le_refl _),zAd,t]; rfl
 ·rw [q1]
  unfold secR
  rw [List.drop_zero,List.take_append_of_le_length (by rw [zAd,t]; exact Nat.le_refl _),List.take_of_length_le (by rw [zAd,t]; exact Nat.le_refl _)]
theorem DK.putV {H : zAa} {d : Nat} {L : List (AV × Sec)} (hb : H[d]? = some (.rw (L.map secR).flatten)) (ok : ∀ x ∈ L,x.2.Ok) {i : Nat} {x : AV × Sec} (hi : L[i]? = some x) {v : AV} (hv : v.isCell = true) (vs : List (List Int)) :
  zAz H d (i * 65 + 64) [v] = some (H.set d (.rw ((L.set i (v,⟨x.2.there,vs⟩)).map secR).flatten)):=by
 have t:=(ok x (List.mem_of_getElem? hi)).t.1
 rw [zS8 hb (zM8 ok) (zCf secR hi) (by omega) hv,List.map_set]
 congr 5
 unfold secR
 rw [List.set_append_right _ _ (by rw [zAd,t]; exact Nat.le_refl _),zAd,t]; rfl
theorem DK.putT {H : zAa} {d : Nat} {L : List (AV × Sec)} (hb : H[d]? = some (.rw (L.map secR).flatten)) (ok : ∀ x ∈ L,x.2.Ok) {i : Nat} {x : AV × Sec} (hi : L[i]? = some x) {z : List Int} (hz : z.length = 64) :
  zAz H d (i * 65) (u8s z) = some (H.set d (.rw ((L.set i (x.1,⟨z,x.2.vers⟩)).map secR).flatten)):=by
 have t:=(ok x (List.mem_of_getElem? hi)).t.1
 have:=zS7 (f:=0) (v:=u8s z) hb (zM8 ok) (zCf secR hi) (by rw [zAd]; omega) (by rw [zAd]; omega) (zAo z)
 rw [Nat.add_zero] at this
 rw [this,List.map_set]
 congr 5
 unfold secR
 rw [List.take_zero,List.nil_append,Nat.zero_add,zAd,hz,List.drop_append_of_le_length (by rw [zAd,t]; exact Nat.le_refl _),List.drop_of_length_le (by rw [zAd,t]; exact Nat.le_refl _)]; rfl
theorem zMz {H : zAa} {v : AV} {s : Sec} (g : GR 64 H 0 v (verR s)) (ok : s.Ok) : lenSl v = some (.int .i64 (s.vers.length : Int)) ∧
  (s.vers = [] ∧ v = .nilSl ∨ ∃ b cs z,s.vers.getLast? = some z ∧ v = .sl b 0 64 s.vers.length s.vers.length false ∧ 1 ≤ s.vers.length ∧ cellsOf H b = some cs ∧ (s.vers.length - 1) * 64 + 64 ≤ cs.length ∧ (cs.drop ((s.vers.length - 1) * 64)).take 64 = u8s z):=by
 have hl : (verR s).length = s.vers.length:=by unfold verR; simp
 refine ⟨by rw [g.len,hl],?_⟩
 rcases g with ⟨h1,h2⟩ | ⟨h1,b,_,rfl,hH⟩
 ·exact .inl ⟨by unfold verR at h1; simpa using h1,h2⟩
 ·have ne : s.vers ≠ []:=fun e=>h1 (by unfold verR; rw [e]; rfl)
  obtain ⟨z,hz⟩ : ∃ z,s.vers.getLast? = some z:=⟨_,List.getLast?_eq_some_getLast ne⟩
  have pos : 1 ≤ s.vers.length:=by cases hx : s.vers with | nil=>exact absurd hx ne | cons _ _=>simp
  have hz2 : s.vers[s.vers.length - 1]? = some z:=by rw [← List.getLast?_eq_getElem?]; exact hz
  obtain ⟨q1,q2⟩:=zH1 (zJu ok) (zCf u8s hz2) 0 64 (by omega)
  rw [Nat.add_zero] at q1 q2
  refine .inr ⟨b,_,z,hz,by rw [hl],pos,zAj hH,q2,?_⟩
  rw [q1,List.drop_zero,List.take_of_length_le (by rw [zAd,(ok.v z (List.mem_of_getElem? hz2)).1]; exact Nat.le_refl _)]
def setD (H : zAa) (d : Nat) (L : List (AV × Sec)) : zAa:=H.set d (.rw (L.map secR).flatten)
theorem DK.settle {H : zAa} {p d c : Nat} {L : List (AV × Sec)} (m : DK H p d c L) {i : Nat} {x : AV × Sec} (hi : L[i]? = some x) {z : List Int} (hz : B64 z) : DK (setD H d (L.set i (.nilSl,⟨z,[]⟩))) p d c (L.set i (.nilSl,⟨z,[]⟩)):=by
 have hd:=zAl m.blk
 have f : Fr H (setD H d (L.set i (.nilSl,⟨z,[]⟩))) (· = d):=Fr.set _ _ rfl
 refine ⟨?_,zA4 _ _ _ hd,m.np,by rw [List.length_set]; exact m.sz,?_⟩
 ·rw [f.cells m.ptr m.np,List.length_set]
 ·exact m.vs.set f hi (fun b hb he=>absurd (.inr he) (let ⟨y,hy,h⟩:=hb; m.vs.out y hy b h)) (.inl ⟨rfl,rfl⟩) (Sec.Ok.settled hz) (Nat.le_refl _) m.vs.cb (Nat.zero_le _) (fun b hb=>by cases hb)
theorem zQt {L : List (AV × Sec)} {i : Nat} {y : AV × Sec} {b : Nat} (h : fpV (L.set i y) b) : slb y.1 = some b ∨ fpV L b:=by
 obtain ⟨x,hx,hb⟩:=h
 rcases zKx hx with rfl | hx
 ·exact .inl hb
 ·exact .inr ⟨x,hx,hb⟩
theorem Fr.kill (v : AV) (H : zAa) : Fr H (zI0 v H) fun b=>slb v = some b:=⟨by rw [zD3]; exact Nat.le_refl _,fun b _ hn=>zPb v H b hn⟩
theorem zDx {H : zAa} {L : List (AV × Sec)} {c : Nat} {P : Nat → Prop} (v : VS H L c P) : ∀ a ∈ (L.map secR).flatten,a.under H.length = true:=by
 intro a ha
 obtain ⟨r,hr,ha⟩:=List.mem_flatten.1 ha
 obtain ⟨x,hx,rfl⟩:=List.mem_map.1 hr
 unfold secR at ha
 rcases List.mem_append.1 ha with ha | ha
 ·exact zOb _ _ a ha
 ·simp only [List.mem_cons,List.not_mem_nil,or_false] at ha
  subst ha
  rcases v.ver x hx with ⟨_,h0⟩ | ⟨_,b,_,h0,hH⟩
  ·rw [h0]; rfl
  ·rw [h0]; simp only [AV.under,decide_eq_true_eq]; exact zAl hH
theorem DK.more {H : zAa} {p d c : Nat} {L : List (AV × Sec)} (m : DK H p d c L) {i : Nat} {x : AV × Sec} (hi : L[i]? = some x) {z : List Int} (hz : B64 z) (hc : c + 1 ≤ 1000000000) (B : zAa) {y : AV} (hx : zFm y = some 1) (hy : zBx 64 1 y (H ++ B) = some (u8s z)) :
  ∃ H3 H4 v,app (ty 64 true 64 (rep 64 (.int .u8 0))) x.1 y (H ++ B) = some (v,H3) ∧ v.isCell = true ∧ zA7 v = some [v] ∧ zAz H3 d (i * 65 + 64) [v] = some H4 ∧ DK H4 p d (c + 1) (L.set i (v,⟨x.2.there,x.2.vers ++ [z]⟩)) ∧ (∃ b,slb v = some b ∧ H.length ≤ b) ∧ Fr H H4 (fun b=>b = d ∨ slb x.1 = some b) ∧
   ∀ w : AV,trim H (some (w,H4)) = some (w,H4):=by
 obtain ⟨gv,ok,cap⟩:=m.vs.at hi
 have hd:=zAl m.blk
 have lv : (verR x.2).length = x.2.vers.length:=by unfold verR; simp
 have g2 : GR 64 (H ++ B) 0 x.1 (verR x.2):=gv.mono B
 have ha:=GR.app2 (k:=64) (by omega) (d:=ty 64 true 64 (rep 64 (.int .u8 0))) rfl (by decide) g2 (zJu ok) hx hy (zAo z) (by rw [lv]; unfold roomy; show (_ + 1) * 64 ≤ _; omega)
 have nd : slb x.1 ≠ some d:=fun h=>m.vs.out x (List.mem_of_getElem? hi) d h (.inr rfl)
 have np : slb x.1 ≠ some p:=fun h=>m.vs.out x (List.mem_of_getElem? hi) p h (.inl rfl)
 have hb3 : (zI0 x.1 (H ++ B) ++ [.rw (verR x.2 ++ [u8s z]).flatten])[d]? = some (.rw (L.map secR).flatten):=by
  rw [List.getElem?_append_left (by rw [zD3,List.length_append]; omega),zPb _ _ _ nd,List.getElem?_append_left hd,m.blk]
 have hl : (H ++ B).length = H.length + B.length:=List.length_append
 have w:=DK.putV hb3 m.vs.ok hi (v:=.sl (H ++ B).length 0 64 ((verR x.2).length + 1) ((verR x.2).length + 1) false) rfl (x.2.vers ++ [z])
 have f : Fr H (zI0 x.1 (H ++ B) ++ [.rw (verR x.2 ++ [u8s z]).flatten]) (fun b=>b = d ∨ slb x.1 = some b) :=
  ((Fr.adds ⟨B,rfl⟩ _).trans ((Fr.kill x.1 (H ++ B)).trans (Fr.adds ⟨_,rfl⟩ (fun _=>False)) (fun _ _ h=>h.elim)) (fun b _ h=>.inr h))
 have f4:=f.trans (Fr.set _ (.rw ((L.set i (.sl (H ++ B).length 0 64 ((verR x.2).length + 1) ((verR x.2).length + 1) false,⟨x.2.there,x.2.vers ++ [z]⟩)).map secR).flatten) (F:=(· = d)) rfl) (fun b _ h=>.inl h)
 refine ⟨_,_,_,ha,rfl,rfl,w,⟨?_,zA4 _ _ _ (zAl hb3),m.np,by rw [List.length_set]; exact m.sz,?_⟩,⟨_,rfl,by omega⟩,f4,fun w'=>?_⟩
 ·rw [f4.cells m.ptr (by intro h; rcases h with h | h; exact m.np h; exact np h),List.length_set]
 ·refine m.vs.set f4 hi (fun b hb he=>?_) (.inr ⟨by simp [verR],(H ++ B).length,Nat.zero_le _,?_,?_⟩) (ok.more hz) (Nat.le_succ _) hc (by simp; omega) (fun b hb=>?_)
  ·rcases he with he | he
   ·obtain ⟨y,hy,h⟩:=hb; exact absurd (.inr he) (m.vs.out y hy b h)
   ·exact he
  ·simp [verR]
  ·rw [List.getElem?_set_ne (by omega),List.getElem?_append_right (by rw [zD3]; exact Nat.le_refl _),zD3,Nat.sub_self]
   simp [verR]
  ·injection hb with hb
   subst hb
   have:=zBn m.ptr
   exact ⟨by omega,by omega⟩
 ·refine zEb d _ _ (.sl (H ++ B).length 0 64 ((verR x.2).length + 1) ((verR x.2).length + 1) false) m.blk (zA4 _ _ _ (zAl hb3)) ?_ (by simp only [AV.under,decide_eq_false_iff_not]; omega) (zDx m.vs)
  show _ ∈ ((L.set i _).map secR).flatten
  refine List.mem_flatten.2 ⟨_,List.mem_map.2 ⟨_,List.mem_of_getElem? (List.getElem?_set_self (List.getElem?_eq_some_iff.1 hi).1),rfl⟩,?_⟩
  unfold secR; simp
end Go.Proofs.YtbmmnfeeapnhkaaGreat.Eng
end
section
namespace Go.Proofs.YtbmmnfeeapnhkaaGreat.Eng
open Go
structure Src (k : Nat) (H : zAa) (v : AV) (n : Nat) (cs : List AV) : Prop where
 len : lenSl v = some (.int .i64 (n : Int))
 sl : zFm v = some n
 cells : zBx k n v H = some cs
 clen : cs.length = n * k
 cell : cs.all AV.isCell = true
theorem Src.fr {k : Nat} {H H' : zAa} {v : AV} {n : Nat} {cs : List AV} {F : Nat → Prop} (s : Src k H v n cs) (a : Fr H H' F) (hn : ∀ b,slb v = some b → ¬ F b) : Src k H' v n cs:=by
 refine ⟨s.len,s.sl,?_,s.clen,s.cell⟩
 have h:=s.cells
 cases v with
 | sl b o z l c e =>
  simp only [zBx,zC6] at h ⊢
  by_cases hz : z = k
  ·rw [if_pos hz] at h ⊢
   obtain ⟨C,hC,h2⟩:=Option.bind_eq_some_iff.1 h
   rw [a.cells hC (hn b rfl)]; exact h2
  ·rw [if_neg hz] at h; cases h
 | nilSl=>exact h
 | str s=>exact h
 | _=>cases h
theorem Src.adds {k : Nat} {H : zAa} {v : AV} {n : Nat} {cs : List AV} (s : Src k H v n cs) (B : zAa) : Src k (H ++ B) v n cs:=s.fr (Fr.adds ⟨B,rfl⟩ (fun _=>False)) (fun _ _ h=>h)
theorem Src.nil (k : Nat) (H : zAa) : Src k H .nilSl 0 []:=⟨rfl,rfl,rfl,by simp,rfl⟩
theorem Src.block {k : Nat} {H : zAa} {b n c : Nat} {e : Bool} {cs : List AV} (h : cellsOf H b = some cs) (hl : cs.length = n * k) (hc : cs.all AV.isCell = true) : Src k H (.sl b 0 k n c e) n cs:=by
 refine ⟨rfl,rfl,?_,hl,hc⟩
 simp only [zBx,zC6,if_true,h,Option.bind_some,Nat.zero_add,List.drop_zero]
 rw [if_pos (by omega),List.take_of_length_le (by omega)]
theorem GR.src {k : Nat} {H : zAa} {B : Nat} {l : AV} {rows : List (List AV)} (g : GR k H B l rows) (hr : ∀ r ∈ rows,r.length = k) (hc : rows.flatten.all AV.isCell = true) : Src k H l rows.length rows.flatten:=by
 rcases g with ⟨rfl,rfl⟩ | ⟨_,b,_,rfl,hH⟩
 ·exact Src.nil k H
 ·exact Src.block (zAj hH) (zDn hr) hc
theorem BS.src {H : zAa} {v : AV} {zs : List Int} (b : BS H v zs) : Src 1 H v zs.length (u8s zs):=⟨b.len,b.read.1,b.read.2,by rw [zAd]; omega,zAo zs⟩
theorem zVf (A Z xs : List AV) (h : xs.length ≤ Z.length) : zBp (A ++ Z) A.length xs = A ++ xs ++ Z.drop xs.length:=by
 by_cases h1 : xs.length = 1
 ·match xs,h1 with
  | [x],_ =>
   rw [zAx,List.set_append_right _ _ (Nat.le_refl _),Nat.sub_self]
   cases Z with
   | nil=>simp at h
   | cons z Z=>simp
 ·rw [zAs _ _ _ h1,List.take_left,List.drop_append_of_le_length' (by omega)]
  congr 2
  omega
where
 List.drop_append_of_le_length' {A Z : List AV} {n : Nat} (h : A.length ≤ n) : (A ++ Z).drop n = Z.drop (n - A.length):=by
  rw [List.drop_append]
  rw [List.drop_of_length_le h,List.nil_append]
theorem app_in {k : Nat} (hk : 1 ≤ k) {d : TyD} (hd : d.size = k) {H : zAa} {b m n j : Nat} {A Z cs : List AV} {y : AV} (hH : H[b]? = some (.rw (A ++ Z))) (hA : A.length = m * k) (s : Src k H y j cs) (hZ : cs.length ≤ Z.length) (hm : m + j ≤ n) :
  app d (.sl b 0 k m n false) y H = some (.sl b 0 k (m + j) n false,H.set b (.rw (A ++ cs ++ Z.drop cs.length))):=by
 unfold app
 rw [s.sl]
 simp only [Option.bind_some,hd,s.cells]
 unfold zDd
 simp only [hd]
 rw [if_neg (by omega)]
 by_cases h0 : j = 0
 ·subst h0
  have : cs = []:=List.eq_nil_of_length_eq_zero (by rw [s.clen]; omega)
  subst this
  rw [if_pos rfl]
  simp only [List.append_nil,List.length_nil,List.drop_zero,Nat.add_zero,Option.some.injEq,Prod.mk.injEq,true_and]
  apply List.ext_getElem?
  intro i
  by_cases e : i = b
  ·subst e; rw [List.getElem?_set_self (zAl hH),hH]
  ·rw [List.getElem?_set_ne (fun q=>e q.symm)]
 ·rw [if_neg h0,if_pos hm]
  rw [zAv hH,if_pos ⟨by rw [List.length_append]; omega,s.cell⟩,Nat.zero_add,← hA,zVf _ _ _ hZ]
  rfl
theorem zS3 {d : TyD} {H : zAa} {y : AV} {k : Nat} {cs : List AV} (hd : d.size = k) (s : Src k H y 0 cs) : app d .nilSl y H = some (.nilSl,H):=by
 unfold app
 rw [s.sl]
 simp only [Option.bind_some,hd,s.cells]
 rfl
theorem zS4 {d : TyD} {H : zAa} {n : Nat} {k : Nat} (hk : 1 ≤ k) (hd : d.size = k) (hb : 1 ≤ d.bytes) (h1 : 1 ≤ n) (hn : n * d.bytes ≤ roomy) : appN d .nilSl (.int .i64 (n : Int)) H = some (.sl H.length 0 k n n false,H ++ [.rw (List.replicate n d.zero).flatten]):=by
 unfold appN zDd
 simp only [Int.toNat_natCast]
 have : ((n : Int) * d.bytes) ≤ ((roomy : Nat) : Int):=by exact_mod_cast hn
 rw [if_pos ⟨by omega,hb,this⟩,if_neg (by omega),if_pos ⟨by omega,hb,hn⟩,hd]
theorem zJj {n k : Nat} {z : List AV} (h : z.length = k) : (List.replicate n z).flatten.length = n * k:=by simp [h]
theorem zTd {n : Nat} {Q : T → zAa → Prop} (h : ∀ t : T,t.length = n → ∃ K,Q t K) : ∃ KK : T → zAa,∀ t : T,t.length = n → Q t (KK t):=by
 have h2 : ∀ t : T,∃ K,t.length = n → Q t K:=fun t=>by
  by_cases e : t.length = n
  ·obtain ⟨K,hK⟩:=h t e; exact ⟨K,fun _=>hK⟩
  ·exact ⟨[],fun q=>absurd q e⟩
 exact ⟨fun t=>(h2 t).choose,fun t=>(h2 t).choose_spec⟩
theorem zC2 (t : T) (i j : Nat) (v : AV) : getT (t.set i v) j = if i = j then (if i < t.length then v else .undef) else getT t j:=by
 unfold getT
 by_cases h : i = j
 ·subst h
  rw [if_pos rfl]
  by_cases hl : i < t.length
  ·rw [if_pos hl,List.getElem?_set_self hl]; rfl
  ·rw [if_neg hl,List.getElem?_eq_none (by rw [List.length_set]; omega)]; rfl
 ·rw [if_neg h,List.getElem?_set_ne h]
end Go.Proofs.YtbmmnfeeapnhkaaGreat.Eng
end
section
set_option linter.unusedVariables false
namespace Go.Proofs.YtbmmnfeeapnhkaaGreat.Eng
open Go
def zWj (zs : List Int) (n : Nat) : Nat:=match zs with | []=>0 | z :: _=>(z % ((n : Int) + 1)).toNat
def zDp (zs : List Int) (s : Sec) : Sec:=if s.vers = [] then s else ⟨((s.there :: s.vers)[zWj zs s.vers.length]?).getD [],[]⟩
def zJq (zs : List Int) (s : Sec) : List Int:=if s.vers = [] then zs else zs.drop 1
def zCk : List Sec → List Int → List Sec
 | [],_=>[]
 | s :: ss,zs=>zDp zs s :: zCk ss (zJq zs s)
def zEo : List Sec → List Int → Nat → List Int
 | _,zs,0=>zs
 | [],zs,_ + 1=>zs
 | s :: ss,zs,i + 1=>zEo ss (zJq zs s) i
theorem zFp : ∀ {ss : List Sec} {zs : List Int} {i : Nat} {s : Sec},ss[i]? = some s → (zCk ss zs)[i]? = some (zDp (zEo ss zs i) s) ∧ zEo ss zs (i + 1) = zJq (zEo ss zs i) s
 | [],_,_,_,h=>by simp at h
 | a :: ss,zs,0,s,h=>by simp at h; subst h; exact ⟨rfl,by cases ss <;> rfl⟩
 | a :: ss,zs,i + 1,s,h=>by
  have:=zFp (ss:=ss) (zs:=zJq zs a) (i:=i) (s:=s) (by simpa using h)
  exact this
theorem zC4 : ∀ (ss : List Sec) (zs : List Int),(zCk ss zs).length = ss.length
 | [],_=>rfl
 | s :: ss,zs=>by simp [zCk,zC4 ss]
def crL (L : List (AV × Sec)) (zs : List Int) (i : Nat) : List (AV × Sec):=((zCk (L.map (·.2)) zs).take i).map (fun s=>(AV.nilSl,s)) ++ L.drop i
theorem crL_len (L : List (AV × Sec)) (zs : List Int) {i : Nat} (h : i ≤ L.length) : (crL L zs i).length = L.length:=by unfold crL; simp [zC4]; omega
theorem crL_get {L : List (AV × Sec)} {zs : List Int} {i : Nat} (h : i < L.length) : (crL L zs i)[i]? = L[i]?:=by
 unfold crL
 rw [List.getElem?_append_right (by simp [zC4]; omega),List.getElem?_drop]
 congr 1
 simp [zC4]; omega
theorem zSp {L : List (AV × Sec)} {zs : List Int} {i : Nat} {x : AV × Sec} (h : L[i]? = some x) : crL L zs (i + 1) = (crL L zs i).set i (.nilSl,zDp (zEo (L.map (·.2)) zs i) x.2):=by
 have lt:=(List.getElem?_eq_some_iff.1 h).1
 have e:=(List.getElem?_eq_some_iff.1 h).2
 obtain ⟨g,_⟩:=zFp (zs:=zs) (zCf (fun y : AV × Sec=>y.2) h)
 unfold crL
 rw [List.take_add_one,g,List.map_append,List.set_append_right _ _ (by simp [zC4]; omega),List.append_assoc,List.drop_eq_getElem_cons lt,e]
 rw [show i - ((((zCk (L.map (·.2)) zs)).take i).map (fun s=>(AV.nilSl,s))).length = 0 by simp [zC4]; omega]
 rfl
theorem crL_all (L : List (AV × Sec)) (zs : List Int) : crL L zs L.length = (zCk (L.map (·.2)) zs).map (fun s=>(AV.nilSl,s)):=by
 unfold crL
 rw [List.take_of_length_le (by simp [zC4]),List.drop_length,List.append_nil]
def zDz (v : AV) : Prop:=∀ b o s n l e,v = .sl b o s n l e → n ≤ l
theorem BS.fr {H H' : zAa} {F : Nat → Prop} {v : AV} {zs : List Int} (h : BS H v zs) (a : Fr H H' F) (hn : ∀ b,slb v = some b → ¬ F b) : BS H' v zs:=by
 rcases h with h | ⟨b,o,l,e,cs,rfl,hc,h⟩
 ·exact .inl h
 ·exact .inr ⟨b,o,l,e,cs,rfl,a.cells hc (hn b rfl),h⟩
theorem BS.tail {H : zAa} {v : AV} {z : Int} {zs : List Int} (h : BS H v (z :: zs)) (hl : zDz v) : ∃ v',zDa 1 v (some (.int .i64 1)) none none = some v' ∧ BS H v' zs ∧ zDz v' ∧ slb v' = slb v ∧ v'.isCell = true ∧ zA7 v' = some [v']:=by
 rcases h with ⟨_,h⟩ | ⟨b,o,l,e,cs,rfl,hc,hg,hlen⟩
 ·cases h
 ·have h1:=hl b o 1 _ l e rfl
  simp only [List.length_cons] at h1 hlen hg
  refine ⟨.sl b (o + 1) 1 zs.length (l - 1) e,?_,.inr ⟨b,o + 1,l - 1,e,cs,rfl,hc,fun i y hy=>?_,by omega⟩,?_,rfl,rfl,rfl⟩
  ·simp only [zDa,asI,Option.bind_some,List.length_cons]
   rw [if_neg (by simp),if_pos ⟨by omega,by omega,by omega⟩]
   simp
  ·rw [show o + 1 + i = o + (i + 1) by omega]
   exact hg (i + 1) y (by simpa using hy)
  ·intro b' o' s n l' e' h
   injection h with _ _ _ h4 h5
   omega
theorem zJy {C : T → Prop} {Q : T → zAa → Prop} (h : ∀ t : T,C t → ∃ K,Q t K) : ∃ KK : T → zAa,∀ t : T,C t → Q t (KK t):=by
 have h2 : ∀ t : T,∃ K,C t → Q t K:=fun t=>by
  by_cases e : C t
  ·obtain ⟨K,hK⟩:=h t e; exact ⟨K,fun _=>hK⟩
  ·exact ⟨[],fun q=>absurd q e⟩
 exact ⟨fun t=>(h2 t).choose,fun t=>(h2 t).choose_spec⟩
structure CrI (H : zAa) (p d c : Nat) (L : List (AV × Sec)) (zs : List Int) (lb : ABlk) (i j : Nat) (K : zAa) : Prop where
 len : K.length = H.length + 3
 lp : K[H.length + 2]? = some lb
 bx : cellsOf K (H.length + 1) = some [.ptr p 0]
 pk : ∃ w,K[H.length]? = some (.rw [w]) ∧ BS H w (zEo (L.map (·.2)) zs j) ∧ zDz w ∧ (∀ b,slb w = some b → b < H.length ∧ b ≠ d) ∧ IsU8 (zEo (L.map (·.2)) zs j)
 dk : DK K p d c (crL L zs i)
 old : ∀ b,b < H.length → b ≠ d → K[b]? = H[b]?
theorem CrI.end {H : zAa} {p d c : Nat} {L : List (AV × Sec)} {zs : List Int} {i : Nat} {K G B : zAa} {t : T} {ps : List Nat} {ka kb : Code} {lb : ABlk} (hd : d < H.length) (hp : p < H.length) (y : CrI H p d c L zs (.loop ⟨.ready,.normal,t,ps,ka,kb⟩) i i K) (g : CrI H p d c L zs lb i (i + 1) G) {x : AV × Sec} (hx : L[i]? = some x) (hx2 : (crL L zs i)[i]? = some x) {z : List Int} (hz : B64 z) (hs : zDp (zEo (L.map (·.2)) zs i) x.2 = ⟨z,[]⟩) :
  ∃ K',CrI H p d c L zs (.loop ⟨.ready,.normal,t,ps,ka,kb⟩) (i + 1) (i + 1) K' ∧ trim K (some (.bool true,(setD (G ++ B) d ((crL L zs i).set i (.nilSl,⟨z,[]⟩))).set (H.length + 2) (.loop ⟨.ready,.normal,t,ps,ka,kb⟩))) = some (.bool true,K'):=by
 obtain ⟨w,w1,w2,w3,w4,w5⟩:=g.pk
 have gl:=g.len
 have kl:=y.len
 have m2:=g.dk.settle hx2 hz
 have e1 : (setD (G ++ B) d ((crL L zs i).set i (.nilSl,⟨z,[]⟩))).set (H.length + 2) (.loop ⟨.ready,.normal,t,ps,ka,kb⟩) = (setD G d ((crL L zs i).set i (.nilSl,⟨z,[]⟩))).set (H.length + 2) (.loop ⟨.ready,.normal,t,ps,ka,kb⟩) ++ B:=by
  unfold setD
  rw [List.set_append_left _ _ (by omega),List.set_append_left _ _ (by rw [List.length_set]; omega)]
 have l2 : (setD G d ((crL L zs i).set i (.nilSl,⟨z,[]⟩))).length = H.length + 3:=by unfold setD; rw [List.length_set]; exact gl
 have l3 : ((setD G d ((crL L zs i).set i (.nilSl,⟨z,[]⟩))).set (H.length + 2) (.loop ⟨.ready,.normal,t,ps,ka,kb⟩)).length = H.length + 3:=by rw [List.length_set]; exact l2
 have f2 : Fr (setD G d ((crL L zs i).set i (.nilSl,⟨z,[]⟩))) ((setD G d ((crL L zs i).set i (.nilSl,⟨z,[]⟩))).set (H.length + 2) (.loop ⟨.ready,.normal,t,ps,ka,kb⟩)) (· = H.length + 2):=Fr.set _ _ rfl
 have at2 : ∀ b,b ≠ d → b ≠ H.length + 2 → ((setD G d ((crL L zs i).set i (.nilSl,⟨z,[]⟩))).set (H.length + 2) (.loop ⟨.ready,.normal,t,ps,ka,kb⟩))[b]? = G[b]?:=fun b h1 h2=>by
  rw [zAf _ _ _ _ h2]; unfold setD; rw [zAf _ _ _ _ h1]
 have nf : ∀ b,fpD p d ((crL L zs i).set i (.nilSl,⟨z,[]⟩)) b → ¬ (b = H.length + 2):=fun b hb=>by
  rcases hb with rfl | rfl | hb
  ·omega
  ·omega
  ·rcases zQt hb with hb | ⟨x',hx',hb⟩
   ·cases hb
   ·rcases y.dk.vs.ver x' hx' with ⟨_,h0⟩ | ⟨_,b',_,h0,hH⟩
    ·rw [h0] at hb; cases hb
    ·rw [h0] at hb; injection hb with hb; subst hb
     intro e; subst e
     rw [y.lp] at hH; cases hH
 refine ⟨(setD G d ((crL L zs i).set i (.nilSl,⟨z,[]⟩))).set (H.length + 2) (.loop ⟨.ready,.normal,t,ps,ka,kb⟩),⟨l3,zA4 _ _ _ (by omega),?_,⟨w,?_,w2,w3,w4,w5⟩,?_,fun b hb hne=>?_⟩,?_⟩
 ·exact (zDv (at2 _ (by omega) (by omega))).trans g.bx
 ·exact (at2 _ (by omega) (by omega)).trans w1
 ·rw [zSp hx,hs]
  exact m2.fr f2 nf
 ·exact (at2 b hne (by omega)).trans (g.old b hb hne)
 ·rw [e1,zE1 (by rw [List.length_append]; omega) rfl (fun b k' hb hk=>?_)]
  ·rw [kl,← l3,List.take_left]
  ·rw [List.getElem?_append_left (by omega)] at hk
   rw [kl] at hb
   have hb2:=hb
   by_cases e : b = H.length + 2
   ·subst e
    rw [zA4 _ _ _ (by omega)] at hk
    exact .inl (by rw [y.lp]; exact hk)
   ·by_cases ed : b = d
    ·subst ed
     rw [zAf _ _ _ _ e,m2.blk] at hk
     injection hk with hk; subst hk
     have:=zDx m2.vs
     rw [l2] at this
     rw [kl]
     exact .inr this
    ·rw [at2 b ed e] at hk
     by_cases e3 : b < H.length
     ·exact .inl (by rw [y.old b e3 ed,← g.old b e3 ed]; exact hk)
     ·by_cases e4 : b = H.length
      ·subst e4
       rw [w1] at hk
       injection hk with hk; subst hk
       refine .inr fun a ha=>?_
       simp only [ABlk.vals,List.mem_cons,List.not_mem_nil,or_false] at ha
       subst ha
       rcases w2 with ⟨rfl,_⟩ | ⟨b',o,l,e,cs,rfl,_⟩
       ·rfl
       ·have:=(w4 b' rfl).1
        simp only [AV.under,decide_eq_true_eq]; omega
      ·obtain rfl : b = H.length + 1:=by omega
       have h1:=y.bx
       have h2:=g.bx
       unfold cellsOf at h2
       rw [hk] at h2
       refine .inr fun a ha=>?_
       have : k'.vals = [.ptr p 0]:=by cases k' <;> simp_all [ABlk.vals]
       rw [this] at ha
       simp only [List.mem_cons,List.not_mem_nil,or_false] at ha
       subst ha
       simp only [AV.under,decide_eq_true_eq]; omega
end Go.Proofs.YtbmmnfeeapnhkaaGreat.Eng
end
section
set_option linter.unusedVariables false
namespace Go.Proofs.YtbmmnfeeapnhkaaGreat.Eng
open Go
theorem zQn {G H' : zAa} {d : Nat} {k : ABlk} (kk : KeepB G H' [d]) (h : H'[d]? = some k) : H' = G.set d k:=by
 apply List.ext_getElem?
 intro i
 by_cases e : i = d
 ·subst e; rw [h,List.getElem?_set_self (by rw [← kk.1]; exact zAl h)]
 ·rw [List.getElem?_set_ne (fun q=>e q.symm),kk.2 i (by simpa using e)]
theorem zM7 {H X : zAa} {d : Nat} (k : ABlk) (h : d < H.length) : (H ++ X).set d k = H.set d k ++ X:=List.set_append_left _ _ h
theorem DK.dirty {H K : zAa} {p d c c' : Nat} {L L' : List (AV × Sec)} (m : DK H p d c L) (m' : DK K p d c' L') {x : AV × Sec} (hx : x ∈ L') {b : Nat} (hb : slb x.1 = some b) (hl : H.length ≤ b) (w : AV) : trim H (some (w,K)) = some (w,K):=by
 refine zEb d _ _ x.1 m.blk m'.blk ?_ ?_ (zDx m.vs)
 ·show _ ∈ (L'.map secR).flatten
  exact List.mem_flatten.2 ⟨_,List.mem_map.2 ⟨_,hx,rfl⟩,by unfold secR; simp⟩
 ·cases h : x.1 with
  | sl b' o z l c e =>
   rw [h] at hb
   injection hb with hb
   subst hb
   simp only [AV.under,decide_eq_false_iff_not]; omega
  | _=>rw [h] at hb; cases hb
structure RgS where
 a : List Sec
 b : List Sec
 fuse : Int
 down : Bool
 done : Int
def RgS.dk (r : RgS) (dev : Int) : List Sec:=if dev = 0 then r.a else if dev = 1 then r.b else []
def RgS.put (r : RgS) (dev : Int) (l : List Sec) : RgS:=if dev = 0 then { r with a:=l } else if dev = 1 then { r with b:=l } else r
def zHg : List Int:=List.replicate 64 0
def RgS.read (r : RgS) (dev i : Int) : List Int × Int :=
 if 0 ≤ i ∧ i < (r.dk dev).length then (if r.down then (zHg,14) else ((((r.dk dev)[i.toNat]?).getD zsec).last,0)) else (zHg,1)
def RgS.pass (r : RgS) : RgS × Int :=
 if r.down ∨ r.fuse = 0 then ({ r with down:=true },14) else ({ r with fuse:=if r.fuse > 0 then IntKind.i64.wrap (r.fuse - 1) else r.fuse,done:=IntKind.i64.wrap (r.done + 1) },0)
def RgS.write (r : RgS) (dev i : Int) (z : List Int) : RgS × Int :=
 if 0 ≤ i ∧ i < (r.dk dev).length then
  (if r.pass.2 = 0 then (r.pass.1.put dev ((r.dk dev).modify i.toNat fun s=>⟨s.there,s.vers ++ [z]⟩),0) else r.pass)
 else (r,1)
def settled (s : Sec) : Sec:=⟨s.last,[]⟩
def RgS.flush (r : RgS) (dev : Int) : RgS × Int :=
 if dev = 0 ∨ dev = 1 then (if r.pass.2 = 0 then (r.pass.1.put dev ((r.dk dev).map settled),0) else r.pass) else (r,1)
def RgS.crash (r : RgS) (za zb : List Int) : RgS:={ r with a:=zCk r.a za,b:=zCk r.b zb,fuse:=-1,down:=false }
def zBb (p0 p1 : Nat) (r : RgS) : List AV:=[.ptr p0 0,.ptr p1 0,.int .i64 r.fuse,.bool r.down,.int .i64 r.done]
structure RG (H : zAa) (p p0 d0 p1 d1 c : Nat) (L0 L1 : List (AV × Sec)) (r : RgS) : Prop where
 blk : H[p]? = some (.rw (zBb p0 p1 r))
 k0 : DK H p0 d0 c L0
 k1 : DK H p1 d1 c L1
 e0 : L0.map (·.2) = r.a
 e1 : L1.map (·.2) = r.b
 dis : ∀ b,fpD p0 d0 L0 b → ¬ fpD p1 d1 L1 b
 n0 : ¬ fpD p0 d0 L0 p
 n1 : ¬ fpD p1 d1 L1 p
def fpR (p p0 d0 p1 d1 : Nat) (L0 L1 : List (AV × Sec)) (b : Nat) : Prop:=b = p ∨ fpD p0 d0 L0 b ∨ fpD p1 d1 L1 b
section
variable {H H' : zAa} {p p0 d0 p1 d1 c : Nat} {L0 L1 : List (AV × Sec)} {r : RgS} (m : RG H p p0 d0 p1 d1 c L0 L1 r)
include m
theorem RG.fr {F : Nat → Prop} (a : Fr H H' F) (hn : ∀ b,fpR p p0 d0 p1 d1 L0 L1 b → ¬ F b) : RG H' p p0 d0 p1 d1 c L0 L1 r :=
 ⟨a.at m.blk (hn p (.inl rfl)),m.k0.fr a fun b hb=>hn b (.inr (.inl hb)),m.k1.fr a fun b hb=>hn b (.inr (.inr hb)),m.e0,m.e1,m.dis,m.n0,m.n1⟩
theorem RG.adds (B : zAa) : RG (H ++ B) p p0 d0 p1 d1 c L0 L1 r:=m.fr (Fr.adds ⟨B,rfl⟩ (fun _=>False)) (fun _ _ h=>h)
theorem RG.lt {b : Nat} (h : fpR p p0 d0 p1 d1 L0 L1 b) : b < H.length:=by
 rcases h with rfl | h | h
 ·exact zAl m.blk
 ·exact m.k0.lt h
 ·exact m.k1.lt h
theorem RG.len0 : r.a.length = L0.length:=by rw [← m.e0,List.length_map]
theorem RG.len1 : r.b.length = L1.length:=by rw [← m.e1,List.length_map]
theorem RG.set (r' : RgS) (ha : r'.a = r.a) (hb : r'.b = r.b) : RG (H.set p (.rw (zBb p0 p1 r'))) p p0 d0 p1 d1 c L0 L1 r':=by
 have f : Fr H (H.set p (.rw (zBb p0 p1 r'))) (· = p):=Fr.set _ _ rfl
 exact ⟨zA4 _ _ _ (zAl m.blk),m.k0.fr f fun b hb e=>m.n0 (e ▸ hb),m.k1.fr f fun b hb e=>m.n1 (e ▸ hb),m.e0.trans ha.symm,m.e1.trans hb.symm,m.dis,m.n0,m.n1⟩
theorem RG.turn0 {c' : Nat} {L0' : List (AV × Sec)} {F : Nat → Prop} (k : DK H' p0 d0 c' L0') (a : Fr H H' F) (hF : ∀ b,F b → fpD p0 d0 L0 b) (hc : c ≤ c') (hcb : c' ≤ 1000000000) (hn : ∀ b,fpD p0 d0 L0' b → fpD p0 d0 L0 b ∨ H.length ≤ b) : RG H' p p0 d0 p1 d1 c' L0' L1 { r with a:=L0'.map (·.2) }:=by
 have k1:=m.k1.fr a fun b hb hf=>m.dis b (hF b hf) hb
 refine ⟨a.at m.blk fun hf=>m.n0 (hF p hf),k,⟨k1.ptr,k1.blk,k1.np,k1.sz,⟨hcb,k1.vs.ver,k1.vs.ok,fun x hx=>Nat.le_trans (k1.vs.cap x hx) hc,k1.vs.out,k1.vs.inj⟩⟩,rfl,m.e1,fun b hb h1=>?_,fun h=>?_,m.n1⟩
 ·rcases hn b hb with h | h
  ·exact m.dis b h h1
  ·have:=m.k1.lt h1; omega
 ·rcases hn p h with h | h
  ·exact m.n0 h
  ·have:=zAl m.blk; omega
theorem RG.turn1 {c' : Nat} {L1' : List (AV × Sec)} {F : Nat → Prop} (k : DK H' p1 d1 c' L1') (a : Fr H H' F) (hF : ∀ b,F b → fpD p1 d1 L1 b) (hc : c ≤ c') (hcb : c' ≤ 1000000000) (hn : ∀ b,fpD p1 d1 L1' b → fpD p1 d1 L1 b ∨ H.length ≤ b) : RG H' p p0 d0 p1 d1 c' L0 L1' { r with b:=L1'.map (·.2) }:=by
 have k0:=m.k0.fr a fun b hb hf=>m.dis b hb (hF b hf)
 refine ⟨a.at m.blk fun hf=>m.n1 (hF p hf),⟨k0.ptr,k0.blk,k0.np,k0.sz,⟨hcb,k0.vs.ver,k0.vs.ok,fun x hx=>Nat.le_trans (k0.vs.cap x hx) hc,k0.vs.out,k0.vs.inj⟩⟩,k,m.e0,rfl,fun b hb h1=>?_,m.n0,fun h=>?_⟩
 ·rcases hn b h1 with h | h
  ·exact m.dis b hb h
  ·have:=m.k0.lt hb; omega
 ·rcases hn p h with h | h
  ·exact m.n1 h
  ·have:=zAl m.blk; omega
end
def zRg (H : zAa) (p c : Nat) (r : RgS) (F : Nat → Prop) : Prop:=∃ p0 d0 p1 d1 L0 L1,RG H p p0 d0 p1 d1 c L0 L1 r ∧ (∀ b,fpR p p0 d0 p1 d1 L0 L1 b → F b) ∧ ∀ b,F b → b < H.length
theorem zRg.ok {H : zAa} {p c : Nat} {r : RgS} {F : Nat → Prop} (m : zRg H p c r F) : (∀ s ∈ r.a,s.Ok) ∧ (∀ s ∈ r.b,s.Ok) ∧ r.a.length ≤ 4096 ∧ r.b.length ≤ 4096:=by
 obtain ⟨p0,d0,p1,d1,L0,L1,m,h1,h2⟩:=m
 refine ⟨fun s hs=>?_,fun s hs=>?_,by rw [m.len0]; exact m.k0.sz,by rw [m.len1]; exact m.k1.sz⟩
 ·rw [← m.e0] at hs; obtain ⟨x,hx,rfl⟩:=List.mem_map.1 hs; exact m.k0.vs.ok x hx
 ·rw [← m.e1] at hs; obtain ⟨x,hx,rfl⟩:=List.mem_map.1 hs; exact m.k1.vs.ok x hx
def zBm (H : zAa) (F : Nat → Prop) (H' : zAa) (F' : Nat → Prop) : Prop:=Fr H H' F ∧ ∀ b,F' b → F b ∨ H.length ≤ b
theorem zBm.refl (H : zAa) (F : Nat → Prop) : zBm H F H F:=⟨Fr.refl H F,fun _ h=>.inl h⟩
theorem zBm.trans {H H' H'' : zAa} {F F' F'' : Nat → Prop} (a : zBm H F H' F') (b : zBm H' F' H'' F'') : zBm H F H'' F'' :=
 ⟨a.1.trans b.1 fun x hx hf=>(a.2 x hf).elim id fun h=>absurd hx (by omega),fun x hx=>(b.2 x hx).elim (fun h=>a.2 x h) fun h=>.inr (Nat.le_trans a.1.1 h)⟩
theorem RG.up {H : zAa} {p p0 d0 p1 d1 c c' : Nat} {L0 L1 : List (AV × Sec)} {r : RgS} (m : RG H p p0 d0 p1 d1 c L0 L1 r) (h : c ≤ c') (hb : c' ≤ 1000000000) : RG H p p0 d0 p1 d1 c' L0 L1 r :=
 ⟨m.blk,⟨m.k0.ptr,m.k0.blk,m.k0.np,m.k0.sz,⟨hb,m.k0.vs.ver,m.k0.vs.ok,fun x hx=>Nat.le_trans (m.k0.vs.cap x hx) h,m.k0.vs.out,m.k0.vs.inj⟩⟩,⟨m.k1.ptr,m.k1.blk,m.k1.np,m.k1.sz,⟨hb,m.k1.vs.ver,m.k1.vs.ok,fun x hx=>Nat.le_trans (m.k1.vs.cap x hx) h,m.k1.vs.out,m.k1.vs.inj⟩⟩,m.e0,m.e1,m.dis,m.n0,m.n1⟩
theorem zQs {L : List (AV × Sec)} {l : List Sec} (e : L.map (·.2) = l) {n : Nat} (h : n < l.length) : ∃ x,L[n]? = some x ∧ l[n]? = some x.2:=by
 subst e
 rw [List.length_map] at h
 exact ⟨L[n],List.getElem?_eq_getElem h,zCf (fun x : AV × Sec=>x.2) (List.getElem?_eq_getElem h)⟩
theorem zL7 {L : List (AV × Sec)} {n : Nat} {x : AV × Sec} (h : L[n]? = some x) (v : AV) (f : Sec → Sec) : (L.set n (v,f x.2)).map (·.2) = (L.map (·.2)).modify n f:=by
 apply List.ext_getElem?
 intro i
 rw [List.getElem?_map,List.getElem?_modify,List.getElem?_map]
 by_cases e : n = i
 ·subst e
  rw [List.getElem?_set_self (List.getElem?_eq_some_iff.1 h).1,h]; simp
 ·rw [List.getElem?_set_ne e]; simp [e]
end Go.Proofs.YtbmmnfeeapnhkaaGreat.Eng
end
section
set_option linter.unusedVariables false
namespace Go.Proofs.YtbmmnfeeapnhkaaGreat.Eng
open Go Go.ChangeShapes Go.WideShapes Go.ChangeAt Go.RowKit
inductive Sh where
 | int (k : IntKind)
 | bool
 | sl (e : List Sh)
mutual
inductive DatC (h : zAa) : Sh → AV → Prop
 | int {k : IntKind} {n : Int} (hn : k.has n) : DatC h (.int k) (.int k n)
 | bool (b : Bool) : DatC h .bool (.bool b)
 | nil (e : List Sh) : DatC h (.sl e) .nilSl
 | sl {e : List Sh} {b : Nat} {rows : List (List AV)} (hn : rows.length ≤ 9223372036854775807) (hb : cellsOf h b = some rows.flatten) (hr : ∀ r,r ∈ rows → DatR h e r) : DatC h (.sl e) (.sl b 0 e.length rows.length rows.length false)
inductive DatR (h : zAa) : List Sh → List AV → Prop
 | nil : DatR h [] []
 | cons {s : Sh} {a : AV} {ss : List Sh} {as : List AV} (hd : DatC h s a) (tl : DatR h ss as) : DatR h (s :: ss) (a :: as)
end
theorem DatR.len {h : zAa} : ∀ {ss : List Sh} {as : List AV},DatR h ss as → as.length = ss.length
 | _,_,.nil=>rfl
 | _,_,.cons _ t=>by simp [DatR.len t]
theorem DatR.app {h : zAa} {s2 : List Sh} {a2 : List AV} (d2 : DatR h s2 a2) : ∀ {s1 : List Sh} {a1 : List AV},DatR h s1 a1 → DatR h (s1 ++ s2) (a1 ++ a2)
 | _,_,.nil=>d2
 | _,_,.cons hd t=>.cons hd (DatR.app d2 t)
mutual
theorem DatC.fr {h h' : zAa} {F : Nat → Prop} (a : Fr h h' F) (n : ∀ b,b < h.length → ¬ F b) : ∀ {s : Sh} {v : AV},DatC h s v → DatC h' s v
 | _,_,.int hn=>.int hn
 | _,_,.bool b=>.bool b
 | _,_,.nil e=>.nil e
 | _,_,.sl hn hb hr=>.sl hn (a.cells hb (n _ (zBn hb))) fun r hm=>DatR.fr a n (hr r hm)
theorem DatR.fr {h h' : zAa} {F : Nat → Prop} (a : Fr h h' F) (n : ∀ b,b < h.length → ¬ F b) : ∀ {s : List Sh} {v : List AV},DatR h s v → DatR h' s v
 | _,_,.nil=>.nil
 | _,_,.cons hd tl=>.cons (DatC.fr a n hd) (DatR.fr a n tl)
end
theorem DatC.rows {h : zAa} {e : List Sh} {v : AV} (d : DatC h (.sl e) v) : ∃ rows,RS e.length h v rows ∧ (∀ r ∈ rows,DatR h e r) ∧ rows.length ≤ 9223372036854775807:=by
 cases d with
 | nil=>exact ⟨[],.inl ⟨rfl,rfl⟩,fun r hr=>(by cases hr),by simp⟩
 | @sl _ b rows hn hb hr=>exact ⟨rows,.inr ⟨b,_,_,rfl,hb,fun r hm=>(hr r hm).len⟩,hr,hn⟩
variable {P : Program}
structure Got (w : World) (base : Nat) (shs : List Sh) (cs : List Value) (Bs : List (ABlk × Ent)) (as : List AV) : Prop where
 len : as.length = shs.length
 clen : cs.length = shs.length
 rel : ∀ φ : Ren,(∀ (i : Nat) be,Bs[i]? = some be → φ (base + i) = some be.2) → VRels φ as cs
 blk : ∀ φ : Ren,(∀ (i : Nat) be,Bs[i]? = some be → φ (base + i) = some be.2) → ∀ be ∈ Bs,∃ o,w.heap[be.2.blk]? = some o ∧ zFj φ be.1 be.2 o
 own : ∀ be ∈ Bs,be.1.own = false
 dat : ∀ h : zAa,(∀ (i : Nat) be,Bs[i]? = some be → h[base + i]? = some be.1) → DatR h shs as
theorem Got.nil (w : World) (base : Nat) : Got w base [] [] [] []:=⟨rfl,rfl,fun _ _=>.nil,fun _ _ _ h=>(by cases h),fun _ h=>(by cases h),fun _ _=>.nil⟩
theorem Got.app {w : World} {base : Nat} {s1 s2 : List Sh} {c1 c2 : List Value} {B1 B2 : List (ABlk × Ent)} {a1 a2 : List AV} (g1 : Got w base s1 c1 B1 a1) (g2 : Got w (base + B1.length) s2 c2 B2 a2) : Got w base (s1 ++ s2) (c1 ++ c2) (B1 ++ B2) (a1 ++ a2):=by
 have l : ∀ {α : Type} {Q : Nat → α → Prop} {X Y : List α},(∀ (i : Nat) be,(X ++ Y)[i]? = some be → Q (base + i) be) → (∀ (i : Nat) be,X[i]? = some be → Q (base + i) be) ∧ ∀ (i : Nat) be,Y[i]? = some be → Q (base + X.length + i) be:=by
  intro α Q X Y h
  refine ⟨fun i be hi=>h i be (by rw [List.getElem?_append_left (List.getElem?_eq_some_iff.1 hi).1]; exact hi),fun i be hi=>?_⟩
  have:=h (X.length + i) be (by rw [List.getElem?_append_right (by omega),show X.length + i - X.length = i by omega]; exact hi)
  rw [Nat.add_assoc]; exact this
 refine ⟨by simp [g1.len,g2.len],by simp [g1.clen,g2.clen],fun φ hφ=>?_,fun φ hφ be hb=>?_,fun be hb=>?_,fun h hh=>?_⟩
 ·obtain ⟨h1,h2⟩:=l (Q:=fun i (be : ABlk × Ent)=>φ i = some be.2) hφ
  exact (g1.rel φ h1).append (g2.rel φ h2)
 ·obtain ⟨h1,h2⟩:=l (Q:=fun i (be : ABlk × Ent)=>φ i = some be.2) hφ
  rcases List.mem_append.1 hb with hb | hb
  ·exact g1.blk φ h1 be hb
  ·exact g2.blk φ h2 be hb
 ·rcases List.mem_append.1 hb with hb | hb
  ·exact g1.own be hb
  ·exact g2.own be hb
 ·obtain ⟨h1,h2⟩:=l (Q:=fun i (be : ABlk × Ent)=>h[i]? = some be.1) hh
  exact DatR.app (g2.dat h h2) (g1.dat h h1)
def Imp (P : Program) (t : TypeId) (shs : List Sh) : Prop :=
 ∀ {H : Type} {enc : TypeId × Value → H} {w : World} {held : Bool} {fuel : Nat} {cs : List Value} {x : DataW H × List MemPlace},DataW.trod enc P w 0 (fun _=>true) held fuel t cs = some x →
  ∀ {r0 : Nat} {C0 : Array Value} {t0 : TypeId} {f0 : Nat × Nat},w.heap[r0]? = some (.cells C0 t0 f0) → ∀ base : Nat,∃ Bs as,Got w base shs cs Bs as
theorem imp_int {t : TypeId} {k : IntKind} (ht : P.underlying t = some (.int k)) : Imp P t [.int k]:=by
 intro H enc w held fuel cs x h r0 C0 t0 f0 h0 base
 obtain ⟨n,rfl,_,hwf⟩:=DataW.trod_int ht h
 exact ⟨[],[.int k n],rfl,rfl,fun _ _=>.cons (.int k n) .nil,fun _ _ _ h=>(by cases h),fun _ h=>(by cases h),fun _ _=>.cons (.int (zXk hwf)) .nil⟩
theorem imp_array {t e : TypeId} {n : Nat} {ks : List Sh} (ht : P.underlying t = some (.array n e)) (hc : P.cellsOf e = ks.length) (hc2 : P.cellsOf t = n * ks.length) (he : Imp P e ks) : Imp P t (List.replicate n ks).flatten:=by
 intro H enc w held fuel cs x h r0 C0 t0 f0 h0 base
 obtain ⟨xs,m,rfl,_,hl,hxs,hg⟩:=DataW.trod_array ht h
 rw [hc2] at hl
 have hfl : ∀ m,(List.replicate m ks).flatten.length = m * ks.length:=fun m=>by simp
 have key : ∀ m,m ≤ n → ∃ Bs as,Got w base (List.replicate m ks).flatten (cs.take (m * ks.length)) Bs as:=by
  intro m
  induction m with
  | zero=>intro _; exact ⟨[],[],by simpa using Got.nil w base⟩
  | succ m ih =>
   intro hm
   obtain ⟨B1,a1,g1⟩:=ih (by omega)
   have g:=hg m (by omega)
   rw [hc,List.getElem?_eq_getElem (by omega)] at g
   obtain ⟨B2,a2,g2⟩:=he g h0 (base + B1.length)
   refine ⟨B1 ++ B2,a1 ++ a2,?_⟩
   rw [List.replicate_succ',List.flatten_append,List.flatten_cons,List.flatten_nil,List.append_nil,Nat.add_mul,Nat.one_mul,List.take_add]
   exact g1.app g2
 obtain ⟨Bs,as,g⟩:=key n (Nat.le_refl _)
 rw [List.take_of_length_le (by omega)] at g
 exact ⟨Bs,as,g⟩
structure GotR (w : World) (base : Nat) (e : List Sh) (C : Array Value) (off : Nat) (rows : List (List AV)) (Bs : List (ABlk × Ent)) : Prop where
 len : ∀ r ∈ rows,r.length = e.length
 rel : ∀ φ : Ren,(∀ (i : Nat) be,Bs[i]? = some be → φ (base + i) = some be.2) → ∀ (i : Nat) r f a,rows[i]? = some r → r[f]? = some a → ∃ v,C[off + (i * e.length + f)]? = some v ∧ VRel φ a v
 blk : ∀ φ : Ren,(∀ (i : Nat) be,Bs[i]? = some be → φ (base + i) = some be.2) → ∀ be ∈ Bs,∃ o,w.heap[be.2.blk]? = some o ∧ zFj φ be.1 be.2 o
 own : ∀ be ∈ Bs,be.1.own = false
 dat : ∀ h : zAa,(∀ (i : Nat) be,Bs[i]? = some be → h[base + i]? = some be.1) → ∀ r ∈ rows,DatR h e r
theorem zVe {w : World} {a : Addr} {v : Value} (h : w.cell? a = some v) : a.spot = none ∧ ∃ C t f,w.heap[a.block]? = some (.cells C t f) ∧ C[a.off]? = some v:=by
 unfold World.cell? at h
 split at h
 ·rename_i c t f hh
  split at h
  ·cases h
  ·rename_i hs
   refine ⟨by simpa using hs,c,t,f,hh,h⟩
 ·cases h
theorem imp_slice {t e : TypeId} {ks : List Sh} (ht : P.underlying t = some (.slice e)) (hc : P.cellsOf e = ks.length) (h1 : 1 ≤ ks.length) (he : Imp P e ks) : Imp P t [.sl ks]:=by
 intro H enc w held fuel cs x h r0 C0 t0 f0 h0 base
 rcases DataW.trod_slice ht h with ⟨rfl,_⟩ | ⟨ad,len,cap,elems,rest,n,rfl,rfl,_,_,hle,hmax,hel,hg,hg2,_⟩
 ·exact ⟨[],[.nilSl],rfl,rfl,fun _ _=>.cons .nilSl .nil,fun _ _ _ h=>(by cases h),fun _ h=>(by cases h),fun _ _=>.cons (.nil ks) .nil⟩
 by_cases hcap0 : cap = 0
 ·subst hcap0
  obtain rfl : len = 0:=by omega
  refine ⟨[(.ro [],⟨r0,0,C0.size⟩)],[.sl base 0 ks.length 0 0 false],rfl,rfl,fun φ hφ=>?_,fun φ hφ be hb=>?_,fun be hb=>?_,fun h hh=>?_⟩
  ·have:=hφ 0 _ rfl
   exact .cons (.sl (e:=⟨r0,0,C0.size⟩) (a:=ad) (cap:=0) this (.inr rfl) (Nat.le_refl _) (Nat.le_refl _) (fun h=>by cases h) (by simp)) .nil
  ·simp only [List.mem_cons,List.not_mem_nil,or_false] at hb; subst hb
   exact ⟨_,h0,C0,t0,f0,rfl,rfl,by simp,fun i a ha=>by simp at ha⟩
  ·simp only [List.mem_cons,List.not_mem_nil,or_false] at hb; subst hb; rfl
  ·have:=hh 0 _ rfl
   exact .cons (.sl (rows:=[]) (by simp) (by unfold cellsOf; rw [Nat.add_zero] at this; rw [this]; rfl) (fun r hr=>by cases hr)) .nil
 obtain ⟨hrl,hrest⟩:=hg2 rfl
 have cellAt : ∀ i,i < cap → ∃ y cs',w.cells? 0 (ad.add (i * ks.length)) ks.length = some cs' ∧ DataW.trod enc P w 0 (fun _=>true) held n e cs' = some y:=by
  intro i hi
  by_cases hl : i < len
  ·have g:=hg i hl
   rw [List.getElem?_eq_getElem (by omega),Option.bind_eq_some_iff,hc] at g
   obtain ⟨cs',h1,h2⟩:=g
   exact ⟨_,cs',h1,h2⟩
  ·have g:=hrest (i - len) (by omega)
   rw [List.getElem?_eq_getElem (by omega),Option.bind_eq_some_iff,hc,show len + (i - len) = i by omega] at g
   obtain ⟨cs',h1,h2⟩:=g
   exact ⟨_,cs',h1,h2⟩
 have cellG : ∀ {i cs'},w.cells? 0 (ad.add (i * ks.length)) ks.length = some cs' → ∀ f,f < ks.length → w.cell? ((ad.add (i * ks.length)).add f) = cs'[f]?:=by
  intro i cs' h f hf
  unfold World.cells? at h
  rw [if_pos (Nat.zero_le _)] at h
  exact mapM_some_get h f f (by rw [List.getElem?_range hf])
 obtain ⟨hs,C,tt,fz,ho,_⟩ : ad.spot = none ∧ ∃ C t f,w.heap[ad.block]? = some (.cells C t f) ∧ True:=by
  obtain ⟨y,cs',q1,q2⟩:=cellAt 0 (by omega)
  have q3:=cellG q1 0 (by omega)
  have hlen : 0 < cs'.length:=by
   obtain ⟨_,_,g⟩:=he q2 h0 0
   rw [g.clen]; omega
  rw [List.getElem?_eq_getElem hlen,Nat.zero_mul] at q3
  have e0 : (ad.add 0).add 0 = ad:=rfl
  rw [e0] at q3
  obtain ⟨h1,C,t,f,h2,_⟩:=zVe q3
  exact ⟨h1,C,t,f,h2,trivial⟩
 have cellC : ∀ {i cs'},w.cells? 0 (ad.add (i * ks.length)) ks.length = some cs' → ∀ f,f < ks.length → C[ad.off + (i * ks.length + f)]? = cs'[f]?:=by
  intro i cs' h f hf
  have:=cellG h f hf
  rw [add_add hs,cell_of hs ho rfl] at this
  exact this
 have hsz : ad.off + cap * ks.length ≤ C.size:=by
  obtain ⟨y,cs',q1,q2⟩:=cellAt (cap - 1) (by omega)
  have hl : cs'.length = ks.length:=by
   obtain ⟨_,_,g⟩:=he q2 h0 0
   exact g.clen
  have:=cellC q1 (ks.length - 1) (by omega)
  rw [List.getElem?_eq_getElem (by omega)] at this
  have:=(Array.getElem?_eq_some_iff.1 this).1
  have e3 : cap * ks.length = (cap - 1) * ks.length + ks.length:=by
   conv=>lhs; rw [show cap = (cap - 1) + 1 by omega,Nat.add_mul,Nat.one_mul]
  omega
 have key : ∀ m,m ≤ len → ∃ rows Bs,rows.length = m ∧ GotR w (base + 1) ks C ad.off rows Bs:=by
  intro m
  induction m with
  | zero=>intro _; exact ⟨[],[],rfl,fun r h=>(by cases h),fun φ _ i r f a h=>(by simp at h),fun φ _ be h=>(by cases h),fun be h=>(by cases h),fun h _ r hr=>(by cases hr)⟩
  | succ m ih =>
   intro hm
   obtain ⟨rows,B1,hl,g1⟩:=ih (by omega)
   obtain ⟨y,cs',q1,q2⟩:=cellAt m (by omega)
   obtain ⟨B2,as,g2⟩:=he q2 h0 (base + 1 + B1.length)
   have l : ∀ {Q : Nat → (ABlk × Ent) → Prop},(∀ (i : Nat) be,(B1 ++ B2)[i]? = some be → Q (base + 1 + i) be) → (∀ (i : Nat) be,B1[i]? = some be → Q (base + 1 + i) be) ∧ ∀ (i : Nat) be,B2[i]? = some be → Q (base + 1 + B1.length + i) be:=by
    intro Q h
    refine ⟨fun i be hi=>h i be (by rw [List.getElem?_append_left (List.getElem?_eq_some_iff.1 hi).1]; exact hi),fun i be hi=>?_⟩
    have:=h (B1.length + i) be (by rw [List.getElem?_append_right (by omega),show B1.length + i - B1.length = i by omega]; exact hi)
    rw [Nat.add_assoc (base + 1)]; exact this
   refine ⟨rows ++ [as],B1 ++ B2,by simp [hl],⟨fun r hr=>?_,fun φ hφ i r f a hi hf=>?_,fun φ hφ be hb=>?_,fun be hb=>?_,fun h hh r hr=>?_⟩⟩
   ·rcases List.mem_append.1 hr with hr | hr
    ·exact g1.len r hr
    ·simp only [List.mem_cons,List.not_mem_nil,or_false] at hr; subst hr; exact g2.len
   ·obtain ⟨h1,h2⟩:=l (Q:=fun i (be : ABlk × Ent)=>φ i = some be.2) hφ
    by_cases hlt : i < rows.length
    ·rw [List.getElem?_append_left hlt] at hi
     exact g1.rel φ h1 i r f a hi hf
    ·have hi2 : i = m:=by
      have:=(List.getElem?_eq_some_iff.1 hi).1
      simp at this; omega
     subst hi2
     rw [List.getElem?_append_right (by omega),hl,Nat.sub_self] at hi
     simp only [List.getElem?_cons_zero,Option.some.injEq] at hi
     subst hi
     obtain ⟨v,hv,hr⟩:=(g2.rel φ h2).get hf
     have hfl : f < ks.length:=by rw [← g2.len]; exact (List.getElem?_eq_some_iff.1 hf).1
     exact ⟨v,by rw [cellC q1 f hfl]; exact hv,hr⟩
   ·obtain ⟨h1,h2⟩:=l (Q:=fun i (be : ABlk × Ent)=>φ i = some be.2) hφ
    rcases List.mem_append.1 hb with hb | hb
    ·exact g1.blk φ h1 be hb
    ·exact g2.blk φ h2 be hb
   ·rcases List.mem_append.1 hb with hb | hb
    ·exact g1.own be hb
    ·exact g2.own be hb
   ·obtain ⟨h1,h2⟩:=l (Q:=fun i (be : ABlk × Ent)=>h[i]? = some be.1) hh
    rcases List.mem_append.1 hr with hr | hr
    ·exact g1.dat h h1 r hr
    ·simp only [List.mem_cons,List.not_mem_nil,or_false] at hr; subst hr; exact g2.dat h h2
 obtain ⟨rows,Bs,hl,g⟩:=key len (Nat.le_refl _)
 have hfl:=zDn g.len
 have bs : ∀ {Q : Nat → (ABlk × Ent) → Prop},(∀ (i : Nat) be,((ABlk.ro rows.flatten,(⟨ad.block,ad.off,C.size⟩ : Ent)) :: Bs)[i]? = some be → Q (base + i) be) → Q base (.ro rows.flatten,⟨ad.block,ad.off,C.size⟩) ∧ ∀ (i : Nat) be,Bs[i]? = some be → Q (base + 1 + i) be:=by
  intro Q h
  refine ⟨h 0 _ rfl,fun i be hi=>?_⟩
  have:=h (i + 1) be (by simpa using hi)
  rw [show base + 1 + i = base + (i + 1) by omega]; exact this
 have hlen : rows.flatten.length ≤ cap * ks.length:=by rw [hfl,hl]; exact Nat.mul_le_mul_right _ hle
 refine ⟨(.ro rows.flatten,⟨ad.block,ad.off,C.size⟩) :: Bs,[.sl base 0 ks.length rows.length rows.length false],rfl,rfl,fun φ hφ=>?_,fun φ hφ be hb=>?_,fun be hb=>?_,fun h hh=>?_⟩
 ·obtain ⟨q1,_⟩:=bs (Q:=fun i (be : ABlk × Ent)=>φ i = some be.2) hφ
  have : VRel φ (.sl base 0 ks.length rows.length rows.length false) (.slice (some ad) len cap):=by
   rw [hl]
   refine .sl (e:=⟨ad.block,ad.off,C.size⟩) (a:=ad) (cap:=cap) q1 (.inl ?_) (Nat.le_refl _) hle (fun h=>by cases h) (by simp; exact hsz)
   cases ad; simp at hs; subst hs; rfl
  exact .cons this .nil
 ·obtain ⟨q1,q2⟩:=bs (Q:=fun i (be : ABlk × Ent)=>φ i = some be.2) hφ
  rcases List.mem_cons.1 hb with rfl | hb
  ·refine ⟨_,ho,C,tt,fz,rfl,rfl,by show ad.off + rows.flatten.length ≤ C.size; omega,fun j a hj=>?_⟩
   have hjl:=(List.getElem?_eq_some_iff.1 hj).1
   rw [hfl] at hjl
   have hi : j / ks.length < rows.length:=Nat.div_lt_of_lt_mul (by rw [Nat.mul_comm]; exact hjl)
   have e1 : j / ks.length * ks.length + j % ks.length = j:=by rw [Nat.mul_comm]; exact Nat.div_add_mod j ks.length
   have e2:=Nat.mod_lt j (show 0 < ks.length by omega)
   have e3:=zH2 g.len (List.getElem?_eq_getElem hi) _ e2
   rw [e1,hj] at e3
   obtain ⟨v,hv,hr⟩:=g.rel φ q2 _ _ _ _ (List.getElem?_eq_getElem hi) e3.symm
   rw [e1] at hv
   exact ⟨v,hv,hr⟩
  ·exact g.blk φ q2 be hb
 ·rcases List.mem_cons.1 hb with rfl | hb
  ·rfl
  ·exact g.own be hb
 ·obtain ⟨q1,q2⟩:=bs (Q:=fun i (be : ABlk × Ent)=>h[i]? = some be.1) hh
  exact .cons (.sl (by rw [hl]; unfold maxLen at hmax; omega) (by unfold cellsOf; rw [q1]) (g.dat h q2)) .nil
theorem imp_arg {t : TypeId} {ks : List Sh} {w : World} {v : Value} {H : Type} {enc : TypeId × Value → H} {d : DataW H} {ps : List MemPlace} (he : Imp P t [.sl ks]) (hv : OkSl w v) (h : DataW.Trod enc P w 0 (fun _=>true) true t v d ps) :
  ∀ base : Nat,∃ Bs a,Got w base [.sl ks] [v] Bs [a]:=by
 intro base
 obtain ⟨fuel,h⟩:=h
 rw [hv.cells] at h
 rcases hv with rfl | ⟨ad,len,cap,o,rfl,_,_,ho,C,tt,fz,rfl⟩
 ·exact ⟨[],.nilSl,rfl,rfl,fun _ _=>.cons .nilSl .nil,fun _ _ _ h=>(by cases h),fun _ h=>(by cases h),fun _ _=>.cons (.nil ks) .nil⟩
 ·obtain ⟨Bs,as,g⟩:=he h ho base
  match as,g.len with
  | [a],_=>exact ⟨Bs,a,g⟩
theorem zV8 {φ : Ren} {a : AV} {v : Value} {as : List AV} {vs : List Value} (h : VRels φ (a :: as) (v :: vs)) : VRel φ a v:=by cases h; assumption
theorem DatR.head {h : zAa} {s : Sh} {a : AV} {ss : List Sh} {as : List AV} (d : DatR h (s :: ss) (a :: as)) : DatC h s a:=by cases d; assumption
theorem st_got (w : World) (Bs : List (ABlk × Ent)) (ho : ∀ be ∈ Bs,be.1.own = false) (hb : ∀ φ : Ren,(∀ (i : Nat) be,Bs[i]? = some be → φ i = some be.2) → ∀ be ∈ Bs,∃ o,w.heap[be.2.blk]? = some o ∧ zFj φ be.1 be.2 o) :
  St (fun i=>(Bs[i]?).map (·.2)) (Bs.map (·.1)) w:=by
 have hφ : ∀ (i : Nat) be,Bs[i]? = some be → (fun i=>(Bs[i]?).map (·.2)) i = some be.2:=fun i be h=>by simp [h]
 constructor
 ·intro b e he
  obtain ⟨x,hx,rfl⟩:=Option.map_eq_some_iff.1 he
  obtain ⟨o,h1,h2⟩:=hb _ hφ x (List.mem_of_getElem? hx)
  exact ⟨x.1,o,by rw [List.getElem?_map,hx]; rfl,h1,h2⟩
 ·intro b b' e e' k k' _ _ hk _ ho' _ _
  rw [List.getElem?_map] at hk
  obtain ⟨x,hx,rfl⟩:=Option.map_eq_some_iff.1 hk
  rw [ho x (List.mem_of_getElem? hx)] at ho'; cases ho'
theorem own_got (Bs : List (ABlk × Ent)) (ho : ∀ be ∈ Bs,be.1.own = false) : NoOwn (Bs.map (·.1)):=by
 intro b k hk
 rw [List.getElem?_map] at hk
 obtain ⟨x,hx,rfl⟩:=Option.map_eq_some_iff.1 hk
 exact ho x (List.mem_of_getElem? hx)
end Go.Proofs.YtbmmnfeeapnhkaaGreat.Eng
end
section
namespace Go.Proofs.YtbmmnfeeapnhkaaGreat.Eng
open Go
theorem zG3 : ∀ (x y : List Int),x.length = y.length → zEr (u8s x) (u8s y) = some (decide (x = y))
 | [],[],_=>rfl
 | [],_ :: _,h=>by simp at h
 | _ :: _,[],h=>by simp at h
 | a :: x,b :: y,h=>by
  have ih:=zG3 x y (by simpa using h)
  show (zMj (.int .u8 a) (.int .u8 b)).bind _ = _
  simp only [zMj,if_true,Option.bind_some]
  have : zEr (List.map (AV.int .u8) x) (List.map (AV.int .u8) y) = some (decide (x = y)):=ih
  rw [this,Option.map_some]
  by_cases h1 : a = b
  ·by_cases h2 : x = y <;> simp [h1,h2]
  ·simp [h1]
theorem eq_u8 {n : Nat} {x y : List Int} (hx : x.length = n) (hy : y.length = n) : binV .eql (.flat n) (.agg (u8s x)) (.agg (u8s y)) = some (.bool (decide (x = y))):=by
 have:=zG3 x y (by omega)
 simp [binV,eqV,zAd,hx,this]
theorem ne_u8 {n : Nat} {x y : List Int} (hx : x.length = n) (hy : y.length = n) : binV .neq (.flat n) (.agg (u8s x)) (.agg (u8s y)) = some (.bool (!decide (x = y))):=by
 have:=zG3 x y (by omega)
 simp [binV,eqV,zAd,hx,this]
end Go.Proofs.YtbmmnfeeapnhkaaGreat.Eng
end
section
set_option linter.unusedVariables false
namespace Go.Proofs.YtbmmnfeeapnhkaaGreat.Eng
open Go
def thereR (x : AV × Sec) : List AV:=u8s x.2.there
structure RD (H : zAa) (p s v c : Nat) (L : List (AV × Sec)) : Prop where
 ptr : cellsOf H p = some [.sl s 0 64 L.length L.length true,.sl v 0 1 L.length L.length true]
 bs : H[s]? = some (.rw (L.map thereR).flatten)
 bv : H[v]? = some (.rw (L.map (·.1)))
 n1 : p ≠ s
 n2 : p ≠ v
 n3 : s ≠ v
 sz : L.length ≤ 4096
 vs : VS H L c fun b=>b = p ∨ b = s ∨ b = v
def fpQ (p s v : Nat) (L : List (AV × Sec)) (b : Nat) : Prop:=b = p ∨ b = s ∨ b = v ∨ fpV L b
section
variable {H : zAa} {p s v c : Nat} {L : List (AV × Sec)} (m : RD H p s v c L)
include m
end
end Go.Proofs.YtbmmnfeeapnhkaaGreat.Eng
end
section
set_option linter.unusedVariables false
namespace Go.Proofs.YtbmmnfeeapnhkaaGreat.Eng
open Go
end Go.Proofs.YtbmmnfeeapnhkaaGreat.Eng
end
section
set_option linter.unusedVariables false
namespace Go.Proofs.YtbmmnfeeapnhkaaGreat.Eng
open Go
structure Pl where
 p : Nat
 s : Nat
 v : Nat
def fpP (a : Pl) (L : List (AV × Sec)) (b : Nat) : Prop:=fpQ a.p a.s a.v L b
structure RQ (H : zAa) (p : Nat) (x y : Pl) (c : Nat) (L0 L1 : List (AV × Sec)) (r : RgS) : Prop where
 blk : H[p]? = some (.rw (zBb x.p y.p r))
 k0 : RD H x.p x.s x.v c L0
 k1 : RD H y.p y.s y.v c L1
 e0 : L0.map (·.2) = r.a
 e1 : L1.map (·.2) = r.b
 dis : ∀ b,fpP x L0 b → ¬ fpP y L1 b
 n0 : ¬ fpP x L0 p
 n1 : ¬ fpP y L1 p
def fpW (p : Nat) (x y : Pl) (L0 L1 : List (AV × Sec)) (b : Nat) : Prop:=b = p ∨ fpP x L0 b ∨ fpP y L1 b
section
variable {H H' : zAa} {p c : Nat} {x y : Pl} {L0 L1 : List (AV × Sec)} {r : RgS} (m : RQ H p x y c L0 L1 r)
include m
end
def RefIn (H : zAa) (p c : Nat) (r : RgS) (F : Nat → Prop) : Prop:=∃ x y L0 L1,RQ H p x y c L0 L1 r ∧ (∀ b,fpW p x y L0 L1 b → F b) ∧ ∀ b,F b → b < H.length
end Go.Proofs.YtbmmnfeeapnhkaaGreat.Eng
end
section
namespace Go.Proofs.YtbmmnfeeapnhkaaGreat.Eng
open Go
def putS : Nat → Int → List Int
 | 0,_=>[]
 | k + 1,n=>n % 256 :: putS k (n / 256)
theorem zC7 : ∀ (k : Nat) (n : Int),(putS k n).length = k
 | 0,_=>rfl
 | k + 1,n=>by simp [putS,zC7 k]
theorem zKr : ∀ (k : Nat) (n : Int),IsU8 (putS k n)
 | 0,_=>fun z hz=>by cases hz
 | k + 1,n=>fun z hz=>by
  simp only [putS,List.mem_cons] at hz
  rcases hz with rfl | hz
  ·omega
  ·exact zKr k _ z hz
theorem div_pow (n : Int) (k : Nat) : n / 256 / 256 ^ k = n / 256 ^ (k + 1):=by
 rw [Int.ediv_ediv_of_nonneg (by omega),Int.pow_succ,Int.mul_comm]
theorem div_pow' (n : Int) (k : Nat) : n / 256 ^ k / 256 = n / 256 ^ (k + 1):=by
 rw [Int.ediv_ediv_of_nonneg (Int.pow_nonneg (by omega)),Int.pow_succ]
theorem zOy : ∀ (k : Nat) (n : Int),putS (k + 1) n = putS k n ++ [n / 256 ^ k % 256]
 | 0,n=>by simp [putS]
 | k + 1,n=>by
  rw [putS,zOy k,putS,List.cons_append,div_pow]
def getS : List Int → Int
 | []=>0
 | z :: zs=>z + 256 * getS zs
theorem zPh : ∀ (zs : List Int) (z : Int),getS (zs ++ [z]) = getS zs + z * 256 ^ zs.length
 | [],z=>by simp [getS]
 | y :: zs,z=>by
  rw [List.cons_append,getS,zPh zs z,getS,List.length_cons,Int.pow_succ,Int.mul_add,← Int.mul_assoc,Int.mul_comm 256 z,Int.mul_assoc,Int.mul_comm 256 (256 ^ _)]
  omega
theorem zF1 : ∀ {zs : List Int},IsU8 zs → 0 ≤ getS zs ∧ getS zs < 256 ^ zs.length
 | [],_=>by simp [getS]
 | z :: zs,h=>by
  have a:=h z (by simp)
  obtain ⟨b,c⟩:=zF1 (zs:=zs) fun y hy=>h y (by simp [hy])
  rw [getS,List.length_cons,Int.pow_succ]
  generalize (256 : Int) ^ zs.length = w at *
  omega
theorem zJ1 : ∀ (k : Nat) (n : Int),0 ≤ n → n < 256 ^ k → getS (putS k n) = n
 | 0,n,h0,h1=>by
  rw [Int.pow_zero] at h1
  simp only [putS,getS]; omega
 | k + 1,n,h0,h1=>by
  rw [Int.pow_succ] at h1
  rw [putS,getS,zJ1 k (n / 256) (by omega) (by
   generalize (256 : Int) ^ k = w at *
   omega)]
  omega
theorem zWg (i : Nat) : (2 : Int) ^ (8 * i) = 256 ^ i:=by rw [Int.pow_mul]; rfl
theorem wrapu64 (n : Int) : IntKind.u64.wrap n = n % 18446744073709551616:=rfl
theorem wrapu8 (n : Int) : IntKind.u8.wrap n = n % 256:=rfl
theorem zEa {n : Int} (h0 : 0 ≤ n) (h1 : n < 18446744073709551616) : IntKind.u64.wrap n = n:=by rw [wrapu64]; omega
theorem toNat_ofInt {n : Int} (h0 : 0 ≤ n) (h1 : n < 18446744073709551616) : (BitVec.ofInt 64 n).toNat = n.toNat:=by
 rw [BitVec.toNat_ofInt]
 show (n % (18446744073709551616 : Int)).toNat = _
 congr 1
 omega
theorem or_byte {a z : Int} {i : Nat} (h0 : 0 ≤ a) (h1 : a < 256 ^ i) (z0 : 0 ≤ z) (z1 : z ≤ 255) (hi : i < 8) :
  IntKind.u64.wrap ((BitVec.ofInt 64 a ||| BitVec.ofInt 64 (IntKind.u64.wrap (z * 2 ^ min (8 * i) 64))).toNat : Int) = a + z * 256 ^ i:=by
 have e8 : (256 : Int) ^ 8 = 18446744073709551616:=by decide
 have hp : (256 : Int) ^ (i + 1) ≤ 256 ^ 8:=by
  rcases (by omega : i = 0 ∨ i = 1 ∨ i = 2 ∨ i = 3 ∨ i = 4 ∨ i = 5 ∨ i = 6 ∨ i = 7) with rfl | rfl | rfl | rfl | rfl | rfl | rfl | rfl <;> decide
 have hq : (0 : Int) < 256 ^ i:=Int.pow_pos (by omega)
 rw [e8,Int.pow_succ] at hp
 have hz : z * 256 ^ i ≤ 255 * 256 ^ i:=Int.mul_le_mul_of_nonneg_right z1 (by omega)
 have hz0 : 0 ≤ z * 256 ^ i:=Int.mul_nonneg z0 (by omega)
 have hm : min (8 * i) 64 = 8 * i:=by omega
 rw [hm,zWg,zEa hz0 (by omega),BitVec.toNat_or,toNat_ofInt h0 (by omega),toNat_ofInt hz0 (by omega)]
 have en : a.toNat < 2 ^ (8 * i):=by
  have : ((a.toNat : Nat) : Int) < ((2 ^ (8 * i) : Nat) : Int):=by
   rw [Int.toNat_of_nonneg h0]; push_cast; rw [zWg]; exact h1
  exact_mod_cast this
 have ez : (z * 256 ^ i).toNat = z.toNat <<< (8 * i):=by
  rw [Nat.shiftLeft_eq]
  apply Int.ofNat.inj
  show (((z * 256 ^ i).toNat : Nat) : Int) = ((z.toNat * 2 ^ (8 * i) : Nat) : Int)
  rw [Int.toNat_of_nonneg hz0]; push_cast; rw [zWg,Int.toNat_of_nonneg z0]
 rw [ez,Nat.or_comm,← Nat.shiftLeft_add_eq_or_of_lt en,← ez]
 push_cast
 rw [Int.toNat_of_nonneg hz0,Int.toNat_of_nonneg h0,zEa (by omega) (by omega)]
 omega
def zXr (h c : Int) : Int:=IntKind.u64.wrap (IntKind.u64.wrap ((BitVec.ofInt 64 h ^^^ BitVec.ofInt 64 c).toNat : Int) * 1099511628211)
def zGe (h : Int) (zs : List Int) : Int:=zs.foldl zXr h
def zIo (zs : List Int) : Int:=zGe 14695981039346656037 zs
def B48 (z : List Int) : Prop:=z.length = 48 ∧ IsU8 z
def zGf (m s i : Int) (body : List Int) : List Int:=m :: (putS 4 s ++ putS 2 i ++ body)
def encS (m s i : Int) (body : List Int) : List Int:=zGf m s i body ++ putS 8 (zIo (zGf m s i body)) ++ [0]
def zEx (m i : Int) : Bool:=!(m == 0) && (decide (0 ≤ i) && decide (i ≤ 65535))
theorem zPd (m s i : Int) {body : List Int} (h : body.length = 48) : (zGf m s i body).length = 55:=by simp [zGf,zC7,h]
theorem zSc {m s i : Int} {body : List Int} (hm : 0 ≤ m ∧ m ≤ 255) (h : IsU8 body) : IsU8 (zGf m s i body):=by
 intro z hz
 simp only [zGf,List.mem_cons,List.mem_append] at hz
 rcases hz with rfl | (hz | hz) | hz
 ·exact hm
 ·exact zKr _ _ z hz
 ·exact zKr _ _ z hz
 ·exact h z hz
theorem zSi {m s i : Int} {body : List Int} (hm : 0 ≤ m ∧ m ≤ 255) (h : B48 body) : B64 (encS m s i body):=by
 refine ⟨by simp [encS,zPd m s i h.1,zC7],fun z hz=>?_⟩
 simp only [encS,List.mem_append,List.mem_singleton] at hz
 rcases hz with (hz | hz) | rfl
 ·exact zSc hm h.2 z hz
 ·exact zKr _ _ z hz
 ·omega
def zA2 : List Int:=List.replicate 48 0
def z64 : List Int:=List.replicate 64 0
theorem zBz : z64.length = 64:=by simp [z64]
theorem z64_b : B64 z64:=B64.zero
theorem zB9 : rep 64 (.int .u8 0) = u8s z64:=zKp 64 0
theorem zBe : rep 48 (.int .u8 0) = u8s zA2:=zKp 48 0
theorem zCn {y z : List Int} {n : Nat} (hy : y.length = n) (hz : z.length = n) (h1 : n ≠ 1) : zBp (u8s y) 0 (u8s z) = u8s z:=by
 rw [zAs _ _ _ (by rw [zAd]; omega),zAd,List.take_zero,List.nil_append,Nat.zero_add,List.drop_of_length_le (by rw [zAd]; omega),List.append_nil]
theorem zB7 : B48 zA2:=⟨by simp [zA2],fun z hz=>by rw [(List.mem_replicate.1 hz).2]; omega⟩
structure PgS where
 m : Int
 s : Int
 i : Int
 b : List Int
structure PgS.Ok (p : PgS) : Prop where
 m : 0 ≤ p.m ∧ p.m ≤ 255
 s : 0 ≤ p.s ∧ p.s < 4294967296
 i : -9223372036854775808 ≤ p.i ∧ p.i ≤ 9223372036854775807
 b : B48 p.b
def zpg : PgS:=⟨0,0,0,zA2⟩
def PgS.cells (p : PgS) : List AV:=.int .u8 p.m :: .int .u32 p.s :: .int .i64 p.i :: u8s p.b
def PgS.enc (p : PgS) : List Int × Int:=if zEx p.m p.i = true then (encS p.m p.s p.i p.b,0) else (z64,11)
def rawS (z : List Int) : PgS:=⟨(z[0]?).getD 0,getS ((z.drop 1).take 4),getS ((z.drop 5).take 2),(z.drop 7).take 48⟩
def decS (z : List Int) : PgS × Int:=if (rawS z).enc.2 = 0 ∧ (rawS z).enc.1 = z then (rawS z,0) else (zpg,11)
theorem zWc {z : List Int} (h : B64 z) : (rawS z).Ok:=by
 obtain ⟨hl,hu⟩:=h
 have l1 : ((z.drop 1).take 4).length = 4:=by simp [hl]
 have l2 : ((z.drop 5).take 2).length = 2:=by simp [hl]
 have u1 : IsU8 ((z.drop 1).take 4):=fun y hy=>hu y (List.mem_of_mem_drop (List.mem_of_mem_take hy))
 have u2 : IsU8 ((z.drop 5).take 2):=fun y hy=>hu y (List.mem_of_mem_drop (List.mem_of_mem_take hy))
 have g1:=zF1 u1
 have g2:=zF1 u2
 rw [l1] at g1
 rw [l2] at g2
 refine ⟨?_,g1,⟨?_,?_⟩,by simp [rawS,hl],fun y hy=>hu y (List.mem_of_mem_drop (List.mem_of_mem_take hy))⟩
 ·cases z with
  | nil=>simp at hl
  | cons a z=>exact hu a (by simp)
 ·have:=g2.1; show _ ≤ getS _; omega
 ·have:=g2.2; show getS _ ≤ _; omega
theorem raw_enc {p : PgS} (h : p.Ok) (h0 : 0 ≤ p.i) (h1 : p.i ≤ 65535) : rawS (encS p.m p.s p.i p.b) = p:=by
 obtain ⟨m,s,i,b⟩:=p
 obtain ⟨_,hs,_,hl,_⟩:=h
 simp only at *
 have e1 : (putS 4 s).length = 4:=zC7 4 s
 have e2 : (putS 2 i).length = 2:=zC7 2 i
 unfold rawS encS zGf
 have a1 : (((m :: (putS 4 s ++ putS 2 i ++ b) ++ putS 8 (zIo (m :: (putS 4 s ++ putS 2 i ++ b))) ++ [0]).drop 1).take 4) = putS 4 s:=by
  simp only [List.cons_append,List.drop_succ_cons,List.drop_zero,List.append_assoc]
  rw [List.take_append_of_le_length (by omega),List.take_of_length_le (by omega)]
 have a2 : (((m :: (putS 4 s ++ putS 2 i ++ b) ++ putS 8 (zIo (m :: (putS 4 s ++ putS 2 i ++ b))) ++ [0]).drop 5).take 2) = putS 2 i:=by
  simp only [List.cons_append,List.drop_succ_cons,List.append_assoc]
  rw [List.drop_append,List.drop_of_length_le (by omega),List.nil_append,e1,List.drop_zero,List.take_append_of_le_length (by omega),List.take_of_length_le (by omega)]
 have a3 : (((m :: (putS 4 s ++ putS 2 i ++ b) ++ putS 8 (zIo (m :: (putS 4 s ++ putS 2 i ++ b))) ++ [0]).drop 7).take 48) = b:=by
  simp only [List.cons_append,List.drop_succ_cons,List.append_assoc]
  rw [List.drop_append,List.drop_of_length_le (by omega),List.nil_append,e1,List.drop_append,List.drop_of_length_le (by omega),List.nil_append,e2,List.drop_zero,List.take_append_of_le_length (by omega),List.take_of_length_le (by omega)]
 rw [a1,a2,a3,zJ1 4 s hs.1 (by have:=hs.2; simpa using this),zJ1 2 i h0 (by show i < 65536; omega)]
 rfl
theorem zQy {p : PgS} (h : p.Ok) (hk : zEx p.m p.i = true) : decS (encS p.m p.s p.i p.b) = (p,0):=by
 have hi : 0 ≤ p.i ∧ p.i ≤ 65535:=by
  unfold zEx at hk
  simp only [Bool.and_eq_true,decide_eq_true_eq] at hk
  exact hk.2
 have e:=raw_enc h hi.1 hi.2
 unfold decS PgS.enc
 rw [e]
 simp only [hk,if_true,and_self]
theorem zSl : decS z64 = (zpg,11):=by
 unfold decS PgS.enc rawS zEx z64
 rfl
theorem zRq {C : T → Prop} {Q : T → AV → Prop} (h : ∀ t : T,C t → ∃ v,Q t v) : ∃ VV : T → AV,∀ t : T,C t → Q t (VV t):=by
 have h2 : ∀ t : T,∃ v,C t → Q t v:=fun t=>by
  by_cases e : C t
  ·obtain ⟨v,hv⟩:=h t e; exact ⟨v,fun _=>hv⟩
  ·exact ⟨.undef,fun q=>absurd q e⟩
 exact ⟨fun t=>(h2 t).choose,fun t=>(h2 t).choose_spec⟩
theorem zCu {n b off : Nat} {H : zAa} {cs : List AV} (h : cellsOf H b = some cs) (hl : off + n ≤ cs.length) : zDb n 1 (.ptr b off) none none none H = some (.sl b off 1 n n true):=by
 have hr : zC6 H b off n = some ((cs.drop off).take n):=by
  unfold zC6
  rw [h,Option.bind_some,if_pos hl]
 simp [zDb,asI,hr]
theorem zHi {n b off : Nat} {H : zAa} {cs : List AV} (lo hi : Nat) (h : cellsOf H b = some cs) (hl : off + n ≤ cs.length) (h1 : lo ≤ hi) (h2 : hi ≤ n) : zDb n 1 (.ptr b off) (some (.int .i64 (lo : Int))) (some (.int .i64 (hi : Int))) none H = some (.sl b (off + lo) 1 (hi - lo) (n - lo) true):=by
 have hr : zC6 H b off n = some ((cs.drop off).take n):=by
  unfold zC6
  rw [h,Option.bind_some,if_pos hl]
 simp [zDb,asI,hr,h1,h2]
def GB (H : zAa) (B : Nat) (l : AV) (zs : List Int) : Prop :=
 (zs = [] ∧ l = .nilSl) ∨ (zs ≠ [] ∧ ∃ b,B ≤ b ∧ l = .sl b 0 1 zs.length zs.length false ∧ H[b]? = some (.rw (u8s zs)))
theorem GB.bs {H : zAa} {B : Nat} {l : AV} {zs : List Int} (g : GB H B l zs) : BS H l zs:=by
 rcases g with ⟨rfl,rfl⟩ | ⟨_,b,_,rfl,h⟩
 ·exact BS.nil _
 ·exact BS.block h
theorem GB.out {H : zAa} {B : Nat} {l : AV} {zs : List Int} (g : GB H B l zs) : ∀ b,slb l = some b → B ≤ b:=by
 rcases g with ⟨rfl,rfl⟩ | ⟨_,b,hb,rfl,h⟩
 ·intro b h; cases h
 ·intro b' h; injection h with h; omega
theorem GB.cells {H : zAa} {B : Nat} {l : AV} {zs : List Int} (g : GB H B l zs) : zA7 l = some [l] ∧ l.isCell = true:=by
 rcases g with ⟨rfl,rfl⟩ | ⟨_,b,_,rfl,_⟩ <;> exact ⟨rfl,rfl⟩
theorem GB.fr {H H' : zAa} {F : Nat → Prop} {B : Nat} {l : AV} {zs : List Int} (a : Fr H H' F) (g : GB H B l zs) (n : ∀ b,slb l = some b → ¬ F b) : GB H' B l zs:=by
 rcases g with g | ⟨h0,b,hb,rfl,h⟩
 ·exact .inl g
 ·exact .inr ⟨h0,b,hb,rfl,a.at h (n b rfl)⟩
theorem GB.under {H : zAa} {B : Nat} {l : AV} {zs : List Int} (g : GB H B l zs) (h0 : zs ≠ []) : l.under B = false:=by
 rcases g with ⟨rfl,_⟩ | ⟨_,b,hb,rfl,h⟩
 ·exact absurd rfl h0
 ·simp [AV.under]; omega
theorem GB.more {d : TyD} (hd : d.size = 1) (hb : d.bytes = 1) {P H : zAa} (a : Adds P H) {l y : AV} {zs ys : List Int} (g : GB H P.length l zs) (s : Src 1 H y ys.length (u8s ys)) (hn : zs.length + ys.length ≤ 1000000000) :
  ∃ l' H',Adds P H' ∧ GB H' P.length l' (zs ++ ys) ∧ Fr H H' (fun b=>slb l = some b) ∧ (ys ≠ [] → l'.under H.length = false) ∧ app d l y H = some (l',H'):=by
 obtain ⟨G,rfl⟩:=a
 unfold app
 rw [s.sl]
 simp only [Option.bind_some,hd,s.cells]
 unfold zDd
 simp only [hd,hb]
 rcases g with ⟨rfl,rfl⟩ | ⟨hne,b,hb2,rfl,hH⟩
 ·by_cases h0 : ys = []
  ·subst h0
   exact ⟨.nilSl,P ++ G,⟨G,rfl⟩,.inl ⟨rfl,rfl⟩,Fr.refl _ _,fun h=>absurd rfl h,rfl⟩
  ·have hp:=List.length_pos_iff.2 h0
   refine ⟨.sl (P ++ G).length 0 1 ys.length ys.length false,(P ++ G) ++ [.rw (u8s ys)],⟨G ++ [.rw (u8s ys)],by simp⟩,.inr ⟨h0,(P ++ G).length,by simp,rfl,by simp⟩,Fr.adds ⟨_,rfl⟩ _,fun _=>by simp [AV.under],?_⟩
   rw [if_neg (by omega),if_pos ⟨by omega,by omega,by unfold roomy; omega⟩]
 ·have hp:=List.length_pos_iff.2 hne
  by_cases h0 : ys = []
  ·subst h0
   refine ⟨_,P ++ G,⟨G,rfl⟩,.inr ⟨by simpa using hne,b,hb2,by rw [List.append_nil],by rw [List.append_nil]; exact hH⟩,Fr.refl _ _,fun h=>absurd rfl h,?_⟩
   dsimp only
   rw [if_neg (by omega),if_pos (by simp)]
  ·have hq:=List.length_pos_iff.2 h0
   refine ⟨.sl (P ++ G).length 0 1 (zs.length + ys.length) (zs.length + ys.length) false,((P ++ G).set b .dead) ++ [.rw (u8s zs ++ u8s ys)],⟨G.set (b - P.length) .dead ++ [.rw (u8s zs ++ u8s ys)],by rw [List.set_append_right _ _ hb2,List.append_assoc]⟩,.inr ⟨by simp [hne],(P ++ G).length,by simp,by simp,by rw [List.getElem?_append_right (by simp)]; simp [u8s]⟩,?_,fun _=>by simp [AV.under],?_⟩
   ·exact (Fr.set _ _ (F:=fun x=>slb (.sl b 0 1 zs.length zs.length false) = some x) rfl).trans (Fr.adds ⟨_,rfl⟩ (F:=fun _=>False)) (fun _ _ h=>h.elim)
   ·dsimp only
    rw [if_neg (by omega),if_neg (by omega),if_neg (by omega),if_pos ⟨by omega,by unfold roomy; omega⟩]
    have hrd : zC6 (P ++ G) b 0 (zs.length * 1) = some (u8s zs):=by
     unfold zC6
     rw [zAj hH]
     simp only [Option.bind_some]
     rw [if_pos (by rw [zAd]; omega),List.drop_zero,List.take_of_length_le (by rw [zAd]; omega)]
    rw [hrd]
    simp only [Option.bind_some,Bool.false_eq_true,if_false,hH]
    rw [if_pos ⟨by rw [zAd]; omega,zAo ys⟩]
end Go.Proofs.YtbmmnfeeapnhkaaGreat.Eng
end
section
set_option linter.unusedVariables false
namespace Go.Proofs.YtbmmnfeeapnhkaaGreat.Eng
open Go
theorem GR.same {k : Nat} {H H' : zAa} {B : Nat} {l : AV} {rows : List (List AV)} (g : GR k H B l rows) (e : ∀ b,slb l = some b → H'[b]? = H[b]?) : GR k H' B l rows:=by
 rcases g with g | ⟨h0,b,hb,rfl,h⟩
 ·exact .inl g
 ·exact .inr ⟨h0,b,hb,rfl,(e b rfl).trans h⟩
theorem VS.same {H H' : zAa} {L : List (AV × Sec)} {c : Nat} {P : Nat → Prop} (v : VS H L c P) (e : ∀ b,fpV L b → H'[b]? = H[b]?) : VS H' L c P :=
 ⟨v.cb,fun x hx=>(v.ver x hx).same fun b hb=>e b ⟨x,hx,hb⟩,v.ok,v.cap,v.out,v.inj⟩
theorem DK.same {H H' : zAa} {p d c : Nat} {L : List (AV × Sec)} (m : DK H p d c L) (e : ∀ b,fpD p d L b → H'[b]? = H[b]?) : DK H' p d c L :=
 ⟨(zDv (e p (.inl rfl))).trans m.ptr,(e d (.inr (.inl rfl))).trans m.blk,m.np,m.sz,m.vs.same fun b hb=>e b (.inr (.inr hb))⟩
theorem zHz {a : AV} {n b : Nat} (h : a.under n = true) (hb : slb a = some b) : b < n:=by
 cases a with
 | sl b' o z l c e=>injection hb with hb; subst hb; simpa [AV.under] using h
 | _=>cases hb
theorem zKc (h : zAa) (v : AV) (K : zAa) : (zCz h v K ∧ trim h (some (v,K)) = some (v,K.take h.length)) ∨ trim h (some (v,K)) = some (v,K):=by
 unfold trim
 simp only [Option.map_some]
 split
 ·exact .inl ⟨by assumption,rfl⟩
 ·exact .inr rfl
structure RPl where
 p : Nat
 p0 : Nat
 d0 : Nat
 p1 : Nat
 d1 : Nat
def RPl.fp (q : RPl) (L0 L1 : List (AV × Sec)) (b : Nat) : Prop:=fpR q.p q.p0 q.d0 q.p1 q.d1 L0 L1 b
def zA3 (q : RPl) (H : zAa) (c : Nat) (r : RgS) (F : Nat → Prop) : Prop:=∃ L0 L1,RG H q.p q.p0 q.d0 q.p1 q.d1 c L0 L1 r ∧ (∀ b,q.fp L0 L1 b → F b) ∧ ∀ b,F b → b < H.length
theorem zA3.rin {q : RPl} {H : zAa} {c : Nat} {r : RgS} {F : Nat → Prop} (m : zA3 q H c r F) : zRg H q.p c r F:=by
 obtain ⟨L0,L1,m,h1,h2⟩:=m
 exact ⟨_,_,_,_,L0,L1,m,h1,h2⟩
theorem zRg.at {H : zAa} {p c : Nat} {r : RgS} {F : Nat → Prop} (m : zRg H p c r F) : ∃ q : RPl,q.p = p ∧ zA3 q H c r F:=by
 obtain ⟨p0,d0,p1,d1,L0,L1,m,h1,h2⟩:=m
 exact ⟨⟨p,p0,d0,p1,d1⟩,rfl,L0,L1,m,h1,h2⟩
theorem zA3.lt {q : RPl} {H : zAa} {c : Nat} {r : RgS} {F : Nat → Prop} (m : zA3 q H c r F) : ∀ b,F b → b < H.length:=by obtain ⟨_,_,_,_,h2⟩:=m; exact h2
theorem zA3.p_lt {q : RPl} {H : zAa} {c : Nat} {r : RgS} {F : Nat → Prop} (m : zA3 q H c r F) : q.p < H.length:=by obtain ⟨_,_,m,_,_⟩:=m; exact zAl m.blk
theorem zA3.fr {q : RPl} {H H' : zAa} {c : Nat} {r : RgS} {F G : Nat → Prop} (m : zA3 q H c r F) (a : Fr H H' G) (hn : ∀ b,F b → ¬ G b) : zA3 q H' c r F:=by
 obtain ⟨L0,L1,m,h1,h2⟩:=m
 exact ⟨L0,L1,m.fr a fun b hb=>hn b (h1 b hb),h1,fun b hb=>Nat.lt_of_lt_of_le (h2 b hb) a.1⟩
theorem zA3.adds {q : RPl} {H : zAa} {c : Nat} {r : RgS} {F : Nat → Prop} (m : zA3 q H c r F) (B : zAa) : zA3 q (H ++ B) c r F:=m.fr (Fr.adds ⟨B,rfl⟩ (fun _=>False)) (fun _ _ h=>h)
theorem zA3.up {q : RPl} {H : zAa} {c c' : Nat} {r : RgS} {F : Nat → Prop} (m : zA3 q H c r F) (h : c ≤ c') (hb : c' ≤ 1000000000) : zA3 q H c' r F:=by
 obtain ⟨L0,L1,m,h1,h2⟩:=m
 exact ⟨L0,L1,m.up h hb,h1,h2⟩
theorem zRj {H K : zAa} {d c0 : Nat} {L L0 : List (AV × Sec)} {P0 : Nat → Prop} {v : AV} (t : zCz H v K) (hd : H[d]? = some (.rw (L0.map secR).flatten)) (v0 : VS H L0 c0 P0) (hk : K[d]? = some (.rw (L.map secR).flatten)) {b : Nat} (hb : fpV L b) : b < H.length:=by
 obtain ⟨x,hx,hb⟩:=hb
 have mem : x.1 ∈ (L.map secR).flatten:=List.mem_flatten.2 ⟨_,List.mem_map.2 ⟨_,hx,rfl⟩,by unfold secR; simp⟩
 rcases t.2.2 d _ (zAl hd) hk x.1 mem with h | ⟨k,hk2,ha⟩
 ·exact zHz h hb
 ·rw [hd] at hk2; injection hk2 with hk2; subst hk2
  exact zHz (zDx v0 _ ha) hb
theorem zEp {K : zAa} {n b : Nat} (h : b < n) : (K.take n)[b]? = K[b]?:=by rw [List.getElem?_take,if_pos h]
theorem zA3.trim {q : RPl} {H K : zAa} {c c0 : Nat} {r r0 : RgS} {F F' : Nat → Prop} (m0 : zA3 q H c0 r0 F) (m : zA3 q K c r F') (s : zBm H F K F') (v : AV) : ∃ H' F'',trim H (some (v,K)) = some (v,H') ∧ zA3 q H' c r F'' ∧ zBm H F H' F'' ∧ Fr H H' F:=by
 rcases zKc H v K with ⟨t,e⟩ | e
 ·obtain ⟨A0,A1,m0,_,_⟩:=m0
  obtain ⟨L0,L1,m,h1,h2⟩:=m
  have lt : ∀ b,q.fp L0 L1 b → b < H.length:=fun b hb=>by
   rcases hb with rfl | (rfl | rfl | hb) | (rfl | rfl | hb)
   ·exact zAl m0.blk
   ·exact zBn m0.k0.ptr
   ·exact zAl m0.k0.blk
   ·exact zRj t m0.k0.blk m0.k0.vs m.k0.blk hb
   ·exact zBn m0.k1.ptr
   ·exact zAl m0.k1.blk
   ·exact zRj t m0.k1.blk m0.k1.vs m.k1.blk hb
  have hl : (K.take H.length).length = H.length:=by rw [List.length_take]; have:=t.1; omega
  have f : Fr H (K.take H.length) F:=⟨by omega,fun b hb hn=>(zEp hb).trans (s.1.2 b hb hn)⟩
  refine ⟨K.take H.length,fun b=>F' b ∧ b < H.length,e,⟨L0,L1,⟨?_,?_,?_,m.e0,m.e1,m.dis,m.n0,m.n1⟩,fun b hb=>⟨h1 b hb,lt b hb⟩,fun b hb=>by rw [hl]; exact hb.2⟩,⟨f,fun b hb=>s.2 b hb.1⟩,f⟩
  ·exact (zEp (lt _ (.inl rfl))).trans m.blk
  ·exact m.k0.same fun b hb=>zEp (lt b (.inr (.inl hb)))
  ·exact m.k1.same fun b hb=>zEp (lt b (.inr (.inr hb)))
 ·exact ⟨K,F',e,m,s,s.1⟩
structure QPl where
 p : Nat
 x : Pl
 y : Pl
def RefAt (q : QPl) (H : zAa) (c : Nat) (r : RgS) (F : Nat → Prop) : Prop:=∃ L0 L1,RQ H q.p q.x q.y c L0 L1 r ∧ (∀ b,fpW q.p q.x q.y L0 L1 b → F b) ∧ ∀ b,F b → b < H.length
end Go.Proofs.YtbmmnfeeapnhkaaGreat.Eng
end
section
set_option linter.unusedVariables false
namespace Go.Proofs.YtbmmnfeeapnhkaaGreat.Eng
open Go
theorem exF2 {t : T} {f : (Nat → AV) → T} {Q : (Nat → AV) → Prop} (h : t = f (getT t)) (q : Q (getT t)) : ∃ k,t = f k ∧ Q k:=⟨getT t,h,q⟩
structure ImS where
 i : Int
 b : List Int
deriving DecidableEq
def ImS.cells (x : ImS) : List AV:=.int .i64 x.i :: u8s x.b
deriving instance DecidableEq for PgS
theorem zpg_ok : zpg.Ok:=⟨by decide,by decide,by decide,zB7⟩
theorem zJb {z : List Int} (h : B64 z) : (decS z).1.Ok:=by
 unfold decS
 split
 ·exact zWc h
 ·exact zpg_ok
theorem eq_pg {p p' : PgS} (h : p.b.length = 48) (h' : p'.b.length = 48) : binV .eql (.flat 51) (.agg p.cells) (.agg p'.cells) = some (.bool (decide (p = p'))):=by
 obtain ⟨m,s,i,b⟩:=p
 obtain ⟨m',s',i',b'⟩:=p'
 simp only at h h'
 have e:=zG3 b b' (by omega)
 have l : (PgS.cells ⟨m,s,i,b⟩).length = 51:=by simp [PgS.cells,zAd,h]
 have l' : (PgS.cells ⟨m',s',i',b'⟩).length = 51:=by simp [PgS.cells,zAd,h']
 have key : zEr (PgS.cells ⟨m,s,i,b⟩) (PgS.cells ⟨m',s',i',b'⟩) = some (decide ((⟨m,s,i,b⟩ : PgS) = ⟨m',s',i',b'⟩)):=by
  unfold PgS.cells
  simp only [zEr,zMj,if_true,Option.bind_some,e,Option.map_some,Option.some.injEq]
  by_cases h1 : m = m' <;> by_cases h2 : s = s' <;> by_cases h3 : i = i' <;> by_cases h4 : b = b' <;> simp [h1,h2,h3,h4]
 simp only [binV,eqV,l,l',key]
 simp
def zGc (r : RgS) (f c place : Int) : PgS × Int:=if (r.read 0 (f + place.tmod c)).2 = 0 then ((decS (r.read 0 (f + place.tmod c)).1).1,0) else (zpg,(r.read 0 (f + place.tmod c)).2)
def zCh (seq : Int) (k : Nat) : PgS:=⟨67,seq,k,zA2⟩
def zEe (r : RgS) (f c at_ seq : Int) : Nat → List ImS → List ImS × Int
 | 0,_=>([],0)
 | n + 1,l =>
  if (zGc r f c (at_ + (l.length : Int))).2 = 0 then
   if (zGc r f c (at_ + (l.length : Int))).1.s = seq then
    if (zGc r f c (at_ + (l.length : Int))).1.m = 73 then zEe r f c at_ seq n (l ++ [⟨(zGc r f c (at_ + (l.length : Int))).1.i,(zGc r f c (at_ + (l.length : Int))).1.b⟩])
    else if (zGc r f c (at_ + (l.length : Int))).1 = zCh seq l.length then (l,0) else ([],0)
   else ([],0)
  else ([],(zGc r f c (at_ + (l.length : Int))).2)
structure LogS where
 t : List (List ImS)
 at_ : Int
 seq : Int
def zGb (r : RgS) (f c : Int) : Nat → LogS → LogS × Int
 | 0,l=>(l,0)
 | n + 1,l =>
  if (zEe r f c l.at_ l.seq c.toNat []).2 = 0 then
   if (zEe r f c l.at_ l.seq c.toNat []).1 = [] then (l,0)
   else zGb r f c n ⟨l.t ++ [(zEe r f c l.at_ l.seq c.toNat []).1],(l.at_ + ((zEe r f c l.at_ l.seq c.toNat []).1.length : Int) + 1).tmod c,IntKind.u32.wrap (l.seq + 1)⟩
  else (⟨[],0,0⟩,(zEe r f c l.at_ l.seq c.toNat []).2)
def zGr (r : RgS) (f c at_ : Int) : Prop:=0 ≤ f ∧ 2 ≤ c ∧ c ≤ 256 ∧ f ≤ (r.a.length : Int) - c ∧ 0 ≤ at_ ∧ at_ < c
instance (r : RgS) (f c at_ : Int) : Decidable (zGr r f c at_):=by unfold zGr; exact inferInstance
def zBs (r : RgS) (f c at_ seq : Int) : LogS × Int:=if zGr r f c at_ then zGb r f c c.toNat ⟨[],at_,seq⟩ else (⟨[],0,0⟩,1)
def zCq (r : RgS) (f c place : Int) (p : PgS) : RgS × Int:=r.write 0 (f + place.tmod c) p.enc.1
def zCa (f c at_ seq : Int) : RgS → Nat → List ImS → RgS × Int
 | r,_,[]=>(r,0)
 | r,k,x :: l=>if (zCq r f c (at_ + (k : Int)) ⟨73,seq,x.i,x.b⟩).2 = 0 then zCa f c at_ seq (zCq r f c (at_ + (k : Int)) ⟨73,seq,x.i,x.b⟩).1 (k + 1) l else zCq r f c (at_ + (k : Int)) ⟨73,seq,x.i,x.b⟩
def okIm (x : ImS) : Bool:=decide (0 ≤ x.i) && decide (x.i ≤ 65535)
def zBu (r : RgS) (f c at_ seq : Int) (l : List ImS) : RgS × (Int × Int) :=
 if zGr r f c at_ then
  if 1 ≤ l.length ∧ (l.length : Int) ≤ c - 1 then
   if l.all okIm = true then
    if (zCa f c at_ seq r 0 l).2 = 0 then
     if ((zCa f c at_ seq r 0 l).1.flush 0).2 = 0 then
      if (zCq ((zCa f c at_ seq r 0 l).1.flush 0).1 f c (at_ + (l.length : Int)) (zCh seq l.length)).2 = 0 then
       if ((zCq ((zCa f c at_ seq r 0 l).1.flush 0).1 f c (at_ + (l.length : Int)) (zCh seq l.length)).1.flush 0).2 = 0 then
        (((zCq ((zCa f c at_ seq r 0 l).1.flush 0).1 f c (at_ + (l.length : Int)) (zCh seq l.length)).1.flush 0).1,((at_ + (l.length : Int) + 1).tmod c,0))
       else (((zCq ((zCa f c at_ seq r 0 l).1.flush 0).1 f c (at_ + (l.length : Int)) (zCh seq l.length)).1.flush 0).1,(0,((zCq ((zCa f c at_ seq r 0 l).1.flush 0).1 f c (at_ + (l.length : Int)) (zCh seq l.length)).1.flush 0).2))
      else ((zCq ((zCa f c at_ seq r 0 l).1.flush 0).1 f c (at_ + (l.length : Int)) (zCh seq l.length)).1,(0,(zCq ((zCa f c at_ seq r 0 l).1.flush 0).1 f c (at_ + (l.length : Int)) (zCh seq l.length)).2))
     else (((zCa f c at_ seq r 0 l).1.flush 0).1,(0,((zCa f c at_ seq r 0 l).1.flush 0).2))
    else ((zCa f c at_ seq r 0 l).1,(0,(zCa f c at_ seq r 0 l).2))
   else (r,(0,1))
  else (r,(0,2))
 else (r,(0,1))
end Go.Proofs.YtbmmnfeeapnhkaaGreat.Eng
end
section
set_option linter.unusedVariables false
namespace Go.Proofs.YtbmmnfeeapnhkaaGreat.Eng
open Go
theorem zKw (r : RgS) (f c a s : Int) : ∀ (n : Nat) (l : List ImS),(zEe r f c a s n l).1.length ≤ n + l.length
 | 0,l=>by simp [zEe]
 | n + 1,l=>by
  unfold zEe
  split
  ·split
   ·split
    ·have:=zKw r f c a s n (l ++ [⟨(zGc r f c (a + (l.length : Int))).1.i,(zGc r f c (a + (l.length : Int))).1.b⟩])
     rw [List.length_append,List.length_singleton] at this
     omega
    ·split
     ·simp only; omega
     ·simp
   ·simp
  ·simp
def zBt (l : List ImS) : List (List AV):=l.map ImS.cells
theorem GR.low {k : Nat} {H : zAa} {B B' : Nat} {l : AV} {rows : List (List AV)} (g : GR k H B l rows) (h : B' ≤ B) : GR k H B' l rows:=by
 rcases g with g | ⟨h0,b,hb,h2⟩
 ·exact .inl g
 ·exact .inr ⟨h0,b,by omega,h2⟩
theorem GR.out {k : Nat} {H : zAa} {B : Nat} {l : AV} {rows : List (List AV)} (g : GR k H B l rows) : ∀ b,slb l = some b → B ≤ b ∧ b < H.length:=by
 rcases g with ⟨_,rfl⟩ | ⟨_,b,hb,rfl,h⟩
 ·intro b h; cases h
 ·intro b' h2; injection h2 with h2; subst h2; exact ⟨hb,zAl h⟩
theorem GR.frS {k : Nat} {H H' : zAa} {F : Nat → Prop} {B : Nat} {l : AV} {rows : List (List AV)} (g : GR k H B l rows) (a : Fr H H' F) (n : ∀ b,slb l = some b → ¬ F b) : GR k H' B l rows :=
 g.same fun b hb=>a.2 b (g.out b hb).2 (n b hb)
theorem GR.read {k : Nat} (hk : 1 ≤ k) {H : zAa} {B : Nat} {l : AV} {rows : List (List AV)} (g : GR k H B l rows) (hr : ∀ r ∈ rows,r.length = k) {i : Nat} {r : List AV} (hi : rows[i]? = some r) :
  ∃ b cs,slb l = some b ∧ zB0 k l (.int .i64 (i : Int)) = some (.ptr b (i * k)) ∧ cellsOf H b = some cs ∧ (cs.drop (i * k)).take k = r ∧ i * k + k ≤ cs.length:=by
 rcases g with ⟨rfl,_⟩ | ⟨_,b,_,rfl,h⟩
 ·simp at hi
 ·obtain ⟨q1,q2⟩:=zH1 hr hi 0 k (by omega)
  rw [Nat.add_zero] at q1 q2
  refine ⟨b,_,rfl,zEf b k _ _ i false .i64 hk (List.getElem?_eq_some_iff.1 hi).1,zAj h,?_,q2⟩
  rw [q1,List.drop_zero,List.take_of_length_le (by rw [hr r (List.mem_of_getElem? hi)]; exact Nat.le_refl _)]
def oneR (vs : List AV) : List (List AV):=vs.map fun a=>[a]
structure LogH (H : zAa) (B : Nat) (v : AV) (T : List (List ImS)) (vs : List AV) : Prop where
 g : GR 1 H B v (oneR vs)
 len : vs.length = T.length
 el : ∀ (i : Nat) a t,vs[i]? = some a → T[i]? = some t → GR 49 H B a (zBt t)
 ap : ∀ a ∈ vs,∀ b,slb a = some b → slb v ≠ some b
 b48 : ∀ t ∈ T,∀ x ∈ t,x.b.length = 48
theorem LogH.nil (H : zAa) (B : Nat) : LogH H B .nilSl [] []:=⟨.inl ⟨rfl,rfl⟩,rfl,fun i a t h=>(by simp at h),fun a h=>(by cases h),fun t h=>(by cases h)⟩
theorem LogH.elV {H : zAa} {B : Nat} {v : AV} {T : List (List ImS)} {vs : List AV} (l : LogH H B v T vs) {a : AV} (h : a ∈ vs) : ∃ rows,GR 49 H B a rows:=by
 obtain ⟨i,hi⟩:=List.getElem?_of_mem h
 have lt:=(List.getElem?_eq_some_iff.1 hi).1
 rw [l.len] at lt
 exact ⟨_,l.el i a _ hi (List.getElem?_eq_getElem lt)⟩
theorem LogH.fr {H H' : zAa} {B : Nat} {v : AV} {T : List (List ImS)} {vs : List AV} {F : Nat → Prop} (l : LogH H B v T vs) (a : Fr H H' F) (n : ∀ b,B ≤ b → ¬ F b) : LogH H' B v T vs :=
 ⟨l.g.frS a fun b hb=>n b (l.g.out b hb).1,l.len,fun i x t h1 h2=>(l.el i x t h1 h2).frS a fun b hb=>n b ((l.el i x t h1 h2).out b hb).1,l.ap,l.b48⟩
theorem LogH.low {H : zAa} {B B' : Nat} {v : AV} {T : List (List ImS)} {vs : List AV} (l : LogH H B v T vs) (h : B' ≤ B) : LogH H B' v T vs :=
 ⟨l.g.low h,l.len,fun i x t h1 h2=>(l.el i x t h1 h2).low h,l.ap,l.b48⟩
theorem zR6 (vs : List AV) : ∀ r ∈ oneR vs,r.length = 1:=fun r hr=>by obtain ⟨a,_,rfl⟩:=List.mem_map.1 hr; rfl
theorem LogH.push {d : TyD} (hd : d.size = 1) (hb : d.bytes = 24) {K K1 : zAa} {B : Nat} {v l : AV} {T : List (List ImS)} {vs : List AV} {t : List ImS} (h : LogH K B v T vs) (a : Adds K K1) (g : GR 49 K1 K.length l (zBt t)) (h48 : ∀ x ∈ t,x.b.length = 48) (hB : B ≤ K.length) (hn : T.length ≤ 1000) :
  ∃ v' K2,app d v (.sl K1.length 0 1 1 1 true) (K1 ++ [.rw [l]]) = some (v',K2) ∧ LogH K2 B v' (T ++ [t]) (vs ++ [l]) ∧ Fr K1 K2 (fun b=>slb v = some b) ∧ K1.length ≤ K2.length ∧ zA7 v' = some [v'] ∧ v'.isCell = true:=by
 have lc:=g.cells
 have g0 : GR 1 (K1 ++ [.rw [l]]) B v (oneR vs):=h.g.frS (Fr.adds (a.trans ⟨_,rfl⟩) (fun _=>False)) fun _ _ h=>h
 have hvl : (oneR vs).length = T.length:=by unfold oneR; rw [List.length_map,h.len]
 have ea:=GR.app2 (k:=1) (by omega) (d:=d) hd (by omega) (y:=.sl K1.length 0 1 1 1 true) (r:=[l]) g0 (zR6 vs) rfl (by
  unfold zBx zC6 cellsOf
  simp) (by simp [lc.2]) (by rw [hvl,hb]; unfold roomy; omega)
 have e1 : oneR vs ++ [[l]] = oneR (vs ++ [l]):=by unfold oneR; rw [List.map_append]; rfl
 rw [e1] at ea
 have le1 : (oneR vs).length + 1 = (oneR (vs ++ [l])).length:=by unfold oneR; simp
 rw [le1] at ea
 have fr : Fr (K1 ++ [ABlk.rw [l]]) (zI0 v (K1 ++ [ABlk.rw [l]]) ++ [ABlk.rw (oneR (vs ++ [l])).flatten]) (fun b=>slb v = some b):=(Fr.kill v _).trans (Fr.adds ⟨_,rfl⟩ (fun _=>False)) (fun _ _ h=>h.elim)
 have fr1 : Fr K1 (zI0 v (K1 ++ [ABlk.rw [l]]) ++ [ABlk.rw (oneR (vs ++ [l])).flatten]) (fun b=>slb v = some b):=(Fr.adds (⟨[ABlk.rw [l]],rfl⟩ : Adds K1 (K1 ++ [ABlk.rw [l]])) _).trans fr fun _ _ h=>h
 refine ⟨_,_,ea,⟨.inr ⟨by unfold oneR; simp,(K1 ++ [ABlk.rw [l]]).length,?_,rfl,?_⟩,by simp [h.len],fun i x t' hi ht=>?_,fun x hx b hb=>?_,fun t' ht x hx=>?_⟩,fr1,fr1.1,rfl,rfl⟩
 ·obtain ⟨G,rfl⟩:=a; simp; omega
 ·rw [List.getElem?_append_right (by rw [zD3]; exact Nat.le_refl _),zD3,Nat.sub_self]; rfl
 ·by_cases e : i < vs.length
  ·rw [List.getElem?_append_left e] at hi
   rw [List.getElem?_append_left (by rw [← h.len]; exact e)] at ht
   have g1:=h.el i x t' hi ht
   exact (g1.frS (Fr.adds a (fun _=>False)) fun _ _ h=>h).frS fr1 fun b hb hv=>h.ap x (List.mem_of_getElem? hi) b hb hv
  ·have : i = vs.length:=by
    have:=(List.getElem?_eq_some_iff.1 hi).1
    rw [List.length_append,List.length_singleton] at this; omega
   subst this
   rw [List.getElem?_append_right (Nat.le_refl _),Nat.sub_self] at hi
   rw [List.getElem?_append_right (by rw [h.len]; exact Nat.le_refl _),h.len,Nat.sub_self] at ht
   simp only [List.getElem?_cons_zero,Option.some.injEq] at hi ht
   subst hi; subst ht
   exact (g.low hB).frS fr1 fun b hb hv=>by
    have h1:=(g.out b hb).1
    have h2:=(h.g.out b hv).2
    omega
 ·intro hv
  injection hv with hv
  rcases List.mem_append.1 hx with hx | hx
  ·obtain ⟨rows,gx⟩:=h.elV hx
   have:=(gx.out b hb).2
   obtain ⟨G,rfl⟩:=a
   simp only [List.length_append,List.length_singleton] at hv
   omega
  ·rw [List.mem_singleton.1 hx] at hb
   have:=(g.out b hb).2
   rw [List.length_append,List.length_singleton] at hv
   omega
 ·rcases List.mem_append.1 ht with ht | ht
  ·exact h.b48 t' ht x hx
  ·rw [List.mem_singleton.1 ht] at hx; exact h48 x hx
end Go.Proofs.YtbmmnfeeapnhkaaGreat.Eng
end
section
namespace Go.Proofs.YtbmmnfeeapnhkaaGreat.Eng
open Go
end Go.Proofs.YtbmmnfeeapnhkaaGreat.Eng
end
section
set_option linter.unusedVariables false
namespace Go.Proofs.YtbmmnfeeapnhkaaGreat.Eng
open Go
theorem zQr {k : Nat} (hk : 1 ≤ k) {d : TyD} (hd : d.size = k) (hb : 1 ≤ d.bytes) {K : zAa} {B s : Nat} {l : AV} {rows : List (List AV)} {r : List AV} (g : GR k K B l rows) (hr : ∀ x ∈ rows,x.length = k) (hs : cellsOf K s = some r) (hl : r.length = k)
  (hc : r.all AV.isCell = true) (hn : (rows.length + 1) * d.bytes ≤ roomy) (hB : B ≤ K.length) : ∃ v' K',Eng.app d l (.sl s 0 k 1 1 true) K = some (v',K') ∧ GR k K' B v' (rows ++ [r]) ∧ Fr K K' (fun b=>slb l = some b) ∧ slb v' = some K.length ∧ K'.length = K.length + 1 ∧ zA7 v' = some [v'] ∧ v'.isCell = true:=by
 have ea:=GR.app2 hk hd hb (y:=.sl s 0 k 1 1 true) g hr rfl (by
  unfold zBx zC6
  simp [hs,hl,List.take_of_length_le (Nat.le_of_eq hl)]) hc hn
 have fr : Fr K (zI0 l K ++ [ABlk.rw (rows ++ [r]).flatten]) (fun b=>slb l = some b):=(Fr.kill l K).trans (Fr.adds ⟨_,rfl⟩ (fun _=>False)) (fun _ _ h=>h.elim)
 refine ⟨_,_,ea,.inr ⟨by simp,K.length,hB,?_,?_⟩,fr,rfl,by rw [List.length_append,zD3]; rfl,rfl,rfl⟩
 ·simp
 ·rw [List.getElem?_append_right (by rw [zD3]; exact Nat.le_refl _),zD3,Nat.sub_self]; rfl
abbrev PrS:=Int × Int
def prC (p : PrS) : List AV:=[.int .i64 p.1,.int .i64 p.2]
def PS (H : zAa) (v : AV) (l : List PrS) : Prop:=RS 2 H v (l.map prC)
theorem im_read {H : zAa} {B : Nat} {w : AV} {l : List ImS} (g : GR 49 H B w (zBt l)) (h48 : ∀ x ∈ l,x.b.length = 48) {i : Nat} {x : ImS} (hx : l[i]? = some x) :
  ∃ b cs,slb w = some b ∧ zB0 49 w (.int .i64 (i : Int)) = some (.ptr b (i * 49)) ∧ cellsOf H b = some cs ∧ cs[i * 49]? = some (.int .i64 x.i) ∧ (cs.drop (i * 49 + 1)).take 48 = u8s x.b ∧ (cs.drop (i * 49)).take 49 = x.cells ∧ i * 49 + 49 ≤ cs.length:=by
 obtain ⟨b,cs,sb,ix,hc,ht,hle⟩:=GR.read (by omega) g (fun r hr=>by
  obtain ⟨y,hy,rfl⟩:=List.mem_map.1 hr
  simp [ImS.cells,zAd,h48 y hy]) (zCf ImS.cells hx)
 refine ⟨b,cs,sb,ix,hc,?_,?_,ht,hle⟩
 ·have:=congrArg (fun q : List AV=>q[0]?) ht
  rw [List.getElem?_take,if_pos (by omega),List.getElem?_drop,Nat.add_zero] at this
  exact this
 ·have:=congrArg (fun q : List AV=>q.drop 1) ht
  simp only [List.drop_take,List.drop_drop] at this
  exact this
theorem LogH.row {H : zAa} {B : Nat} {v : AV} {T : List (List ImS)} {vs : List AV} (h : LogH H B v T vs) {i : Nat} {t : List ImS} (ht : T[i]? = some t) :
  ∃ a b cs,vs[i]? = some a ∧ slb v = some b ∧ zB0 1 v (.int .i64 (i : Int)) = some (.ptr b i) ∧ cellsOf H b = some cs ∧ cs[i]? = some a ∧ i + 1 ≤ cs.length ∧ GR 49 H B a (zBt t) ∧ ∀ x ∈ t,x.b.length = 48:=by
 have lt:=(List.getElem?_eq_some_iff.1 ht).1
 rw [← h.len] at lt
 have hv:=List.getElem?_eq_getElem lt
 obtain ⟨b,cs,sb,ix,hc,hr,hle⟩:=GR.read (by omega) h.g (zR6 vs) (zCf (fun a=>[a]) hv)
 rw [Nat.mul_one] at ix hr hle
 refine ⟨vs[i],b,cs,hv,sb,ix,hc,?_,hle,h.el i _ t hv ht,h.b48 t (List.mem_of_getElem? ht)⟩
 have:=congrArg (fun q : List AV=>q[0]?) hr
 rw [List.getElem?_take,if_pos (by omega),List.getElem?_drop,Nat.add_zero] at this
 exact this
theorem LogH.lenSl {H : zAa} {B : Nat} {v : AV} {T : List (List ImS)} {vs : List AV} (h : LogH H B v T vs) : Eng.lenSl v = some (.int .i64 T.length):=by
 have:=h.g.len
 unfold oneR at this
 rwa [List.length_map,h.len] at this
theorem im_len {H : zAa} {B : Nat} {w : AV} {l : List ImS} (g : GR 49 H B w (zBt l)) : lenSl w = some (.int .i64 l.length):=by
 have:=g.len
 unfold zBt at this
 rwa [List.length_map] at this
end Go.Proofs.YtbmmnfeeapnhkaaGreat.Eng
end
section
set_option linter.unusedVariables false
namespace Go.Proofs.YtbmmnfeeapnhkaaGreat.Eng
open Go
section
variable {r q : RgS} (e : ∀ i,r.read 0 i = q.read 0 i)
include e
end
theorem zOv (r : RgS) (f c : Int) : ∀ (n : Nat) (l : LogS),(zGb r f c n l).1.t.length ≤ n + l.t.length ∧ ∀ t ∈ (zGb r f c n l).1.t,t ∈ l.t ∨ t.length ≤ c.toNat
 | 0,l=>⟨by simp [zGb],fun t h=>.inl h⟩
 | n + 1,l=>by
  unfold zGb
  split
  ·split
   ·exact ⟨by simp only; omega,fun t h=>.inl h⟩
   ·obtain ⟨q1,q2⟩:=zOv r f c n ⟨l.t ++ [(zEe r f c l.at_ l.seq c.toNat []).1],(l.at_ + ((zEe r f c l.at_ l.seq c.toNat []).1.length : Int) + 1).tmod c,IntKind.u32.wrap (l.seq + 1)⟩
    refine ⟨by rw [List.length_append,List.length_singleton] at q1; omega,fun t h=>?_⟩
    rcases q2 t h with h | h
    ·rcases List.mem_append.1 h with h | h
     ·exact .inl h
     ·rw [List.mem_singleton.1 h]
      have:=zKw r f c l.at_ l.seq c.toNat []
      rw [List.length_nil] at this
      exact .inr (by omega)
    ·exact .inr h
  ·exact ⟨by simp,fun t h=>by cases h⟩
theorem zKo (r : RgS) (f c a s : Int) : (zBs r f c a s).1.t.length ≤ 256 ∧ ∀ t ∈ (zBs r f c a s).1.t,t.length ≤ 256:=by
 unfold zBs
 split
 ·rename_i h
  obtain ⟨h1,h2,h3,_⟩:=h
  obtain ⟨q1,q2⟩:=zOv r f c c.toNat ⟨[],a,s⟩
  rw [List.length_nil] at q1
  exact ⟨by omega,fun t h=>(q2 t h).elim (fun h=>by cases h) fun h=>by omega⟩
 ·exact ⟨by simp,fun t h=>by cases h⟩
section
variable {R : RgS → RgS → Prop} (hw : ∀ r q i z,R r q → (r.write 0 i z).2 = (q.write 0 i z).2 ∧ R (r.write 0 i z).1 (q.write 0 i z).1) (hf : ∀ r q,R r q → (r.flush 0).2 = (q.flush 0).2 ∧ R (r.flush 0).1 (q.flush 0).1)
include hw hf
omit hf in
theorem zLx (f c a : Int) (p : PgS) {r q : RgS} (h : R r q) : (zCq r f c a p).2 = (zCq q f c a p).2 ∧ R (zCq r f c a p).1 (zCq q f c a p).1:=hw _ _ _ _ h
omit hf in
theorem zL5 (f c a s : Int) : ∀ (l : List ImS) (k : Nat) {r q : RgS},R r q → (zCa f c a s r k l).2 = (zCa f c a s q k l).2 ∧ R (zCa f c a s r k l).1 (zCa f c a s q k l).1
 | [],k,r,q,h=>⟨rfl,h⟩
 | x :: l,k,r,q,h=>by
  obtain ⟨h1,h2⟩:=zLx hw f c (a + (k : Int)) ⟨73,s,x.i,x.b⟩ h
  unfold zCa
  rw [h1]
  split
  ·exact zL5 f c a s l (k + 1) h2
  ·exact ⟨h1,h2⟩
theorem zY3 (f c a s : Int) (l : List ImS) {r q : RgS} (h : R r q) (hl : r.a.length = q.a.length) : (zBu r f c a s l).2 = (zBu q f c a s l).2 ∧ R (zBu r f c a s l).1 (zBu q f c a s l).1:=by
 obtain ⟨p1,p2⟩:=zL5 hw f c a s l 0 h
 have hg : zGr r f c a ↔ zGr q f c a:=by unfold zGr; rw [hl]
 unfold zBu
 simp only [hg,p1]
 generalize zCa f c a s r 0 l = A at *
 generalize zCa f c a s q 0 l = B at *
 obtain ⟨f1,f2⟩:=hf _ _ p2
 rw [f1]
 generalize A.1.flush 0 = A1 at *
 generalize B.1.flush 0 = B1 at *
 obtain ⟨w1,w2⟩:=zLx hw f c (a + (l.length : Int)) (zCh s l.length) f2
 rw [w1]
 generalize zCq A1.1 f c (a + (l.length : Int)) (zCh s l.length) = A2 at *
 generalize zCq B1.1 f c (a + (l.length : Int)) (zCh s l.length) = B2 at *
 obtain ⟨g1,g2⟩:=hf _ _ w2
 rw [g1]
 split
 ·split
  ·split
   ·split
    ·split
     ·split
      ·split
       ·exact ⟨rfl,g2⟩
       ·exact ⟨rfl,g2⟩
      ·exact ⟨rfl,w2⟩
     ·exact ⟨rfl,f2⟩
    ·exact ⟨rfl,p2⟩
   ·exact ⟨rfl,h⟩
  ·exact ⟨rfl,h⟩
 ·exact ⟨rfl,h⟩
end
theorem zUr {P : RgS → Prop} (hw : ∀ r i z,P r → P (r.write 0 i z).1) (hf : ∀ r,P r → P (r.flush 0).1) (f c a s : Int) (l : List ImS) {r : RgS} (h : P r) : P (zBu r f c a s l).1:=by
 have:=zY3 (R:=fun r q=>r = q ∧ P r) (fun r q i z ⟨e,h⟩=>by subst e; exact ⟨rfl,rfl,hw r i z h⟩) (fun r q ⟨e,h⟩=>by subst e; exact ⟨rfl,rfl,hf r h⟩) f c a s l (r:=r) (q:=r) ⟨rfl,h⟩ rfl
 exact this.2.2
structure Up (r : RgS) : Prop where
 fuse : r.fuse = -1
 down : r.down = false
theorem Up.pass {r : RgS} (u : Up r) : r.pass = ({ r with done:=IntKind.i64.wrap (r.done + 1) },0):=by
 unfold RgS.pass
 rw [if_neg (by rw [u.fuse,u.down]; simp),u.fuse]
 simp only [Int.reduceNeg,gt_iff_lt,Int.reduceLT,if_false]
theorem put_up {r : RgS} (u : Up r) (dev : Int) (l : List Sec) : Up (r.put dev l):=by
 unfold RgS.put; split
 ·exact ⟨u.fuse,u.down⟩
 ·split
  ·exact ⟨u.fuse,u.down⟩
  ·exact u
theorem Up.write {r : RgS} (u : Up r) (dev i : Int) (z : List Int) : Up (r.write dev i z).1:=by
 unfold RgS.write
 rw [u.pass]
 split
 ·simp only [if_true]
  exact put_up (r:={ r with done:=IntKind.i64.wrap (r.done + 1) }) ⟨u.fuse,u.down⟩ _ _
 ·exact u
theorem Up.flush {r : RgS} (u : Up r) (dev : Int) : Up (r.flush dev).1:=by
 unfold RgS.flush
 rw [u.pass]
 split
 ·simp only [if_true]
  exact put_up (r:={ r with done:=IntKind.i64.wrap (r.done + 1) }) ⟨u.fuse,u.down⟩ _ _
 ·exact u
end Go.Proofs.YtbmmnfeeapnhkaaGreat.Eng
end
section
set_option linter.unusedVariables false
namespace Go.Proofs.YtbmmnfeeapnhkaaGreat.Eng
open Go
def cont (r : RgS) (i : Nat) : List Int:=((r.a[i]?).getD zsec).last
def zF8 (r : RgS) : Prop:=∀ s ∈ r.a,s.vers = []
theorem zPa (s : Sec) (z : List Int) : Sec.last ⟨s.there,s.vers ++ [z]⟩ = z:=by simp [Sec.last]
theorem zJd {r : RgS} (u : Up r) {i : Nat} (h : i < r.a.length) (z : List Int) : (r.write 0 (i : Int) z).2 = 0 ∧ Up (r.write 0 (i : Int) z).1 ∧ (r.write 0 (i : Int) z).1.a.length = r.a.length ∧ ∀ j,cont (r.write 0 (i : Int) z).1 j = if j = i then z else cont r j:=by
 have ur:=u.write 0 (i : Int) z
 have e : r.write 0 (i : Int) z = ({ r with done:=IntKind.i64.wrap (r.done + 1),a:=r.a.modify i fun s=>⟨s.there,s.vers ++ [z]⟩ },0):=by
  unfold RgS.write
  rw [if_pos ⟨by omega,by show (i : Int) < (r.a.length : Int); omega⟩,u.pass,Int.toNat_natCast]
  rfl
 rw [e] at ur ⊢
 refine ⟨rfl,ur,by simp,fun j=>?_⟩
 unfold cont
 show (((r.a.modify i _)[j]?).getD zsec).last = _
 rw [List.getElem?_modify]
 by_cases q : j = i
 ·subst q
  rw [if_pos rfl,List.getElem?_eq_getElem h]
  simp [zPa]
 ·rw [if_neg q]; simp [show ¬ i = j from fun h=>q h.symm]
theorem zJe {r : RgS} (u : Up r) : (r.flush 0).2 = 0 ∧ Up (r.flush 0).1 ∧ (r.flush 0).1.a.length = r.a.length ∧ (∀ j,cont (r.flush 0).1 j = cont r j) ∧ zF8 (r.flush 0).1:=by
 have ur:=u.flush 0
 have e : r.flush 0 = ({ r with done:=IntKind.i64.wrap (r.done + 1),a:=r.a.map settled },0):=by
  unfold RgS.flush
  rw [if_pos (.inl rfl),u.pass]
  rfl
 rw [e] at ur ⊢
 refine ⟨rfl,ur,by simp,fun j=>?_,fun s hs=>?_⟩
 ·unfold cont
  show (((r.a.map settled)[j]?).getD zsec).last = _
  rw [List.getElem?_map]
  cases r.a[j]? <;> rfl
 ·obtain ⟨x,_,rfl⟩:=List.mem_map.1 hs; rfl
structure Rn (r : RgS) (f c : Nat) : Prop where
 up : Up r
 c2 : 2 ≤ c
 c256 : c ≤ 256
 fit : f + c ≤ r.a.length
def vw (r : RgS) (f c p j : Nat) : List Int:=cont r (f + (p + j) % c)
theorem tmod_nat (x c : Nat) : ((x : Nat) : Int).tmod (c : Int) = ((x % c : Nat) : Int):=(Int.ofNat_tmod x c).symm
theorem zKs (p off k c : Nat) : ((((p + off) % c : Nat) : Int) + (k : Int)).tmod (c : Int) = (((p + (off + k)) % c : Nat) : Int):=by
 rw [show ((((p + off) % c : Nat) : Int) + (k : Int)) = (((p + off) % c + k : Nat) : Int) by push_cast; rfl,tmod_nat,Nat.mod_add_mod,Nat.add_assoc]
theorem mod_inj {x a b c : Nat} (ha : a < c) (hb : b < c) (h : (x + a) % c = (x + b) % c) : a = b:=by
 have h1:=Nat.div_add_mod (x + a) c
 have h2:=Nat.div_add_mod (x + b) c
 rw [h] at h1
 rcases Nat.lt_trichotomy ((x + a) / c) ((x + b) / c) with q | q | q
 ·have:=Nat.mul_le_mul_left c (Nat.succ_le_of_lt q)
  rw [Nat.succ_eq_add_one,Nat.mul_add,Nat.mul_one] at this; omega
 ·rw [q] at h1; omega
 ·have:=Nat.mul_le_mul_left c (Nat.succ_le_of_lt q)
  rw [Nat.succ_eq_add_one,Nat.mul_add,Nat.mul_one] at this; omega
theorem zQi {f p off a b c : Nat} (ha : a < c) (hb : b < c) (h : f + (p + (off + a)) % c = f + (p + (off + b)) % c) : a = b :=
 mod_inj (x:=p + off) ha hb (by rw [Nat.add_assoc,Nat.add_assoc]; exact Nat.add_left_cancel h)
section
variable {r : RgS} {f c : Nat} (h : Rn r f c)
include h
theorem Rn.pos (x : Nat) : f + x % c < r.a.length:=by have:=Nat.mod_lt x (show c > 0 by have:=h.c2; omega); have:=h.fit; omega
theorem zN8 (p off k : Nat) {q : PgS} (hk : zEx q.m q.i = true) : (zCq r f c ((((p + off) % c : Nat) : Int) + (k : Int)) q).2 = 0 ∧ Rn (zCq r f c ((((p + off) % c : Nat) : Int) + (k : Int)) q).1 f c ∧ (zCq r f c ((((p + off) % c : Nat) : Int) + (k : Int)) q).1.a.length = r.a.length ∧ ∀ j,cont (zCq r f c ((((p + off) % c : Nat) : Int) + (k : Int)) q).1 j = if j = f + (p + (off + k)) % c then encS q.m q.s q.i q.b else cont r j:=by
 have e : q.enc.1 = encS q.m q.s q.i q.b:=by unfold PgS.enc; rw [if_pos hk]
 unfold zCq
 rw [zKs,show ((f : Int) + (((p + (off + k)) % c : Nat) : Int)) = ((f + (p + (off + k)) % c : Nat) : Int) by push_cast; rfl,e]
 obtain ⟨a1,a2,a3,a4⟩:=zJd h.up (h.pos (p + (off + k))) (encS q.m q.s q.i q.b)
 exact ⟨a1,⟨a2,h.c2,h.c256,by rw [a3]; exact h.fit⟩,a3,a4⟩
theorem zSe : (r.flush 0).2 = 0 ∧ Rn (r.flush 0).1 f c ∧ (r.flush 0).1.a.length = r.a.length ∧ (∀ j,cont (r.flush 0).1 j = cont r j) ∧ zF8 (r.flush 0).1:=by
 obtain ⟨a1,a2,a3,a4,a5⟩:=zJe h.up
 exact ⟨a1,⟨a2,h.c2,h.c256,by rw [a3]; exact h.fit⟩,a3,a4,a5⟩
end
def encI (s : Int) (x : ImS) : List Int:=encS 73 s x.i x.b
def secT (s : Int) (l : List ImS) : List (List Int):=l.map (encI s) ++ [encS 67 s l.length zA2]
theorem zJz (s : Int) (l : List ImS) : (secT s l).length = l.length + 1:=by simp [secT]
theorem zOi {s : Int} {l : List ImS} {k : Nat} {x : ImS} (h : l[k]? = some x) : (secT s l)[k]? = some (encI s x):=by
 have lt:=(List.getElem?_eq_some_iff.1 h).1
 unfold secT
 rw [List.getElem?_append_left (by rw [List.length_map]; exact lt),List.getElem?_map,h]; rfl
theorem zRu (s : Int) (l : List ImS) : (secT s l)[l.length]? = some (encS 67 s l.length zA2):=by
 unfold secT
 rw [List.getElem?_append_right (by rw [List.length_map]; exact Nat.le_refl _),List.length_map,Nat.sub_self]; rfl
structure GoodT (c : Nat) (t : List ImS) : Prop where
 ne : 1 ≤ t.length
 ok : t.all okIm = true
 b : ∀ x ∈ t,B48 x.b
 fit : t.length + 1 ≤ c
theorem zJ3 {m : Int} (hm : m ≠ 0) {i : Int} (h : 0 ≤ i ∧ i ≤ 65535) : zEx m i = true:=by
 unfold zEx; rw [decide_eq_true h.1,decide_eq_true h.2]; simp [hm]
theorem zWv {t : List ImS} (h : t.all okIm = true) {x : ImS} (hx : x ∈ t) : 0 ≤ x.i ∧ x.i ≤ 65535:=by
 have:=List.all_eq_true.1 h x hx
 unfold okIm at this; simpa using this
section
variable {f c : Nat} (p off : Nat) {s : Int}
theorem zOz : ∀ (l : List ImS) (k : Nat) {r : RgS},Rn r f c → l.all okIm = true → k + l.length ≤ c → (zCa f c ((p + off) % c : Nat) s r k l).2 = 0 ∧ Rn (zCa f c ((p + off) % c : Nat) s r k l).1 f c ∧ (zCa f c ((p + off) % c : Nat) s r k l).1.a.length = r.a.length ∧
  (∀ j z,(l.map (encI s))[j]? = some z → vw (zCa f c ((p + off) % c : Nat) s r k l).1 f c p (off + (k + j)) = z) ∧ ∀ i,(∀ j,j < l.length → i ≠ f + (p + (off + (k + j))) % c) → cont (zCa f c ((p + off) % c : Nat) s r k l).1 i = cont r i
 | [],k,r,h,_,_=>⟨rfl,h,rfl,fun j z hz=>by simp at hz,fun i _=>rfl⟩
 | x :: l,k,r,h,ho,hk=>by
  rw [List.all_cons,Bool.and_eq_true] at ho
  have xo : 0 ≤ x.i ∧ x.i ≤ 65535:=zWv (t:=[x]) (by rw [List.all_cons,ho.1]; rfl) (by simp)
  rw [List.length_cons] at hk
  obtain ⟨a1,a2,a3,a4⟩:=zN8 h p off k (q:=⟨73,s,x.i,x.b⟩) (zJ3 (by show (73 : Int) ≠ 0; decide) xo)
  unfold zCa
  rw [if_pos a1]
  obtain ⟨b1,b2,b3,b4,b5⟩:=zOz l (k + 1) a2 ho.2 (by omega)
  refine ⟨b1,b2,b3.trans a3,fun j z hz=>?_,fun i hi=>?_⟩
  ·cases j with
   | zero =>
    have e : z = encI s x:=by simpa using hz.symm
    unfold vw
    rw [b5 _ fun j hj q=>?_,a4,Nat.add_zero,if_pos rfl,e]
    ·rfl
    ·have:=zQi (a:=k + 0) (b:=k + 1 + j) (by omega) (by omega) q
     omega
   | succ j =>
    rw [List.map_cons,List.getElem?_cons_succ] at hz
    have:=b4 j z hz
    rwa [show off + (k + 1 + j) = off + (k + (j + 1)) by omega] at this
  ·rw [b5 i fun j hj=>by
    have:=hi (j + 1) (by rw [List.length_cons]; omega)
    rwa [show k + (j + 1) = k + 1 + j by omega] at this,a4,if_neg]
   have:=hi 0 (by rw [List.length_cons]; omega)
   exact this
theorem appd_vw {l : List ImS} {r : RgS} (h : Rn r f c) (g : GoodT c l) : (zBu r f c ((p + off) % c : Nat) s l).2 = ((((p + (off + (l.length + 1))) % c : Nat) : Int),0) ∧ Rn (zBu r f c ((p + off) % c : Nat) s l).1 f c ∧ (zBu r f c ((p + off) % c : Nat) s l).1.a.length = r.a.length ∧ zF8 (zBu r f c ((p + off) % c : Nat) s l).1 ∧
  (∀ k z,(secT s l)[k]? = some z → vw (zBu r f c ((p + off) % c : Nat) s l).1 f c p (off + k) = z) ∧ ∀ i,(∀ k,k < l.length + 1 → i ≠ f + (p + (off + k)) % c) → cont (zBu r f c ((p + off) % c : Nat) s l).1 i = cont r i:=by
 have c256:=h.c256
 have c2:=h.c2
 have fit:=h.fit
 have gf:=g.fit
 have gn:=g.ne
 have lt : (p + off) % c < c:=Nat.mod_lt _ (by omega)
 obtain ⟨a1,a2,a3,a4,a5⟩:=zOz p off (s:=s) l 0 h g.ok (by omega)
 obtain ⟨b1,b2,b3,b4,_⟩:=zSe a2
 obtain ⟨w1,w2,w3,w4⟩:=zN8 b2 p off l.length (q:=zCh s l.length) (zJ3 (by show (67 : Int) ≠ 0; omega) (by show 0 ≤ (l.length : Int) ∧ (l.length : Int) ≤ 65535; omega))
 obtain ⟨e1,e2,e3,e4,e5⟩:=zSe w2
 unfold zBu
 rw [if_pos ⟨by omega,by omega,by omega,by omega,by omega,by omega⟩,if_pos ⟨gn,by omega⟩,if_pos g.ok,if_pos a1,if_pos b1,if_pos w1,if_pos e1]
 refine ⟨?_,e2,by rw [e3,w3,b3,a3],e5,fun k z hz=>?_,fun i hi=>?_⟩
 ·have e:=zKs p off (l.length + 1) c
  rw [show (((l.length + 1 : Nat) : Int)) = (l.length : Int) + 1 by push_cast; rfl,← Int.add_assoc] at e
  exact Prod.ext e rfl
 ·unfold vw
  rw [e4,w4]
  by_cases hk : k < l.length
  ·have e:=zOi (s:=s) (List.getElem?_eq_getElem hk)
   rw [e] at hz
   rw [if_neg fun q=>by
    have:=zQi (a:=k) (b:=l.length) (by omega) (by omega) q
    omega,b4]
   have:=a4 k z (by rw [List.getElem?_map,List.getElem?_eq_getElem hk]; exact hz)
   rw [Nat.zero_add] at this
   exact this
  ·have e : k = l.length:=by have:=(List.getElem?_eq_some_iff.1 hz).1; rw [zJz] at this; omega
   subst e
   rw [zRu] at hz
   rw [if_pos rfl]
   exact Option.some.inj hz
 ·rw [e4,w4,if_neg (hi l.length (by omega)),b4,a5 i fun j hj=>by rw [Nat.zero_add]; exact hi j (by omega)]
end
theorem dec_page {t : List ImS} (ho : t.all okIm = true) (hb : ∀ x ∈ t,B48 x.b) {s : Int} (hs : 0 ≤ s ∧ s < 4294967296) {x : ImS} (hx : x ∈ t) : decS (encI s x) = (⟨73,s,x.i,x.b⟩,0):=by
 have xo:=zWv ho hx
 exact zQy (p:=⟨73,s,x.i,x.b⟩) ⟨by show (0 : Int) ≤ 73 ∧ (73 : Int) ≤ 255; omega,hs,by show _ ≤ x.i ∧ x.i ≤ _; omega,hb x hx⟩ (zJ3 (by show (73 : Int) ≠ 0; decide) xo)
theorem zTw {s : Int} (hs : 0 ≤ s ∧ s < 4294967296) {n : Nat} (hn : n ≤ 65535) : decS (encS 67 s n zA2) = (zCh s n,0) :=
 zQy (p:=zCh s n) ⟨by show (0 : Int) ≤ 67 ∧ (67 : Int) ≤ 255; omega,hs,by show _ ≤ (n : Int) ∧ (n : Int) ≤ _; omega,zB7⟩ (zJ3 (by show (67 : Int) ≠ 0; decide) (by show 0 ≤ (n : Int) ∧ (n : Int) ≤ 65535; omega))
section
variable {r : RgS} {f c : Nat} (h : Rn r f c) (p off : Nat) {s : Int} (hs : 0 ≤ s ∧ s < 4294967296) {t : List ImS} (g : GoodT c t)
include h hs g
end
def tot (T : List (List ImS)) : Nat:=(T.map fun t=>t.length + 1).sum
theorem zU7 : tot [] = 0:=rfl
theorem zM3 (t : List ImS) (T : List (List ImS)) : tot (t :: T) = t.length + 1 + tot T:=by simp [tot]
theorem zJx (T : List (List ImS)) (t : List ImS) : tot (T ++ [t]) = tot T + (t.length + 1):=by simp [tot]
def zLs (r : RgS) (f c p : Nat) : Nat → Int → List (List ImS) → Prop
 | _,_,[]=>True
 | off,s,t :: T=>(∀ k z,(secT s t)[k]? = some z → vw r f c p (off + k) = z) ∧ zLs r f c p (off + (t.length + 1)) (s + 1) T
theorem zLs.mono {r r' : RgS} {f c p : Nat} : ∀ {T : List (List ImS)} {off : Nat} {s : Int},zLs r f c p off s T → (∀ j,off ≤ j → j < off + tot T → vw r' f c p j = vw r f c p j) → zLs r' f c p off s T
 | [],_,_,_,_=>trivial
 | t :: T,off,s,⟨h1,h2⟩,e=>by
  rw [zM3] at e
  refine ⟨fun k z hz=>?_,h2.mono fun j a b=>e j (by omega) (by omega)⟩
  have:=(List.getElem?_eq_some_iff.1 hz).1
  rw [zJz] at this
  rw [e _ (by omega) (by omega)]
  exact h1 k z hz
theorem zLs.snoc {r : RgS} {f c p : Nat} {t : List ImS} : ∀ {T : List (List ImS)} {off : Nat} {s : Int},zLs r f c p off s T → (∀ k z,(secT (s + (T.length : Int)) t)[k]? = some z → vw r f c p (off + tot T + k) = z) → zLs r f c p off s (T ++ [t])
 | [],off,s,_,h=>⟨by simpa [zU7] using h,trivial⟩
 | u :: T,off,s,⟨h1,h2⟩,h=>by
  refine ⟨h1,zLs.snoc h2 fun k z hz=>?_⟩
  have:=h k z (by rw [List.length_cons,show s + ((T.length + 1 : Nat) : Int) = s + 1 + (T.length : Int) by push_cast; omega]; exact hz)
  rwa [zM3,show off + (u.length + 1 + tot T) = off + (u.length + 1) + tot T by omega] at this
end Go.Proofs.YtbmmnfeeapnhkaaGreat.Eng
end
section
set_option linter.unusedVariables false
namespace Go.Proofs.YtbmmnfeeapnhkaaGreat.Eng
open Go
section
variable {r : RgS} {f c p : Nat} {s : Int} {T : List (List ImS)} {t : List ImS}
end
end Go.Proofs.YtbmmnfeeapnhkaaGreat.Eng
end
section
set_option linter.unusedVariables false
namespace Go.Proofs.YtbmmnfeeapnhkaaGreat.Eng
open Go
structure Form (z hd : List Int) : Prop where
 l : hd.length = 55
 e : z = hd ++ (putS 8 (zIo hd) ++ [0])
end Go.Proofs.YtbmmnfeeapnhkaaGreat.Eng
end
section
set_option linter.unusedVariables false
namespace Go.Proofs.YtbmmnfeeapnhkaaGreat.Eng
open Go
def Sub (r : RgS) (A : Nat → List Int → Prop) : Prop:=∀ i s,r.a[i]? = some s → ∀ z,(z = s.there ∨ z ∈ s.vers) → A i z
theorem zXc (s : Sec) : s.last = s.there ∨ s.last ∈ s.vers:=by
 unfold Sec.last
 cases h : s.vers.getLast? with
 | none=>exact .inl rfl
 | some z=>exact .inr (List.mem_of_getLast? h)
theorem zF8.sub {r : RgS} (h : zF8 r) : Sub r fun i z=>z = cont r i:=fun i s hs z hz=>by
 have v:=h s (List.mem_of_getElem? hs)
 show z = cont r i
 unfold cont
 rw [hs]
 rcases hz with rfl | hz
 ·show s.there = s.last; unfold Sec.last; rw [v]; rfl
 ·rw [v] at hz; cases hz
theorem Sub.mono {r : RgS} {A B : Nat → List Int → Prop} (h : Sub r A) (hb : ∀ i z,A i z → B i z) : Sub r B:=fun i s hs z hz=>hb _ _ (h i s hs z hz)
theorem Sub.same {r r' : RgS} {A : Nat → List Int → Prop} (h : Sub r A) (e : r'.a = r.a) : Sub r' A:=fun i s hs=>by rw [e] at hs; exact h i s hs
theorem pass_a (r : RgS) : r.pass.1.a = r.a:=by unfold RgS.pass; split <;> rfl
theorem zHh (r : RgS) (i : Nat) (hi : i < r.a.length) (z : List Int) : ((r.write 0 (i : Int) z).2 = 0 ∧ (r.write 0 (i : Int) z).1.a = r.a.modify i fun s=>⟨s.there,s.vers ++ [z]⟩) ∨ ((r.write 0 (i : Int) z).2 ≠ 0 ∧ (r.write 0 (i : Int) z).1.a = r.a):=by
 unfold RgS.write
 rw [if_pos ⟨by omega,by show (i : Int) < (r.a.length : Int); omega⟩]
 split
 ·rw [Int.toNat_natCast]; exact .inl ⟨rfl,rfl⟩
 ·rename_i h; exact .inr ⟨h,pass_a r⟩
theorem zF2 (r : RgS) : ((r.flush 0).2 = 0 ∧ (r.flush 0).1.a = r.a.map settled) ∨ ((r.flush 0).2 ≠ 0 ∧ (r.flush 0).1.a = r.a):=by
 unfold RgS.flush
 rw [if_pos (.inl rfl)]
 split
 ·exact .inl ⟨rfl,rfl⟩
 ·rename_i h; exact .inr ⟨h,pass_a r⟩
theorem Sub.write {r : RgS} {A : Nat → List Int → Prop} (h : Sub r A) {i : Nat} (hi : i < r.a.length) {z : List Int} (hz : A i z) : Sub (r.write 0 (i : Int) z).1 A:=by
 rcases zHh r i hi z with ⟨_,e⟩ | ⟨_,e⟩
 ·intro j s hs y hy
  rw [e,List.getElem?_modify] at hs
  by_cases q : i = j
  ·subst q
   rw [List.getElem?_eq_getElem hi] at hs
   simp only [if_true,Option.map_eq_map,Option.map_some,Option.some.injEq] at hs
   subst hs
   simp only [List.mem_append,List.mem_singleton] at hy
   rcases hy with hy | hy | hy
   ·exact h i _ (List.getElem?_eq_getElem hi) _ (.inl hy)
   ·exact h i _ (List.getElem?_eq_getElem hi) _ (.inr hy)
   ·rw [hy]; exact hz
  ·simp only [if_neg q,Option.map_eq_map,Option.map_id'] at hs
   exact h j s hs y hy
 ·exact h.same e
theorem Sub.flush {r : RgS} {A : Nat → List Int → Prop} (h : Sub r A) : Sub (r.flush 0).1 A:=by
 rcases zF2 r with ⟨_,e⟩ | ⟨_,e⟩
 ·intro j s hs y hy
  rw [e,List.getElem?_map] at hs
  cases hx : r.a[j]? with
  | none=>rw [hx] at hs; cases hs
  | some x =>
   rw [hx] at hs
   simp only [Option.map_some,Option.some.injEq] at hs
   subst hs
   rcases hy with hy | hy
   ·rw [hy]; exact h j x hx _ (zXc x)
   ·cases hy
 ·exact h.same e
theorem cont_wr {r : RgS} {i : Nat} (hi : i < r.a.length) {z : List Int} (h0 : (r.write 0 (i : Int) z).2 = 0) (j : Nat) : cont (r.write 0 (i : Int) z).1 j = if j = i then z else cont r j:=by
 rcases zHh r i hi z with ⟨_,e⟩ | ⟨q,_⟩
 ·unfold cont
  rw [e,List.getElem?_modify]
  by_cases q : j = i
  ·subst q
   rw [if_pos rfl,List.getElem?_eq_getElem hi]
   simp [zPa]
  ·rw [if_neg q]; simp [show ¬ i = j from fun h=>q h.symm]
 ·exact absurd h0 q
theorem zX3 {r : RgS} (j : Nat) : cont (r.flush 0).1 j = cont r j:=by
 rcases zF2 r with ⟨_,e⟩ | ⟨_,e⟩
 ·unfold cont; rw [e,List.getElem?_map]; cases r.a[j]? <;> rfl
 ·unfold cont; rw [e]
theorem zRp {r : RgS} (h0 : (r.flush 0).2 = 0) : zF8 (r.flush 0).1:=by
 rcases zF2 r with ⟨_,e⟩ | ⟨q,_⟩
 ·intro s hs; rw [e] at hs; obtain ⟨x,_,rfl⟩:=List.mem_map.1 hs; rfl
 ·exact absurd h0 q
theorem wr_len {r : RgS} {i : Nat} (hi : i < r.a.length) (z : List Int) : (r.write 0 (i : Int) z).1.a.length = r.a.length:=by
 rcases zHh r i hi z with ⟨_,e⟩ | ⟨_,e⟩ <;> rw [e]
 simp
theorem fl_len (r : RgS) : (r.flush 0).1.a.length = r.a.length:=by
 rcases zF2 r with ⟨_,e⟩ | ⟨_,e⟩ <;> rw [e]
 simp
theorem pick_lt (zs : List Int) (n : Nat) : zWj zs n < n + 1:=by
 unfold zWj
 cases zs with
 | nil=>show 0 < n + 1; omega
 | cons z zs =>
  show (z % ((n : Int) + 1)).toNat < n + 1
  have h1:=Int.emod_nonneg z (show ((n : Int) + 1) ≠ 0 by omega)
  have h2:=Int.emod_lt_of_pos z (show (0 : Int) < (n : Int) + 1 by omega)
  omega
theorem zIk (zs : List Int) (s : Sec) : ((zDp zs s).last = s.there ∨ (zDp zs s).last ∈ s.vers) ∧ (zDp zs s).vers = []:=by
 unfold zDp
 split
 ·rename_i h
  exact ⟨zXc s,h⟩
 ·have lt:=pick_lt zs s.vers.length
  have e:=List.getElem?_eq_getElem (l:=s.there :: s.vers) (i:=zWj zs s.vers.length) (by rw [List.length_cons]; exact lt)
  have m:=List.getElem_mem (l:=s.there :: s.vers) (n:=zWj zs s.vers.length) (by rw [List.length_cons]; exact lt)
  rw [e]
  exact ⟨List.mem_cons.1 m,rfl⟩
theorem zPu {r : RgS} {A : Nat → List Int → Prop} (h : Sub r A) (za zb : List Int) {i : Nat} (hi : i < r.a.length) : A i (cont (r.crash za zb) i):=by
 have e:=List.getElem?_eq_getElem hi
 unfold cont
 show A i (((zCk r.a za)[i]?).getD zsec).last
 rw [(zFp e).1]
 exact h i _ e _ (zIk _ _).1
theorem zLa (r : RgS) (za zb : List Int) : zF8 (r.crash za zb):=by
 have key : ∀ (ss : List Sec) (zs : List Int),∀ s ∈ zCk ss zs,s.vers = []:=by
  intro ss
  induction ss with
  | nil=>intro zs s h; cases h
  | cons a ss ih =>
   intro zs s h
   simp only [zCk,List.mem_cons] at h
   rcases h with rfl | h
   ·exact (zIk _ _).2
   ·exact ih _ s h
 exact key _ _
theorem zLb (r : RgS) (za zb : List Int) : (r.crash za zb).a.length = r.a.length:=zC4 _ _
section
variable {f c : Nat} (p off : Nat) {s : Int}
end
end Go.Proofs.YtbmmnfeeapnhkaaGreat.Eng
end
section
set_option linter.unusedVariables false
namespace Go.Proofs.YtbmmnfeeapnhkaaGreat.Eng
open Go
section
variable {r r2 : RgS} {f c p : Nat} {s : Int} {T : List (List ImS)} {t : List ImS}
end
end Go.Proofs.YtbmmnfeeapnhkaaGreat.Eng
end
section
namespace Go.Proofs.YtbmmnfeeapnhkaaGreat.Eng
open Go Go.ChangeShapes Go.WideShapes Go.ChangeAt Go.RowKit
variable {P : Program} {H : Type} {enc : TypeId × Value → H}
end Go.Proofs.YtbmmnfeeapnhkaaGreat.Eng
end
section
set_option linter.unusedVariables false
namespace Go.Proofs.YtbmmnfeeapnhkaaGreat.Eng
open Go Go.ChangeShapes Go.WideShapes Go.ChangeAt Go.RowKit
abbrev Over:=Nat → List AV → zAa → Option (AV × zAa)
noncomputable def envX (P : Program) (X : Over) : Env :=
 ⟨fun f args h=>match X f args h with | some r=>some r | none=>(envL P).call f args h,(envL P).yield,(envL P).loop⟩
def Told1 (P : Program) (f : Nat) (args : List AV) (h : zAa) (v : AV) (h' : zAa) : Prop :=
 ((∃ fn,P.funcs[f]? = some fn ∧ fn.body.isSome = true) ∧ ∀ φ w (cargs : Array Value) n,St φ h w → VRels φ args cargs.toList → CallsIn Fence.wide n P f cargs w (Post φ h w v h')) ∨
  ((∀ b l,args ≠ .yld b :: l) ∧ ∀ φ w (cargs : Array Value),St φ h w → VRels φ args cargs.toList → ∃ cv w' φ',(callFunc f cargs).run P w = .ok (.value cv) w' ∧ VRel φ' v cv ∧ St φ' h' w' ∧ Ext φ h w φ' h' w')
def Over.Ok (P : Program) (X : Over) : Prop:=∀ f args h v h',X f args h = some (v,h') → Told1 P f args h v h'
theorem zMk {P : Program} (g : Good P) {X : Over} (ok : X.Ok P) : SoundE P (envX P X) where
 call f args h v h' hv:=by
  unfold envX at hv
  simp only at hv
  cases ho : X f args h with
  | none=>rw [ho] at hv; exact (zI7 g).call _ _ _ _ _ hv
  | some u =>
   rw [ho] at hv
   simp only [Option.some.injEq] at hv
   subst hv
   exact ok f args h v h' ho
 yield:=(zI7 g).yield
 loop:=(zI7 g).loop
def Over.none : Over:=fun _ _ _=>.none
theorem zWy (P : Program) : Over.none.Ok P:=fun _ _ _ _ _ h=>by cases h
def Over.with (X : Over) (g : Nat) (R : List AV → zAa → Option (AV × zAa)) : Over:=fun f args h=>if f = g then R args h else X f args h
theorem with_ok {P : Program} {X : Over} (ok : X.Ok P) {g : Nat} {R : List AV → zAa → Option (AV × zAa)} (hR : ∀ args h v h',R args h = some (v,h') → Told1 P g args h v h') : (X.with g R).Ok P:=by
 intro f args h v h' hv
 unfold Over.with at hv
 split at hv
 ·rename_i e; subst e; exact hR _ _ _ _ hv
 ·exact ok _ _ _ _ _ hv
noncomputable def Over.up (P : Program) (X : Over) (g : Nat) : Over:=X.with g fun args h=>zCm P (envX P X) g args h
def wakeR : List AV → zAa → Option (AV × zAa):=fun args h=>if args.isEmpty = true then some (.bool true,h) else .none
theorem wake_ok {P : Program} (g : Good P) {X : Over} (ok : X.Ok P) {f : Nat} {h1 : zAa} (hv : zCm P (envX P X) f [] [] = some (.bool true,h1)) : ∀ args h v h',wakeR args h = some (v,h') → Told1 P f args h v h':=by
 intro args h v h' e
 unfold wakeR at e
 split at e
 ·rename_i he
  cases args with
  | cons _ _=>cases he
  | nil =>
   injection e with e; injection e with e1 e2; subst e1; subst e2
   obtain ⟨q1,q2⟩:=zQ7 g (zMk g ok) hv
   refine .inl ⟨q1,fun φ w cargs n s hr=>CallsIn.mono (q2 (fun _=>Option.none) w cargs n (St.none w) (hr.bare rfl)) fun e w' p=>?_⟩
   obtain ⟨cv,φ',he,hr,_,x⟩:=p
   have keep : ∀ r,r < w.heap.size → w'.heap[r]? = w.heap[r]?:=fun r hr=>x.cfr r hr (by rintro ⟨_,_,_,hb,_⟩; cases hb)
   refine ⟨cv,φ,he,VRel.bare rfl hr,⟨fun b e hb=>?_,s.inj⟩,⟨Nat.le_refl _,x.wlen,x.os,x.tape,x.output,fun _ _=>rfl,fun _ _ _=>rfl,fun _ _ ho=>ho,fun r hr _=>keep r hr,fun _ L hL=>⟨L,hL⟩⟩⟩
   obtain ⟨k,o,hk,ho,hrel⟩:=s.dom b e hb
   exact ⟨k,o,hk,by rw [keep _ (s.wlt hb)]; exact ho,hrel⟩
 ·cases e
theorem zQ6 {P : Program} (g : Good P) {X : Over} (ok : X.Ok P) {f : Nat} {args : List AV} {h0 h' : zAa} (hn : NoOwn h0) (hv : zCm P (envX P X) f args h0 = some (.bool true,h')) {w : World} {φ : Ren} (s : St φ h0 w) {cargs : Array Value} (ha : VRels φ args cargs.toList) :
  Calls P f cargs w fun e w'=>e = .returned (.bool true) ∧ Below w.heap.size w w':=by
 refine Calls.mono (callsIn_wide.1 ((zQ7 g (zMk g ok) hv).2 φ w cargs 0 s ha)) fun e w' p=>?_
 obtain ⟨cv,φ',rfl,hr,_,x⟩:=p
 cases hr
 exact ⟨rfl,x.under hn⟩
end Go.Proofs.YtbmmnfeeapnhkaaGreat.Eng
end
section
namespace Go.Proofs.YtbmmnfeeapnhkaaGreat.Eng
open Go Go.ChangeShapes Go.WideShapes Go.ChangeAt Go.RowKit
variable {P : Program} {H : Type} {enc : TypeId × Value → H}
end Go.Proofs.YtbmmnfeeapnhkaaGreat.Eng
end
section
set_option linter.unusedVariables false
namespace Go.Proofs.YtbmmnfeeapnhkaaGreat.Eng
open Go Go.ChangeShapes Go.WideShapes Go.ChangeAt Go.RowKit
variable {P : Program} {H : Type} {enc : TypeId × Value → H}
end Go.Proofs.YtbmmnfeeapnhkaaGreat.Eng
end
section
namespace Go.Proofs.YtbmmnfeeapnhkaaGreat.Eng
open Go
set_option linter.defProp false
def itr:=And.intro @zAq (And.intro @zA6 (And.intro @zF7 (And.intro @callV_fn (And.intro @zE8 (And.intro @Bool.not_not (And.intro @put_cons (And.intro @put_nil (And.intro @zB8 (And.intro @zYx (And.intro @at_add (And.intro @zRr (And.intro @zVi (And.intro @zAw (And.intro @zCj (And.intro @zN7 (And.intro @zLw (And.intro @zS6 (And.intro @zAx (And.intro @zKg (And.intro @List.drop_nil.{0} (And.intro @List.take_nil.{0} (And.intro @cell_int (And.intro @zYl (And.intro @List.set_nil.{0} (And.intro @List.length_set.{0} (And.intro @List.all_cons.{0} (And.intro @List.all_nil.{0} (And.intro @Bool.and_self (And.intro @and_self (And.intro @true_and (And.intro @and_true (And.intro @List.getElem?_nil.{0} (And.intro @Int.toNat_zero (And.intro @Int.toNat_one (And.intro @zBa (And.intro @under_fn (And.intro @zUz (And.intro @under_sl (And.intro @Nat.lt_irrefl (And.intro @zTq (And.intro @zU4 (And.intro @Int.cast_ofNat_Int (And.intro @decide_true (And.intro @decide_false (And.intro @Nat.zero_mul (And.intro @Nat.mul_one (And.intro @Nat.one_mul (And.intro @zHp.eq_1 (And.intro @zHp.eq_2 (And.intro @idxA.eq_1 (And.intro @idxA.eq_2 (And.intro @Ex.isNormal.eq_1 (And.intro @Ex.isNormal.eq_2 (And.intro @zGa.eq_1 (And.intro @zGa.eq_2 (And.intro @zGa.eq_3 (And.intro @ABlk.vals.eq_1 (And.intro @ABlk.vals.eq_2 (And.intro @ABlk.vals.eq_3 (@ABlk.vals.eq_4))))))))))))))))))))))))))))))))))))))))))))))))))))))))))))
def itq:=And.intro @zDe (And.intro @zRi (And.intro @zDk.eq_1 (And.intro @zD0.eq_1 (And.intro @zCc.eq_1 (And.intro @zCc.eq_2 (And.intro @zEu.eq_1 (@zCr.eq_1)))))))
def sameB (o : Option ABlk) (v : AV) : Option AV:=match o with | some (.rw _)=>some v | _=>none
theorem zX2 (b off sz len lo : Nat) (ex : Bool) (h : zAa) : zFq .same (.sl b off sz len lo ex) h = if 1 ≤ len then sameB h[b]? (.sl b off sz len lo ex) else none:=by
 unfold zFq sameB
 rfl
theorem sameB_rw (cs : List AV) (v : AV) : sameB (some (.rw cs)) v = some v:=rfl
end Go.Proofs.YtbmmnfeeapnhkaaGreat.Eng
end
section
set_option linter.unusedVariables false
namespace Go.Proofs.YtbmmnfeeapnhkaaGreat.Eng
open Go
theorem zXz {K : zAa} {n b : Nat} (h : b < n) : (K.take n)[b]? = K[b]?:=by rw [List.getElem?_take,if_pos h]
theorem trim_adds {H K : zAa} {v : AV} (a : Adds H K) : trim H (some (v,K)) = some (v,K) ∨ (v.under H.length = true ∧ trim H (some (v,K)) = some (v,H)):=by
 rcases zKc H v K with ⟨t,e⟩ | e
 ·obtain ⟨X,rfl⟩:=a
  rw [List.take_left] at e
  exact .inr ⟨t.2.1,e⟩
 ·exact .inl e
theorem zUu {P : Program} {l : Nat} {args : List AV} {K : zAa} {e0 : Ex} {T0 : T} {ps : List Nat} {ka kb : Code} {a b : CT} (ea : ∀ t h,zAi P (envL P) ka t h = runC (envL P) a t h) (eb : ∀ t h,zAi P (envL P) kb t h = runC (envL P) b t h)
  (hl : K[l]? = some (.loop ⟨.ready,e0,T0,ps,ka,kb⟩)) (hp : args.length = ps.length) {t1 : T} {K1 : zAa} (ha : runC (envL P) a (zBq ps args T0) K = some (.normal,t1,K1)) (h1 : K1[l]? = some (.loop ⟨.ready,e0,T0,ps,ka,kb⟩))
  {ex : Ex} {t2 : T} {K2 : zAa} (hb : runC (envL P) b t1 (K1.set l (.loop ⟨.busy,e0,T0,ps,ka,kb⟩)) = some (ex,t2,K2)) (h2 : K2[l]? = some (.loop ⟨.busy,e0,T0,ps,ka,kb⟩)) :
  (envL P).yield l args K = trim K (some (.bool ex.isNormal,K2.set l (.loop ⟨if ex.isNormal then .ready else .done,ex,T0,ps,ka,kb⟩))):=by
 rw [zN6 P l args K _ hl hp]
 simp only [ea,ha]
 rw [zOr P (envL P) l _ t1 K1 _ h1 rfl]
 simp only [eb,hb]
 rw [zOs l ex t2 K2 _ h2]
theorem zRn {K K3 : zAa} {v0 : AV} (t : zCz K v0 K3) {b : Nat} (hb : b < K.length) {vs : List AV} (h3 : K3[b]? = some (.rw vs)) {a : AV} (ha : a ∈ vs) (hK : ∀ k,K[b]? = some k → ∀ a ∈ k.vals,∀ x,slb a = some x → x < K.length) : ∀ x,slb a = some x → x < K.length:=by
 intro x hx
 rcases t.2.2 b _ hb h3 a ha with h | ⟨k,hk,ha2⟩
 ·exact zHz h hx
 ·exact hK k hk a ha2 x hx
theorem zRl (K : zAa) (v : AV) (K3 : zAa) : ∃ K4,trim K (some (v,K3)) = some (v,K4) ∧ (K4 = K3 ∨ (zCz K v K3 ∧ K4 = K3.take K.length)):=by
 rcases zKc K v K3 with ⟨t,e⟩ | e
 ·exact ⟨_,e,.inr ⟨t,rfl⟩⟩
 ·exact ⟨_,e,.inl rfl⟩
theorem zVz {P : Program} {l : Nat} {args : List AV} {K : zAa} {e0 : Ex} {T0 : T} {ps : List Nat} {ka kb : Code} {a b : CT} (ea : ∀ t h,zAi P (envL P) ka t h = runC (envL P) a t h) (eb : ∀ t h,zAi P (envL P) kb t h = runC (envL P) b t h)
  (hl : K[l]? = some (.loop ⟨.ready,e0,T0,ps,ka,kb⟩)) (hp : args.length = ps.length) {t1 : T} {cs : List AV} (ha : runC (envL P) a (zBq ps args T0) K = some (.normal,t1,K ++ [ABlk.rw cs]))
  {R : Ex → zAa → Prop} (hb : Outs (runC (envL P) b t1 ((K ++ [ABlk.rw cs]).set l (.loop ⟨.busy,e0,T0,ps,ka,kb⟩))) fun e _ K2=>R e K2) (h2 : ∀ e K2,R e K2 → K2[l]? = some (.loop ⟨.busy,e0,T0,ps,ka,kb⟩)) :
  ∃ e K2 K4,R e K2 ∧ (envL P).yield l args K = some (.bool e.isNormal,K4) ∧ (K4 = K2.set l (.loop ⟨if e.isNormal then .ready else .done,e,T0,ps,ka,kb⟩) ∨ (zCz K (.bool e.isNormal) (K2.set l (.loop ⟨if e.isNormal then .ready else .done,e,T0,ps,ka,kb⟩)) ∧ K4 = (K2.set l (.loop ⟨if e.isNormal then .ready else .done,e,T0,ps,ka,kb⟩)).take K.length)):=by
 obtain ⟨e,t2,K2,er,r⟩:=hb
 have:=zUu ea eb hl hp ha (by rw [List.getElem?_append_left (zAl hl)]; exact hl) er (h2 e K2 r)
 obtain ⟨K4,et,h4⟩:=zRl K (.bool e.isNormal) (K2.set l (.loop ⟨if e.isNormal then .ready else .done,e,T0,ps,ka,kb⟩))
 exact ⟨e,K2,K4,r,this.trans et,h4⟩
theorem zYs {K : zAa} {cs : List AV} {l : Nat} {x : ABlk} {b : Nat} (hb : b < K.length) (hn : b ≠ l) : ((K ++ [ABlk.rw cs]).set l x)[b]? = K[b]?:=by
 rw [zAf _ _ _ _ hn,List.getElem?_append_left hb]
theorem busy_new {K : zAa} {cs : List AV} {l : Nat} {x : ABlk} (hl : l < K.length) : ((K ++ [ABlk.rw cs]).set l x)[K.length]? = some (.rw cs):=by
 rw [zAf _ _ _ _ (by omega),List.getElem?_append_right (Nat.le_refl _),Nat.sub_self]; rfl
theorem busy_lp {K : zAa} {cs : List AV} {l : Nat} {x : ABlk} (hl : l < K.length) : ((K ++ [ABlk.rw cs]).set l x)[l]? = some x:=zA4 _ _ _ (by rw [List.length_append]; omega)
theorem zSy {K : zAa} {cs : List AV} {l : Nat} {x : ABlk} : ((K ++ [ABlk.rw cs]).set l x).length = K.length + 1:=by rw [List.length_set,List.length_append]; rfl
theorem busy_fr {K : zAa} {cs : List AV} {l : Nat} {x : ABlk} : Fr K ((K ++ [ABlk.rw cs]).set l x) (fun b=>b = l):=⟨by rw [zSy]; omega,fun b hb hn=>zYs hb hn⟩
theorem zJ8 {K : zAa} {b : Nat} {x y : AV} (h : K[b]? = some (.rw [x])) (hc : y.isCell = true) : zAz K b 0 [y] = some (K.set b (.rw [y])):=by
 rw [zAv h,if_pos ⟨by simp,by simp [hc]⟩,zAx]; rfl
theorem zWe {E : Env} {f : T → AV} {ps : List Nat} {ka kb : Code} {t : T} {h K : zAa} {e : Ex} {st : LoopState} {v : AV} (hc : zLr E (f t) [.yld h.length] (h ++ [.loop ⟨.ready,.normal,t,ps,ka,kb⟩]) = some (v,K)) (hl : K[h.length]? = some (.loop ⟨st,e,t,ps,ka,kb⟩)) (hs : st ≠ .busy) :
  runC E (.range f ps ka kb) t h = some (e,t,K.set h.length (.loop ⟨.exhausted,e,t,ps,ka,kb⟩)):=by
 rw [zDe,hc,zWd _ _ _ _ _ hl hs]
end Go.Proofs.YtbmmnfeeapnhkaaGreat.Eng
end
