/- What the functions that the law reaches answer, for every argument. No condition but those in each statement. -/
import Derived.Test.YthgflkfhjnbheaaN
import Derived.Test.YthgflkfhjnbheaaE6
import Derived.Test.YthgflkfhjnbheaaE4
import Derived.Test.YthgflkfhjnbheaaE5
set_option linter.unusedSimpArgs false
set_option linter.unusedVariables false
set_option linter.unusedSectionVars false
set_option maxRecDepth 10000
section
namespace Go.Proofs.Ythgflkfhjnbheaa.G14
open Go Go.Proofs.Ythgflkfhjnbheaa.Eng
noncomputable abbrev LP1 (l : Env → CT):=(envL prog).loop (runC (envL prog) (l (envL prog)))
def pd : TyD:=ty 2 true 16 [.int .i64 0,.int .i64 0]
end Go.Proofs.Ythgflkfhjnbheaa.G14
end
section
namespace Go.Proofs.Ythgflkfhjnbheaa.G14
open Go Go.Proofs.Ythgflkfhjnbheaa.Eng
theorem goodP : Go.Proofs.Ythgflkfhjnbheaa.Eng.Good prog:=zNo (by kernel_rfl) (by kernel_rfl)
end Go.Proofs.Ythgflkfhjnbheaa.G14
end
section
namespace Go.Proofs.Ythgflkfhjnbheaa.G14
open Go Go.Proofs.Ythgflkfhjnbheaa.Eng
section
variable {H : zAc} {v : AV} {l : List PrS} (g : IsP H v l) (hl : l.length ≤ 1000000)
include g hl
theorem cloneC : ∃ v' K,(envL prog).call 55 [v] H = some (v',K) ∧ Adds H K ∧ Gp K H.length v' l:=by
 have hr : (roomy : Nat) = 140737488355328:=rfl
 rw [c55]
 unfold b55
 rcases g with ⟨rfl,rfl⟩ | ⟨b,c,ex,rfl,hc,hb⟩
 ·refine ⟨.nilSl,H,?_,Adds.refl H,.inl ⟨rfl,rfl⟩⟩
  simp -implicitDefEqProofs (maxSteps:=5000000) only [go_sem,simprocAttr,itr,itq]
 ·have g0 : Gp (H ++ [.rw []]) H.length (.sl H.length 0 2 0 0 true) []:=.inr (.inl ⟨rfl,H.length,Nat.le_refl _,rfl,by simp⟩)
  have gi : IsP (H ++ [.rw []]) (.sl b 0 2 l.length c ex) l:=.inr ⟨b,c,ex,rfl,hc,zBp hb⟩
  obtain ⟨v',K,ea,gk,fr,hn,he⟩:=zL9 g0 (by simp) gi.src.1 gi.src.2 (by simp; omega)
  rw [List.nil_append] at gk
  have A : Adds H K:=fr.old ⟨_,rfl⟩ fun x hx h=>by injection h with h; omega
  have u : v'.under H.length = false:=by
   rcases gk with ⟨rfl,rfl⟩ | ⟨_,x,hx,rfl,_⟩ | ⟨_,x,hx,rfl,_⟩
   ·obtain ⟨q,_⟩:=he rfl; cases q
   ·simp [AV.under]; omega
   ·simp [AV.under]; omega
  refine ⟨v',K,?_,A,gk⟩
  simp -implicitDefEqProofs (maxSteps:=5000000) only [go_sem,simprocAttr,itr,itq,ea,zA6,u]
end
section
variable {H : zAc} {v : AV} {l : List PrS} (g : IsP H v l) (hl : l.length ≤ 1000000) (b : Int) {q : Nat} (hq : cellsOf H q = some [.int .i64 b])
include g hl hq
end
section
variable {H : zAc} {v : AV} {l : List PrS} (g : IsP H v l) (hl : l.length ≤ 1000000) (b : Int)
include g hl
end
end Go.Proofs.Ythgflkfhjnbheaa.G14
end
section
namespace Go.Proofs.Ythgflkfhjnbheaa.G14
open Go Go.Proofs.Ythgflkfhjnbheaa.Eng
section
variable {H : zAc} {v : AV} {l : List PrS} (g : IsP H v l) (hl : l.length ≤ 1000000) (b : Int)
include g hl
set_option maxHeartbeats 4000000 in
theorem rfindL (x2 x3 : AV) : ∀ (k i : Nat) (j6 j7 j8 j9 j10 j11 j12 j13 j14 j15 j16 j17 j18 j19 : AV),i + k = l.length →
  Outs (LP1 l85x0 [v,.int .i64 b,x2,x3,.int .i64 0,.int .i64 (i : Int),j6,j7,j8,j9,j10,j11,j12,j13,j14,j15,j16,j17,j18,j19] H) fun e t K=>K = H ∧ ∃ fv : Nat → AV,t = [v,.int .i64 b,x2,x3,(fv 4),(fv 5),(fv 6),(fv 7),(fv 8),(fv 9),(fv 10),(fv 11),(fv 12),(fv 13),(fv 14),(fv 15),(fv 16),(fv 17),(fv 18),(fv 19)] ∧ ((e = .exit 0 ∧ idxF b i (l.drop i) = -1) ∨ (e = .ret ∧ fv 4 = .int .i64 (idxF b i (l.drop i)))):=by
 intro k
 obtain ⟨L0,hL0⟩ : ∃ L,L = LP1 l85x0:=⟨_,rfl⟩
 have lo:=zAp hL0
 have wl:=g.len
 rw [← hL0]
 induction k with
 | zero =>
  intro i j6 j7 j8 j9 j10 j11 j12 j13 j14 j15 j16 j17 j18 j19 hi
  obtain rfl : i = l.length:=by omega
  have hd : decide ((l.length : Int) < (l.length : Int)) = false:=by simp
  rw [List.drop_length,lo]
  unfold l85x0
  simp -implicitDefEqProofs (maxSteps:=5000000) only [go_sem,simprocAttr,wl,hd,zAg,zAb]
  exact exF2 rfl (.inl rfl)
 | succ k ih =>
  intro i j6 j7 j8 j9 j10 j11 j12 j13 j14 j15 j16 j17 j18 j19 hi
  have hlt : i < l.length:=by omega
  have hd : decide ((i : Int) < (l.length : Int)) = true:=decide_eq_true (by omega)
  have e2 : IntKind.i64.wrap ((i : Int) + 1) = ((i + 1 : Nat) : Int):=by rw [zAk (by omega) (by omega)]; omega
  have hx:=List.getElem?_eq_getElem hlt
  rw [List.drop_eq_getElem_cons hlt]
  generalize l[i] = p at *
  obtain ⟨bb,cs,_,ix,hc,h1,_,_,hle⟩:=g.idx hx
  rw [lo]
  unfold l85x0
  by_cases h : p.1 = b
  ·have hb : (p.1 == b) = true:=by simp [h]
   rw [idxF,if_pos h]
   simp -implicitDefEqProofs (maxSteps:=5000000) only [go_sem,simprocAttr,itr,itq,wl,hd,ix,hc,h1,hb,zAj,zAb]
   exact exF2 rfl (.inr rfl)
  ·have hb : (p.1 == b) = false:=by simp [h]
   rw [idxF,if_neg h]
   simp -implicitDefEqProofs (maxSteps:=5000000) only [go_sem,simprocAttr,itr,itq,wl,hd,ix,hc,h1,hb,e2]
   exact ih (i + 1) _ _ _ _ _ _ _ _ _ _ _ _ _ _ (by omega)
theorem rfindC : (envL prog).call 85 [v,.int .i64 b] H = some (.int .i64 (idxS l b),H):=by
 have l0:=rfindL g hl b (k:=l.length) (i:=0)
 rw [show ((0 : Nat) : Int) = 0 from rfl,List.drop_zero] at l0
 have key : Outs (runC (envL prog) (b85 (envL prog)) ([v,.int .i64 b] ++ List.replicate (20 - [v,AV.int .i64 b].length) .undef) H) fun e' t K=>K = H ∧ fin [.tmp 4] (some (e',t,K)) = some (.int .i64 (idxS l b),K):=by
  unfold b85
  generalize hQ : (fun (e' : Ex) (t : T) (K : zAc)=>K = H ∧ fin [.tmp 4] (some (e',t,K)) = some (AV.int .i64 (idxS l b),K)) = Q
  simp -implicitDefEqProofs (maxSteps:=5000000) only [go_sem,simprocAttr,itr,itq,zAi]
  unfold LP1 at l0
  generalize (envL prog).loop (runC (envL prog) (l85x0 (envL prog))) = L0 at l0 ⊢
  refine zAq (fun r=>seqR (zAt 0 r) _) (l0 _ _ _ _ _ _ _ _ _ _ _ _ _ _ _ _ (by omega)) ?_
  rintro e t K ⟨rfl,fv,rfl,⟨rfl,ho⟩ | ⟨rfl,f4⟩⟩
  ·simp -implicitDefEqProofs (maxSteps:=5000000) only [go_sem,simprocAttr,zAb]
   subst hQ
   have : idxS l b = -1:=ho
   rw [this]
   refine ⟨rfl,?_⟩
   simp -implicitDefEqProofs (maxSteps:=5000000) only [go_sem,simprocAttr]
  ·simp -implicitDefEqProofs (maxSteps:=5000000) only [go_sem,simprocAttr,zAb]
   subst hQ
   refine ⟨rfl,?_⟩
   simp -implicitDefEqProofs (maxSteps:=5000000) only [go_sem,simprocAttr,f4]
   rfl
 obtain ⟨e',t,K,hr,rfl,hf⟩:=key
 rw [c85,hr,hf]; exact zBo rfl
end
theorem ne_prs (p q : PrS) : binV .neq (.flat 2) (.agg (prC p)) (.agg (prC q)) = some (.bool (!decide (p = q))):=by
 obtain ⟨a,b⟩:=p
 obtain ⟨c,d⟩:=q
 unfold prC
 simp only [binV,eqV,zE1,zTv]
 by_cases h1 : a = c <;> by_cases h2 : b = d <;> simp [h1,h2]
section
variable {H : zAc} {v w : AV} {l m : List PrS} (g : IsP H v l) (f : IsP H w m) (hl : l.length ≤ 1000000)
include g f hl
set_option maxHeartbeats 4000000 in
theorem pairsL (he : l.length = m.length) (x2 x3 x6 x7 x8 x9 x10 : AV) : ∀ (k i : Nat) (j11 j12 j13 j14 j15 j16 j17 j18 j19 j20 j21 j22 j23 j24 j25 : AV),i + k = l.length →
  Outs (LP1 l53x0 [v,w,x2,x3,.bool false,.int .i64 (i : Int),x6,x7,x8,x9,x10,j11,j12,j13,j14,j15,j16,j17,j18,j19,j20,j21,j22,j23,j24,j25] H) fun e t K=>K = H ∧ ∃ fv : Nat → AV,t = [v,w,x2,x3,(fv 4),(fv 5),x6,x7,x8,x9,x10,(fv 11),(fv 12),(fv 13),(fv 14),(fv 15),(fv 16),(fv 17),(fv 18),(fv 19),(fv 20),(fv 21),(fv 22),(fv 23),(fv 24),(fv 25)] ∧ ((e = .exit 0 ∧ l.drop i = m.drop i) ∨ (e = .ret ∧ fv 4 = .bool false ∧ l.drop i ≠ m.drop i)):=by
 intro k
 obtain ⟨L0,hL0⟩ : ∃ L,L = LP1 l53x0:=⟨_,rfl⟩
 have lo:=zAp hL0
 have wl:=g.len
 rw [← hL0]
 induction k with
 | zero =>
  intro i j11 j12 j13 j14 j15 j16 j17 j18 j19 j20 j21 j22 j23 j24 j25 hi
  obtain rfl : i = l.length:=by omega
  have hd : decide ((l.length : Int) < (l.length : Int)) = false:=by simp
  rw [lo]
  unfold l53x0
  simp -implicitDefEqProofs (maxSteps:=5000000) only [go_sem,simprocAttr,wl,hd,zAg,zAb]
  exact exF2 rfl (.inl (by rw [List.drop_length,he,List.drop_length]))
 | succ k ih =>
  intro i j11 j12 j13 j14 j15 j16 j17 j18 j19 j20 j21 j22 j23 j24 j25 hi
  have hlt : i < l.length:=by omega
  have hlt2 : i < m.length:=by omega
  have hd : decide ((i : Int) < (l.length : Int)) = true:=decide_eq_true (by omega)
  have e2 : IntKind.i64.wrap ((i : Int) + 1) = ((i + 1 : Nat) : Int):=by rw [zAk (by omega) (by omega)]; omega
  have hx:=List.getElem?_eq_getElem hlt
  have hy:=List.getElem?_eq_getElem hlt2
  rw [List.drop_eq_getElem_cons hlt,List.drop_eq_getElem_cons hlt2]
  generalize l[i] = p at *
  generalize m[i] = q at *
  obtain ⟨bb,cs,_,ix,hc,_,_,ht,hle⟩:=g.idx hx
  obtain ⟨bb2,cs2,_,ix2,hc2,_,_,ht2,hle2⟩:=f.idx hy
  have ne:=ne_prs p q
  rw [lo]
  unfold l53x0
  by_cases h : p = q
  ·have hb : (!decide (p = q)) = false:=by simp [h]
   rw [hb] at ne
   simp -implicitDefEqProofs (maxSteps:=5000000) only [go_sem,simprocAttr,itr,itq,wl,hd,ix,hc,ht,hle,ix2,hc2,ht2,hle2,ne,e2]
   refine (ih (i + 1) _ _ _ _ _ _ _ _ _ _ _ _ _ _ _ (by omega)).mono ?_
   rintro e t K ⟨h1,fv,h2,h3⟩
   refine ⟨h1,fv,h2,?_⟩
   subst h
   rcases h3 with ⟨h3,h4⟩ | ⟨h3,h4,h5⟩
   ·exact .inl ⟨h3,by rw [h4]⟩
   ·exact .inr ⟨h3,h4,fun e=>h5 (List.cons.inj e).2⟩
  ·have hb : (!decide (p = q)) = true:=by simp [h]
   rw [hb] at ne
   simp -implicitDefEqProofs (maxSteps:=5000000) only [go_sem,simprocAttr,itr,itq,wl,hd,ix,hc,ht,hle,ix2,hc2,ht2,hle2,ne,zAj,zAb]
   exact exF2 rfl (.inr ⟨rfl,fun e=>h (List.cons.inj e).1⟩)
theorem pairsC : (envL prog).call 53 [v,w] H = some (.bool (decide (l = m)),H):=by
 have wl:=g.len
 have wm:=f.len
 by_cases he : l.length = m.length
 ·have l0:=pairsL g f hl he (k:=l.length) (i:=0)
  rw [show ((0 : Nat) : Int) = 0 from rfl,List.drop_zero,List.drop_zero] at l0
  have nn : ((l.length : Int) != (m.length : Int)) = false:=by rw [he]; simp
  have key : Outs (runC (envL prog) (b53 (envL prog)) ([v,w] ++ List.replicate (26 - [v,w].length) .undef) H) fun e' t K=>K = H ∧ fin [.tmp 4] (some (e',t,K)) = some (.bool (decide (l = m)),K):=by
   unfold b53
   generalize hQ : (fun (e' : Ex) (t : T) (K : zAc)=>K = H ∧ fin [.tmp 4] (some (e',t,K)) = some (AV.bool (decide (l = m)),K)) = Q
   simp -implicitDefEqProofs (maxSteps:=5000000) only [go_sem,simprocAttr,itr,itq,zAi,wl,wm,nn]
   unfold LP1 at l0
   generalize (envL prog).loop (runC (envL prog) (l53x0 (envL prog))) = L0 at l0 ⊢
   refine zAq (fun r=>seqR (zAt 0 r) _) (l0 _ _ _ _ _ _ _ _ _ _ _ _ _ _ _ _ _ _ _ _ _ _ (by omega)) ?_
   rintro e t K ⟨rfl,fv,rfl,⟨rfl,ho⟩ | ⟨rfl,f4,ho⟩⟩
   ·simp -implicitDefEqProofs (maxSteps:=5000000) only [go_sem,simprocAttr,zAb]
    subst hQ
    rw [decide_eq_true ho]
    refine ⟨rfl,?_⟩
    simp -implicitDefEqProofs (maxSteps:=5000000) only [go_sem,simprocAttr]
   ·simp -implicitDefEqProofs (maxSteps:=5000000) only [go_sem,simprocAttr,zAb]
    subst hQ
    rw [decide_eq_false ho]
    refine ⟨rfl,?_⟩
    simp -implicitDefEqProofs (maxSteps:=5000000) only [go_sem,simprocAttr,f4]
  obtain ⟨e',t,K,hr,rfl,hf⟩:=key
  rw [c53,hr,hf]; exact zBo rfl
 ·have nn : ((l.length : Int) != (m.length : Int)) = true:=by simp; omega
  rw [decide_eq_false (fun e=>he (by rw [e]))]
  rw [c53]
  unfold b53
  simp -implicitDefEqProofs (maxSteps:=5000000) only [go_sem,simprocAttr,itr,itq,wl,wm,nn]
end
end Go.Proofs.Ythgflkfhjnbheaa.G14
end
section
namespace Go.Proofs.Ythgflkfhjnbheaa.G14
open Go Go.Proofs.Ythgflkfhjnbheaa.Eng
theorem x_miss {X : Over} {k f : Nat} {R : List AV → zAc → Option (AV × zAc)} (args : List AV) (h : zAc) (e : (f == k) = false) : (envX prog (X.with k R)).call f args h = (envX prog X).call f args h:=by
 have : ¬ f = k:=by simpa using e
 unfold envX Over.with
 simp [this]
theorem x_hit {X : Over} {k : Nat} {R : List AV → zAc → Option (AV × zAc)} {args : List AV} {h : zAc} {r : AV × zAc} (e : R args h = some r) : (envX prog (X.with k R)).call k args h = some r:=by
 unfold envX Over.with
 simp [e]
section
variable {H0 : zAc} {v : AV} {l : List PrS} (hl : l.length ≤ 1000000) (b a : Int) {pb : Nat} (hpb : pb < H0.length)
include hl hpb
end
end Go.Proofs.Ythgflkfhjnbheaa.G14
end
section
namespace Go.Proofs.Ythgflkfhjnbheaa.G14
open Go Go.Proofs.Ythgflkfhjnbheaa.Eng
def FS (H : zAc) (B : Nat) (v : AV) (zs : List Int) : Prop:=GR 1 H B v (zs.map fun z=>[AV.int .i64 z])
theorem FS.push {K : zAc} {B s : Nat} {v : AV} {zs : List Int} {z : Int} (g : FS K B v zs) (hs : cellsOf K s = some [.int .i64 z]) (hn : zs.length ≤ 1000000) (hB : B ≤ K.length) : ∃ v' K',app (ty 1 false 8 [.int .i64 0]) v (.sl s 0 1 1 1 true) K = some (v',K') ∧ FS K' B v' (zs ++ [z]) ∧ Fr K K' (fun b=>slb v = some b) ∧ slb v' = some K.length ∧ K'.length = K.length + 1:=by
 have hr : (roomy : Nat) = 140737488355328:=rfl
 obtain ⟨v',K',ea,g',fr,sv,kl,_⟩:=zTm (k:=1) (by omega) (d:=ty 1 false 8 [.int .i64 0]) rfl (by decide) g (fun x hx=>by obtain ⟨y,_,rfl⟩:=List.mem_map.1 hx; rfl) hs rfl rfl (by rw [List.length_map]; show (zs.length + 1) * 8 ≤ _; omega) hB
 refine ⟨v',K',ea,?_,fr,sv,kl⟩
 unfold FS; rw [List.map_append]; exact g'
section
variable {H : zAc} {va : AV} {la : List PrS} (ga : IsP H va la) (hla : la.length ≤ 1000)
include ga hla
end
end Go.Proofs.Ythgflkfhjnbheaa.G14
end
section
namespace Go.Proofs.Ythgflkfhjnbheaa.G14
open Go Go.Proofs.Ythgflkfhjnbheaa.Eng
section
variable {H : zAc} {v : AV} {l : List PrS} (g : IsP H v l) (hl : l.length ≤ 1000000) (b : Int)
include g hl
end
end Go.Proofs.Ythgflkfhjnbheaa.G14
end
section
namespace Go.Proofs.Ythgflkfhjnbheaa.G14
open Go Go.Proofs.Ythgflkfhjnbheaa.Eng
theorem FS.cell {K : zAc} {B : Nat} {v : AV} {zs : List Int} (g : FS K B v zs) : zA0 v = some [v] ∧ v.isCell = true:=GR.cells g
section
variable {H : zAc} {va : AV} {la : List PrS} (ga : IsP H va la) (hla : la.length ≤ 1000)
include ga hla
end
end Go.Proofs.Ythgflkfhjnbheaa.G14
end
section
namespace Go.Proofs.Ythgflkfhjnbheaa.G14
open Go Go.Proofs.Ythgflkfhjnbheaa.Eng
theorem FS.read {H : zAc} {B : Nat} {v : AV} {zs : List Int} (g : FS H B v zs) {i : Nat} {z : Int} (hi : zs[i]? = some z) : ∃ b cs,slb v = some b ∧ zBj 1 v (.int .i64 (i : Int)) = some (.ptr b i) ∧ cellsOf H b = some cs ∧ cs[i]? = some (.int .i64 z) ∧ i + 1 ≤ cs.length:=by
 obtain ⟨b,cs,sb,ix,hc,hr,hle⟩:=GR.read (by omega) g (fun r hr=>by obtain ⟨y,_,rfl⟩:=List.mem_map.1 hr; rfl) (zKk (fun z=>[AV.int .i64 z]) hi)
 rw [Nat.mul_one] at ix hr hle
 refine ⟨b,cs,sb,ix,hc,?_,hle⟩
 have:=congrArg (fun q : List AV=>q[0]?) hr
 rw [List.getElem?_take,if_pos (by omega),List.getElem?_drop,Nat.add_zero] at this
 exact this
theorem FS.len {H : zAc} {B : Nat} {v : AV} {zs : List Int} (g : FS H B v zs) : zD3 v = some (.int .i64 zs.length):=by
 have:=GR.len g
 rwa [List.length_map] at this
def idxI (x : Int) : Nat → List Int → Int
 | _,[]=>-1
 | n,z :: l=>if x = z then (n : Int) else idxI x (n + 1) l
theorem zKf (x : Int) : ∀ (l : List Int) (n : Nat),decide (idxI x n l ≥ 0) = l.contains x
 | [],n=>rfl
 | z :: l,n=>by
  unfold idxI
  rw [List.contains_cons]
  by_cases h : x = z
  ·rw [if_pos h,decide_eq_true (by omega)]; simp [h]
  ·rw [if_neg h,zKf x l (n + 1)]; simp [h]
section
variable {H : zAc} {B : Nat} {v : AV} {zs : List Int} (g : FS H B v zs) (hl : zs.length ≤ 1000000) (x : Int)
include g hl
set_option maxHeartbeats 4000000 in
theorem indexL (x2 x3 x6 : AV) : ∀ (k i : Nat) (j5 j9 j10 j11 j12 j13 j14 j15 j16 j17 j18 : AV),i + k = zs.length →
  Outs (LP1 l92x0 [v,.int .i64 x,x2,x3,.int .i64 0,j5,x6,.int .i64 (zs.length : Int),.int .i64 (i : Int),j9,j10,j11,j12,j13,j14,j15,j16,j17,j18] H) fun e t K=>K = H ∧ ∃ fv : Nat → AV,t = [v,.int .i64 x,x2,x3,(fv 4),(fv 5),x6,.int .i64 (zs.length : Int),(fv 8),(fv 9),(fv 10),(fv 11),(fv 12),(fv 13),(fv 14),(fv 15),(fv 16),(fv 17),(fv 18)] ∧ ((e = .exit 0 ∧ idxI x i (zs.drop i) = -1) ∨ (e = .ret ∧ fv 4 = .int .i64 (idxI x i (zs.drop i)))):=by
 intro k
 obtain ⟨L0,hL0⟩ : ∃ L,L = LP1 l92x0:=⟨_,rfl⟩
 have lo:=zAp hL0
 rw [← hL0]
 induction k with
 | zero =>
  intro i j5 j9 j10 j11 j12 j13 j14 j15 j16 j17 j18 hi
  obtain rfl : i = zs.length:=by omega
  have hd : decide ((zs.length : Int) < (zs.length : Int)) = false:=by simp
  rw [List.drop_length,lo]
  unfold l92x0
  simp -implicitDefEqProofs (maxSteps:=5000000) only [go_sem,simprocAttr,hd,zAg,zAb]
  exact exF2 rfl (.inl rfl)
 | succ k ih =>
  intro i j5 j9 j10 j11 j12 j13 j14 j15 j16 j17 j18 hi
  have hlt : i < zs.length:=by omega
  have hd : decide ((i : Int) < (zs.length : Int)) = true:=decide_eq_true (by omega)
  have e2 : IntKind.i64.wrap ((i : Int) + 1) = ((i + 1 : Nat) : Int):=by rw [zAk (by omega) (by omega)]; omega
  have hx:=List.getElem?_eq_getElem hlt
  rw [List.drop_eq_getElem_cons hlt]
  generalize zs[i] = z at *
  obtain ⟨bb,cs,_,ix,hc,h1,hle⟩:=g.read hx
  rw [lo]
  unfold l92x0
  by_cases h : x = z
  ·have hb : (x == z) = true:=by simp [h]
   rw [idxI,if_pos h]
   simp -implicitDefEqProofs (maxSteps:=5000000) only [go_sem,simprocAttr,itr,itq,hd,ix,hc,h1,hb,zAj,zAb]
   exact exF2 rfl (.inr rfl)
  ·have hb : (x == z) = false:=by simp [h]
   rw [idxI,if_neg h]
   simp -implicitDefEqProofs (maxSteps:=5000000) only [go_sem,simprocAttr,itr,itq,hd,ix,hc,h1,hb,e2]
   exact ih (i + 1) _ _ _ _ _ _ _ _ _ _ _ (by omega)
theorem sindexC : (envL prog).call 92 [v,.int .i64 x] H = some (.int .i64 (idxI x 0 zs),H):=by
 have l0:=indexL g hl x (k:=zs.length) (i:=0)
 rw [show ((0 : Nat) : Int) = 0 from rfl,List.drop_zero] at l0
 have wl:=g.len
 have key : Outs (runC (envL prog) (b92 (envL prog)) ([v,.int .i64 x] ++ List.replicate (19 - [v,AV.int .i64 x].length) .undef) H) fun e' t K=>K = H ∧ fin [.tmp 4] (some (e',t,K)) = some (.int .i64 (idxI x 0 zs),K):=by
  unfold b92
  generalize hQ : (fun (e' : Ex) (t : T) (K : zAc)=>K = H ∧ fin [.tmp 4] (some (e',t,K)) = some (AV.int .i64 (idxI x 0 zs),K)) = Q
  simp -implicitDefEqProofs (maxSteps:=5000000) only [go_sem,simprocAttr,itr,itq,zAi,wl]
  unfold LP1 at l0
  generalize (envL prog).loop (runC (envL prog) (l92x0 (envL prog))) = L0 at l0 ⊢
  refine zAq (fun r=>seqR (zAt 0 r) _) (l0 _ _ _ _ _ _ _ _ _ _ _ _ _ _ (by omega)) ?_
  rintro e t K ⟨rfl,fv,rfl,⟨rfl,ho⟩ | ⟨rfl,f4⟩⟩
  ·simp -implicitDefEqProofs (maxSteps:=5000000) only [go_sem,simprocAttr,zAb]
   subst hQ
   rw [ho]
   refine ⟨rfl,?_⟩
   simp -implicitDefEqProofs (maxSteps:=5000000) only [go_sem,simprocAttr]
  ·simp -implicitDefEqProofs (maxSteps:=5000000) only [go_sem,simprocAttr,zAb]
   subst hQ
   refine ⟨rfl,?_⟩
   simp -implicitDefEqProofs (maxSteps:=5000000) only [go_sem,simprocAttr,f4]
 obtain ⟨e',t,K,hr,rfl,hf⟩:=key
 rw [c92,hr,hf]; exact zBo rfl
theorem zMk : (envL prog).call 75 [v,.int .i64 x] H = some (.bool (zs.contains x),H):=by
 have ei:=sindexC g hl x
 have ed:=zKf x zs 0
 rw [c75]
 unfold b75
 simp -implicitDefEqProofs (maxSteps:=5000000) only [go_sem,simprocAttr,itr,itq,ei,ed]
end
theorem zGe {l : List PrS} {i : Nat} (hi : i < l.length) : (l.take (i + 1)).getLast? = l[i]?:=by
 rw [List.take_add_one,List.getElem?_eq_getElem hi]; exact List.getLast?_concat
section
variable {H : zAc} {v : AV} {l : List PrS} (g : IsP H v l) (hl : l.length ≤ 1000000) (bl ar : Int)
include g hl
set_option maxHeartbeats 16000000 in
theorem goodL (x3 x4 x5 : AV) : ∀ (k i : Nat) (K : zAc) (v7 : AV) (j8 j9 j13 j14 j15 j16 j17 j18 j19 j20 j21 j22 j23 j24 j25 j26 j27 j28 j29 j30 j31 j32 j33 j34 j35 j36 j37 j38 j39 j40 j41 j42 j43 j44 j45 j46 j47 j48 j49 j50 j51 j52 j53 j54 j55 j56 j57 j58 j59 j60 j61 j62 j63 : AV),Adds H K → FS K H.length v7 ((l.take i).map (·.2)) → i + k = l.length →
  Outs (LP1 l95x0 [v,.int .i64 bl,.int .i64 ar,x3,x4,x5,.bool false,v7,j8,j9,v,.int .i64 (l.length : Int),.int .i64 (i : Int),j13,j14,j15,j16,j17,j18,j19,j20,j21,j22,j23,j24,j25,j26,j27,j28,j29,j30,j31,j32,j33,j34,j35,j36,j37,j38,j39,j40,j41,j42,j43,j44,j45,j46,j47,j48,j49,j50,j51,j52,j53,j54,j55,j56,j57,j58,j59,j60,j61,j62,j63] K) fun e t K'=>Adds H K' ∧ ∃ fv : Nat → AV,t = [v,.int .i64 bl,.int .i64 ar,x3,x4,x5,(fv 6),(fv 7),(fv 8),(fv 9),v,.int .i64 (l.length : Int),(fv 12),(fv 13),(fv 14),(fv 15),(fv 16),(fv 17),(fv 18),(fv 19),(fv 20),(fv 21),(fv 22),(fv 23),(fv 24),(fv 25),(fv 26),(fv 27),(fv 28),(fv 29),(fv 30),(fv 31),(fv 32),(fv 33),(fv 34),(fv 35),(fv 36),(fv 37),(fv 38),(fv 39),(fv 40),(fv 41),(fv 42),(fv 43),(fv 44),(fv 45),(fv 46),(fv 47),(fv 48),(fv 49),(fv 50),(fv 51),(fv 52),(fv 53),(fv 54),(fv 55),(fv 56),(fv 57),(fv 58),(fv 59),(fv 60),(fv 61),(fv 62),(fv 63)] ∧ ((e = .exit 0 ∧ zEr bl ar (l.take i) (l.drop i) = true) ∨ (e = .ret ∧ fv 6 = .bool false ∧ zEr bl ar (l.take i) (l.drop i) = false)):=by
 intro k
 obtain ⟨L0,hL0⟩ : ∃ L,L = LP1 l95x0:=⟨_,rfl⟩
 have lo:=zAp hL0
 rw [← hL0]
 induction k with
 | zero =>
  intro i K v7 j8 j9 j13 j14 j15 j16 j17 j18 j19 j20 j21 j22 j23 j24 j25 j26 j27 j28 j29 j30 j31 j32 j33 j34 j35 j36 j37 j38 j39 j40 j41 j42 j43 j44 j45 j46 j47 j48 j49 j50 j51 j52 j53 j54 j55 j56 j57 j58 j59 j60 j61 j62 j63 aK g7 hi
  obtain rfl : i = l.length:=by omega
  have hd : decide ((l.length : Int) < (l.length : Int)) = false:=by simp
  rw [List.drop_length,lo]
  unfold l95x0
  simp -implicitDefEqProofs (maxSteps:=5000000) only [go_sem,simprocAttr,hd,zAg,zAb]
  exact ⟨aK,exF2 rfl (.inl rfl)⟩
 | succ k ih =>
  intro i K v7 j8 j9 j13 j14 j15 j16 j17 j18 j19 j20 j21 j22 j23 j24 j25 j26 j27 j28 j29 j30 j31 j32 j33 j34 j35 j36 j37 j38 j39 j40 j41 j42 j43 j44 j45 j46 j47 j48 j49 j50 j51 j52 j53 j54 j55 j56 j57 j58 j59 j60 j61 j62 j63 aK g7 hi
  have hlt : i < l.length:=by omega
  have hd : decide ((i : Int) < (l.length : Int)) = true:=decide_eq_true (by omega)
  have e2 : IntKind.i64.wrap ((i : Int) + 1) = ((i + 1 : Nat) : Int):=by rw [zAk (by omega) (by omega)]; omega
  have hx:=List.getElem?_eq_getElem hlt
  have tk : (l.take (i + 1)).map (·.2) = (l.take i).map (·.2) ++ [l[i].2]:=by rw [List.take_add_one,hx,List.map_append]; rfl
  have tk0 : l.take (i + 1) = l.take i ++ [l[i]]:=by rw [List.take_add_one,hx]; rfl
  rw [List.drop_eq_getElem_cons hlt,zEr]
  generalize l[i] = p at *
  obtain ⟨bb,cs,sb,ix,hc0,h1,h2,ht,hle⟩:=g.idx hx
  have hc:=aK.cells hc0
  obtain ⟨K1,hK1⟩ : ∃ K1,K1 = K ++ [ABlk.rw [.int .i64 p.1,.int .i64 p.2]]:=⟨_,rfl⟩
  have A1 : Adds K K1:=⟨_,hK1⟩
  have cq : cellsOf K1 K.length = some [.int .i64 p.1,.int .i64 p.2]:=by rw [hK1]; unfold cellsOf; simp
  have g71 : FS K1 H.length v7 ((l.take i).map (·.2)):=GR.frS g7 (Fr.adds A1 (fun _=>False)) fun _ _ h=>h
  have hcb:=A1.cells hc
  have ec:=zMk g71 (by rw [List.length_map,List.length_take]; omega) p.2
  have aK1:=aK.trans A1
  have hK1s:=hK1.symm
  unfold prC at ht
  by_cases c1 : p.1 < 0
  ·have ok : okAt bl ar (l.take i) p = false:=by unfold okAt; rw [decide_eq_false (show ¬ 0 ≤ p.1 by omega)]; rfl
   have d1:=decide_eq_true c1
   rw [ok,Bool.false_and,lo]
   unfold l95x0
   simp -implicitDefEqProofs (maxSteps:=5000000) only [go_sem,simprocAttr,itr,itq,hd,ix,hc,ht,hle,hK1s,cq,d1,zAj,zAb]
   exact ⟨aK1,exF2 rfl (.inr rfl)⟩
  have d1:=decide_eq_false c1
  by_cases c2 : p.1 ≥ bl
  ·have ok : okAt bl ar (l.take i) p = false:=by unfold okAt; rw [decide_eq_false (show ¬ p.1 < bl by omega)]; simp
   have d2:=decide_eq_true c2
   rw [ok,Bool.false_and,lo]
   unfold l95x0
   simp -implicitDefEqProofs (maxSteps:=5000000) only [go_sem,simprocAttr,itr,itq,hd,ix,hc,ht,hle,hK1s,cq,d1,d2,zAj,zAb]
   exact ⟨aK1,exF2 rfl (.inr rfl)⟩
  have d2:=decide_eq_false c2
  by_cases c3 : p.2 < 0
  ·have ok : okAt bl ar (l.take i) p = false:=by unfold okAt; rw [decide_eq_false (show ¬ 0 ≤ p.2 by omega)]; simp
   have d3:=decide_eq_true c3
   rw [ok,Bool.false_and,lo]
   unfold l95x0
   simp -implicitDefEqProofs (maxSteps:=5000000) only [go_sem,simprocAttr,itr,itq,hd,ix,hc,ht,hle,hK1s,cq,d1,d2,d3,zAj,zAb]
   exact ⟨aK1,exF2 rfl (.inr rfl)⟩
  have d3:=decide_eq_false c3
  by_cases c4 : p.2 ≥ ar
  ·have ok : okAt bl ar (l.take i) p = false:=by unfold okAt; rw [decide_eq_false (show ¬ p.2 < ar by omega)]; simp
   have d4:=decide_eq_true c4
   rw [ok,Bool.false_and,lo]
   unfold l95x0
   simp -implicitDefEqProofs (maxSteps:=5000000) only [go_sem,simprocAttr,itr,itq,hd,ix,hc,ht,hle,hK1s,cq,d1,d2,d3,d4,zAj,zAb]
   exact ⟨aK1,exF2 rfl (.inr rfl)⟩
  have d4:=decide_eq_false c4
  by_cases c5 : ((l.take i).map (·.2)).contains p.2 = true
  ·have ok : okAt bl ar (l.take i) p = false:=by unfold okAt; rw [c5]; simp
   rw [c5] at ec
   rw [ok,Bool.false_and,lo]
   unfold l95x0
   simp -implicitDefEqProofs (maxSteps:=5000000) only [go_sem,simprocAttr,itr,itq,hd,ix,hc,ht,hle,hK1s,cq,d1,d2,d3,d4,ec,zAj,zAb]
   exact ⟨aK1,exF2 rfl (.inr rfl)⟩
  have c5':=Bool.eq_false_iff.2 c5
  rw [c5'] at ec
  have okv : okAt bl ar (l.take i) p = (match (l.take i).getLast? with | none=>true | some q=>decide (q.1 < p.1)):=by
   unfold okAt; rw [decide_eq_true (show 0 ≤ p.1 by omega),decide_eq_true (show p.1 < bl by omega),decide_eq_true (show 0 ≤ p.2 by omega),decide_eq_true (show p.2 < ar by omega),c5']; rfl
  have rest : okAt bl ar (l.take i) p = true → ∀ (X : zAc),K1 ++ [ABlk.rw [.int .i64 p.2]] = X → ∃ v' K3,app (ty 1 false 8 [.int .i64 0]) v7 (.sl K1.length 0 1 1 1 true) X = some (v',K3) ∧ Adds H K3 ∧ FS K3 H.length v' ((l.take (i + 1)).map (·.2)):=fun _ X hX=>by
   have AX : Adds K1 X:=⟨_,hX.symm⟩
   have fX : FS X H.length v7 ((l.take i).map (·.2)):=GR.frS g71 (Fr.adds AX (fun _=>False)) fun _ _ h=>h
   have lX : X.length = K1.length + 1:=by rw [← hX]; simp
   obtain ⟨v',K3,ea,g3,f3,s3,_⟩:=fX.push (s:=K1.length) (z:=p.2) (by rw [← hX]; unfold cellsOf; simp) (by rw [List.length_map,List.length_take]; omega) (by have:=aK1.len; omega)
   rw [← tk] at g3
   exact ⟨v',K3,ea,f3.old (aK1.trans AX) fun x hx h=>by have:=(GR.out g7 x h).1; omega,g3⟩
  have lK1 : K1.length = K.length + 1:=by rw [hK1]; simp
  by_cases h0 : i = 0
  ·have ok : okAt bl ar (l.take i) p = true:=by rw [okv,h0]; rfl
   have d6 : decide ((i : Int) > 0) = false:=decide_eq_false (by omega)
   obtain ⟨v',K3,ea,a3,g3⟩:=rest ok _ rfl
   have key:=ih (i + 1) K3 v'
   rw [ok,Bool.true_and,← tk0,lo]
   unfold l95x0
   simp -implicitDefEqProofs (maxSteps:=5000000) only [go_sem,simprocAttr,itr,itq,hd,ix,hc,ht,hle,hK1s,cq,d1,d2,d3,d4,ec,d6,ea,e2]
   exact key _ _ _ _ _ _ _ _ _ _ _ _ _ _ _ _ _ _ _ _ _ _ _ _ _ _ _ _ _ _ _ _ _ _ _ _ _ _ _ _ _ _ _ _ _ _ _ _ _ _ _ _ _ a3 g3 (by omega)
  ·have d6 : decide ((i : Int) > 0) = true:=decide_eq_true (by omega)
   have w1 : IntKind.i64.wrap ((i : Int) - 1) = ((i - 1 : Nat) : Int):=by rw [zAk (by omega) (by omega)]; omega
   have hy:=List.getElem?_eq_getElem (show i - 1 < l.length by omega)
   have lt:=zGe (l:=l) (show i - 1 < l.length by omega)
   rw [show i - 1 + 1 = i by omega,hy] at lt
   generalize l[i - 1]'(by omega) = q at *
   obtain ⟨bb2,cs2,_,ix2,hc20,q1,_,_,_⟩:=g.idx hy
   have hc2:=aK1.cells hc20
   rw [lt] at okv
   by_cases c6 : p.1 ≤ q.1
   ·have ok : okAt bl ar (l.take i) p = false:=by rw [okv]; exact decide_eq_false (by omega)
    have d7:=decide_eq_true c6
    rw [ok,Bool.false_and,lo]
    unfold l95x0
    simp -implicitDefEqProofs (maxSteps:=5000000) only [go_sem,simprocAttr,itr,itq,hd,ix,hc,ht,hle,hK1s,cq,d1,d2,d3,d4,ec,d6,w1,ix2,hc2,q1,d7,zAj,zAb]
    exact ⟨aK1,exF2 rfl (.inr rfl)⟩
   ·have ok : okAt bl ar (l.take i) p = true:=by rw [okv]; exact decide_eq_true (by omega)
    have d7:=decide_eq_false c6
    obtain ⟨v',K3,ea,a3,g3⟩:=rest ok _ rfl
    have key:=ih (i + 1) K3 v'
    rw [ok,Bool.true_and,← tk0,lo]
    unfold l95x0
    simp -implicitDefEqProofs (maxSteps:=5000000) only [go_sem,simprocAttr,itr,itq,hd,ix,hc,ht,hle,hK1s,cq,d1,d2,d3,d4,ec,d6,w1,ix2,hc2,q1,d7,ea,e2]
    exact key _ _ _ _ _ _ _ _ _ _ _ _ _ _ _ _ _ _ _ _ _ _ _ _ _ _ _ _ _ _ _ _ _ _ _ _ _ _ _ _ _ _ _ _ _ _ _ _ _ _ _ _ _ a3 g3 (by omega)
theorem goodC : (envL prog).call 95 [v,.int .i64 bl,.int .i64 ar] H = some (.bool (zEc l bl ar),H):=by
 have l0:=goodL g hl bl ar (k:=l.length) (i:=0) (K:=H) (v7:=.nilSl)
 rw [show ((0 : Nat) : Int) = 0 from rfl,List.drop_zero,List.take_zero] at l0
 have wl:=g.len
 have key : Outs (runC (envL prog) (b95 (envL prog)) ([v,.int .i64 bl,.int .i64 ar] ++ List.replicate (64 - [v,AV.int .i64 bl,AV.int .i64 ar].length) .undef) H) fun e' t K=>Adds H K ∧ fin [.tmp 6] (some (e',t,K)) = some (.bool (zEc l bl ar),K):=by
  unfold b95
  generalize hQ : (fun (e' : Ex) (t : T) (K : zAc)=>Adds H K ∧ fin [.tmp 6] (some (e',t,K)) = some (AV.bool (zEc l bl ar),K)) = Q
  simp -implicitDefEqProofs (maxSteps:=5000000) only [go_sem,simprocAttr,itr,itq,zAi,wl]
  unfold LP1 at l0
  generalize (envL prog).loop (runC (envL prog) (l95x0 (envL prog))) = L0 at l0 ⊢
  refine zAq (fun r=>seqR (zAt 0 r) _) (l0 _ _ _ _ _ _ _ _ _ _ _ _ _ _ _ _ _ _ _ _ _ _ _ _ _ _ _ _ _ _ _ _ _ _ _ _ _ _ _ _ _ _ _ _ _ _ _ _ _ _ _ _ _ _ _ _ (Adds.refl H) (.inl ⟨rfl,rfl⟩) (by omega)) ?_
  rintro e t K ⟨aK,fv,rfl,⟨rfl,ho⟩ | ⟨rfl,f6,ho⟩⟩
  ·have eg : zEc l bl ar = true:=ho
   rw [eg] at hQ
   simp -implicitDefEqProofs (maxSteps:=5000000) only [go_sem,simprocAttr,zAb]
   subst hQ
   refine ⟨aK,?_⟩
   simp -implicitDefEqProofs (maxSteps:=5000000) only [go_sem,simprocAttr]
  ·have eg : zEc l bl ar = false:=ho
   rw [eg] at hQ
   simp -implicitDefEqProofs (maxSteps:=5000000) only [go_sem,simprocAttr,zAb]
   subst hQ
   refine ⟨aK,?_⟩
   simp -implicitDefEqProofs (maxSteps:=5000000) only [go_sem,simprocAttr,f6]
 obtain ⟨e',t,K,hr,⟨Y,rfl⟩,hf⟩:=key
 rw [c95,hr,hf]; exact zHn rfl
end
end Go.Proofs.Ythgflkfhjnbheaa.G14
end
section
namespace Go.Proofs.Ythgflkfhjnbheaa.G14
open Go Go.Proofs.Ythgflkfhjnbheaa.Eng
section
variable {H : zAc} {v : AV} {l : List PrS} (g : IsP H v l) (hl : l.length ≤ 9223372036854775807) (bl ar : Int)
include g hl
set_option maxHeartbeats 8000000 in
theorem rgoodL0 {K : zAc} (aK : Adds H K) {i : Nat} (hi0 : i ≤ l.length) {qb : Nat} {p : PrS} (cq : cellsOf K qb = some [.int .i64 p.1,.int .i64 p.2]) (x1 x2 x3 x4 x5 x10 x11 x12 x13 x14 x15 x16 x17 x18 x19 x20 x21 x22 x23 x24 x25 x26 x27 x28 x29 x30 x31 x32 x33 x34 x35 x36 x37 x38 x39 x40 x41 x42 x43 x44 x45 x46 x47 x48 x49 x50 x51 x52 x53 x54 : AV) : ∀ (k j : Nat) (j55 j56 j57 j58 j59 j60 j61 j62 j63 j64 j65 j66 j67 : AV),j + k = i →
  Outs (LP1 l82x0 [v,x1,x2,x3,x4,x5,.bool false,.int .i64 (i : Int),.ptr qb 0,.int .i64 (j : Int),x10,x11,x12,x13,x14,x15,x16,x17,x18,x19,x20,x21,x22,x23,x24,x25,x26,x27,x28,x29,x30,x31,x32,x33,x34,x35,x36,x37,x38,x39,x40,x41,x42,x43,x44,x45,x46,x47,x48,x49,x50,x51,x52,x53,x54,j55,j56,j57,j58,j59,j60,j61,j62,j63,j64,j65,j66,j67] K) fun e t K'=>K' = K ∧ ∃ fv : Nat → AV,t = [v,x1,x2,x3,x4,x5,(fv 6),.int .i64 (i : Int),.ptr qb 0,(fv 9),x10,x11,x12,x13,x14,x15,x16,x17,x18,x19,x20,x21,x22,x23,x24,x25,x26,x27,x28,x29,x30,x31,x32,x33,x34,x35,x36,x37,x38,x39,x40,x41,x42,x43,x44,x45,x46,x47,x48,x49,x50,x51,x52,x53,x54,(fv 55),(fv 56),(fv 57),(fv 58),(fv 59),(fv 60),(fv 61),(fv 62),(fv 63),(fv 64),(fv 65),(fv 66),(fv 67)] ∧ ((e = .exit 2 ∧ fv 6 = .bool false ∧ (((l.take i).drop j).map (·.2)).contains p.2 = false) ∨ (e = .ret ∧ fv 6 = .bool false ∧ (((l.take i).drop j).map (·.2)).contains p.2 = true)):=by
 intro k
 obtain ⟨L0,hL0⟩ : ∃ L,L = LP1 l82x0:=⟨_,rfl⟩
 have lo:=zAp hL0
 rw [← hL0]
 have tl : (l.take i).length = i:=by rw [List.length_take]; omega
 induction k with
 | zero =>
  intro j j55 j56 j57 j58 j59 j60 j61 j62 j63 j64 j65 j66 j67 hj
  obtain rfl : j = i:=by omega
  have hd : decide ((j : Int) < (j : Int)) = false:=by simp
  rw [lo]
  unfold l82x0
  simp -implicitDefEqProofs (maxSteps:=5000000) only [go_sem,simprocAttr,hd,zAg,zAb]
  exact exF2 rfl (.inl ⟨rfl,by rw [List.drop_of_length_le (by omega)]; rfl⟩)
 | succ k ih =>
  intro j j55 j56 j57 j58 j59 j60 j61 j62 j63 j64 j65 j66 j67 hj
  have hlt : j < l.length:=by omega
  have hd : decide ((j : Int) < (i : Int)) = true:=decide_eq_true (by omega)
  have e2 : IntKind.i64.wrap ((j : Int) + 1) = ((j + 1 : Nat) : Int):=by rw [zAk (by omega) (by omega)]; omega
  have hx:=List.getElem?_eq_getElem hlt
  have hy : (l.take i)[j]? = l[j]?:=by rw [List.getElem?_take,if_pos (by omega)]
  have hz : (l.take i)[j]'(by omega) = l[j]:=by
   have:=List.getElem?_eq_getElem (show j < (l.take i).length by omega)
   rw [hy,hx] at this; exact (Option.some.inj this).symm
  rw [List.drop_eq_getElem_cons (show j < (l.take i).length by omega),hz,List.map_cons,List.contains_cons]
  generalize l[j] = q at *
  obtain ⟨bb,cs,sb,ix,hc0,h1,h2,ht,hle⟩:=g.idx hx
  have hc:=aK.cells hc0
  rw [lo]
  unfold l82x0
  by_cases h : q.2 = p.2
  ·have hb : (q.2 == p.2) = true:=by simp [h]
   have hb2 : (p.2 == q.2) = true:=by simp [h]
   rw [hb2,Bool.true_or]
   simp -implicitDefEqProofs (maxSteps:=5000000) only [go_sem,simprocAttr,itr,itq,hd,ix,hc,h2,cq,hb,zAj,zAb]
   exact exF2 rfl (.inr rfl)
  ·have hb : (q.2 == p.2) = false:=by simp [h]
   have hb2 : (p.2 == q.2) = false:=by simp; exact fun e=>h e.symm
   rw [hb2,Bool.false_or]
   simp -implicitDefEqProofs (maxSteps:=5000000) only [go_sem,simprocAttr,itr,itq,hd,ix,hc,h2,cq,hb,e2]
   exact ih (j + 1) _ _ _ _ _ _ _ _ _ _ _ _ _ (by omega)
set_option maxHeartbeats 16000000 in
theorem rgoodL (x3 x4 x5 : AV) : ∀ (k i : Nat) (K : zAc) (j8 j9 j10 j11 j12 j13 j14 j15 j16 j17 j18 j19 j20 j21 j22 j23 j24 j25 j26 j27 j28 j29 j30 j31 j32 j33 j34 j35 j36 j37 j38 j39 j40 j41 j42 j43 j44 j45 j46 j47 j48 j49 j50 j51 j52 j53 j54 j55 j56 j57 j58 j59 j60 j61 j62 j63 j64 j65 j66 j67 : AV),Adds H K → i + k = l.length →
  Outs (LP1 l82x1 [v,.int .i64 bl,.int .i64 ar,x3,x4,x5,.bool false,.int .i64 (i : Int),j8,j9,j10,j11,j12,j13,j14,j15,j16,j17,j18,j19,j20,j21,j22,j23,j24,j25,j26,j27,j28,j29,j30,j31,j32,j33,j34,j35,j36,j37,j38,j39,j40,j41,j42,j43,j44,j45,j46,j47,j48,j49,j50,j51,j52,j53,j54,j55,j56,j57,j58,j59,j60,j61,j62,j63,j64,j65,j66,j67] K) fun e t K'=>Adds H K' ∧ ∃ fv : Nat → AV,t = [v,.int .i64 bl,.int .i64 ar,x3,x4,x5,(fv 6),(fv 7),(fv 8),(fv 9),(fv 10),(fv 11),(fv 12),(fv 13),(fv 14),(fv 15),(fv 16),(fv 17),(fv 18),(fv 19),(fv 20),(fv 21),(fv 22),(fv 23),(fv 24),(fv 25),(fv 26),(fv 27),(fv 28),(fv 29),(fv 30),(fv 31),(fv 32),(fv 33),(fv 34),(fv 35),(fv 36),(fv 37),(fv 38),(fv 39),(fv 40),(fv 41),(fv 42),(fv 43),(fv 44),(fv 45),(fv 46),(fv 47),(fv 48),(fv 49),(fv 50),(fv 51),(fv 52),(fv 53),(fv 54),(fv 55),(fv 56),(fv 57),(fv 58),(fv 59),(fv 60),(fv 61),(fv 62),(fv 63),(fv 64),(fv 65),(fv 66),(fv 67)] ∧ ((e = .exit 0 ∧ zEr bl ar (l.take i) (l.drop i) = true) ∨ (e = .ret ∧ fv 6 = .bool false ∧ zEr bl ar (l.take i) (l.drop i) = false)):=by
 intro k
 obtain ⟨L0,hL0⟩ : ∃ L,L = LP1 l82x1:=⟨_,rfl⟩
 have lo:=zAp hL0
 have wl:=g.len
 rw [← hL0]
 induction k with
 | zero =>
  intro i K j8 j9 j10 j11 j12 j13 j14 j15 j16 j17 j18 j19 j20 j21 j22 j23 j24 j25 j26 j27 j28 j29 j30 j31 j32 j33 j34 j35 j36 j37 j38 j39 j40 j41 j42 j43 j44 j45 j46 j47 j48 j49 j50 j51 j52 j53 j54 j55 j56 j57 j58 j59 j60 j61 j62 j63 j64 j65 j66 j67 aK hi
  obtain rfl : i = l.length:=by omega
  have hd : decide ((l.length : Int) < (l.length : Int)) = false:=by simp
  rw [List.drop_length,lo]
  unfold l82x1
  simp -implicitDefEqProofs (maxSteps:=5000000) only [go_sem,simprocAttr,wl,hd,zAg,zAb]
  exact ⟨aK,exF2 rfl (.inl rfl)⟩
 | succ k ih =>
  intro i K j8 j9 j10 j11 j12 j13 j14 j15 j16 j17 j18 j19 j20 j21 j22 j23 j24 j25 j26 j27 j28 j29 j30 j31 j32 j33 j34 j35 j36 j37 j38 j39 j40 j41 j42 j43 j44 j45 j46 j47 j48 j49 j50 j51 j52 j53 j54 j55 j56 j57 j58 j59 j60 j61 j62 j63 j64 j65 j66 j67 aK hi
  have hlt : i < l.length:=by omega
  have hd : decide ((i : Int) < (l.length : Int)) = true:=decide_eq_true (by omega)
  have e2 : IntKind.i64.wrap ((i : Int) + 1) = ((i + 1 : Nat) : Int):=by rw [zAk (by omega) (by omega)]; omega
  have hx:=List.getElem?_eq_getElem hlt
  have tk0 : l.take (i + 1) = l.take i ++ [l[i]]:=by rw [List.take_add_one,hx]; rfl
  rw [List.drop_eq_getElem_cons hlt,zEr]
  generalize l[i] = p at *
  obtain ⟨bb,cs,sb,ix,hc0,h1,h2,ht,hle⟩:=g.idx hx
  have hc:=aK.cells hc0
  obtain ⟨K1,hK1⟩ : ∃ K1,K1 = K ++ [ABlk.rw [.int .i64 p.1,.int .i64 p.2]]:=⟨_,rfl⟩
  have A1 : Adds K K1:=⟨_,hK1⟩
  have cq : cellsOf K1 K.length = some [.int .i64 p.1,.int .i64 p.2]:=by rw [hK1]; unfold cellsOf; simp
  have aK1:=aK.trans A1
  have hK1s:=hK1.symm
  unfold prC at ht
  have l0:=rgoodL0 g hl aK1 (i:=i) (by omega) cq (k:=i) (j:=0)
  rw [show ((0 : Nat) : Int) = 0 from rfl,List.drop_zero] at l0
  by_cases c1 : p.1 < 0
  ·have ok : okAt bl ar (l.take i) p = false:=by unfold okAt; rw [decide_eq_false (show ¬ 0 ≤ p.1 by omega)]; rfl
   have d1:=decide_eq_true c1
   rw [ok,Bool.false_and,lo]
   unfold l82x1
   simp -implicitDefEqProofs (maxSteps:=5000000) only [go_sem,simprocAttr,itr,itq,wl,hd,ix,hc,ht,hle,hK1s,cq,d1,zAj,zAb]
   exact ⟨aK1,exF2 rfl (.inr rfl)⟩
  have d1:=decide_eq_false c1
  by_cases c2 : p.1 ≥ bl
  ·have ok : okAt bl ar (l.take i) p = false:=by unfold okAt; rw [decide_eq_false (show ¬ p.1 < bl by omega)]; simp
   have d2:=decide_eq_true c2
   rw [ok,Bool.false_and,lo]
   unfold l82x1
   simp -implicitDefEqProofs (maxSteps:=5000000) only [go_sem,simprocAttr,itr,itq,wl,hd,ix,hc,ht,hle,hK1s,cq,d1,d2,zAj,zAb]
   exact ⟨aK1,exF2 rfl (.inr rfl)⟩
  have d2:=decide_eq_false c2
  by_cases c3 : p.2 < 0
  ·have ok : okAt bl ar (l.take i) p = false:=by unfold okAt; rw [decide_eq_false (show ¬ 0 ≤ p.2 by omega)]; simp
   have d3:=decide_eq_true c3
   rw [ok,Bool.false_and,lo]
   unfold l82x1
   simp -implicitDefEqProofs (maxSteps:=5000000) only [go_sem,simprocAttr,itr,itq,wl,hd,ix,hc,ht,hle,hK1s,cq,d1,d2,d3,zAj,zAb]
   exact ⟨aK1,exF2 rfl (.inr rfl)⟩
  have d3:=decide_eq_false c3
  by_cases c4 : p.2 ≥ ar
  ·have ok : okAt bl ar (l.take i) p = false:=by unfold okAt; rw [decide_eq_false (show ¬ p.2 < ar by omega)]; simp
   have d4:=decide_eq_true c4
   rw [ok,Bool.false_and,lo]
   unfold l82x1
   simp -implicitDefEqProofs (maxSteps:=5000000) only [go_sem,simprocAttr,itr,itq,wl,hd,ix,hc,ht,hle,hK1s,cq,d1,d2,d3,d4,zAj,zAb]
   exact ⟨aK1,exF2 rfl (.inr rfl)⟩
  have d4:=decide_eq_false c4
  have okv : okAt bl ar (l.take i) p = (!((l.take i).map (·.2)).contains p.2 && (match (l.take i).getLast? with | none=>true | some q=>decide (q.1 < p.1))):=by
   unfold okAt; rw [decide_eq_true (show 0 ≤ p.1 by omega),decide_eq_true (show p.1 < bl by omega),decide_eq_true (show 0 ≤ p.2 by omega),decide_eq_true (show p.2 < ar by omega)]; rfl
  have key:=ih (i + 1) K1
  by_cases h0 : i = 0
  ·have ok : okAt bl ar (l.take i) p = true:=by rw [okv,h0]; rfl
   have d6 : decide ((i : Int) > 0) = false:=decide_eq_false (by omega)
   have cf : ((l.take i).map (·.2)).contains p.2 = false:=by rw [h0]; rfl
   rw [ok,Bool.true_and,← tk0,lo]
   unfold l82x1
   simp -implicitDefEqProofs (maxSteps:=5000000) only [go_sem,simprocAttr,itr,itq,zAi,wl,hd,ix,hc,ht,hle,hK1s,cq,d1,d2,d3,d4,d6]
   unfold LP1 at l0
   generalize (envL prog).loop (runC (envL prog) (l82x0 (envL prog))) = LL at l0 ⊢
   refine zAq (fun x=>seqR (seqR (zAt 1 (zAt 2 x)) _) _) (l0 _ _ _ _ _ _ _ _ _ _ _ _ _ _ _ _ _ _ _ _ _ _ _ _ _ _ _ _ _ _ _ _ _ _ _ _ _ _ _ _ _ _ _ _ _ _ _ _ _ _ _ _ _ _ _ _ _ _ _ _ _ _ _ (by omega)) ?_
   rintro e t K' ⟨rfl,fv,rfl,⟨rfl,f6,ho⟩ | ⟨rfl,f6,ho⟩⟩
   ·simp -implicitDefEqProofs (maxSteps:=5000000) only [go_sem,simprocAttr,e2,f6]
    exact key _ _ _ _ _ _ _ _ _ _ _ _ _ _ _ _ _ _ _ _ _ _ _ _ _ _ _ _ _ _ _ _ _ _ _ _ _ _ _ _ _ _ _ _ _ _ _ _ _ _ _ _ _ _ _ _ _ _ _ _ aK1 (by omega)
   ·rw [cf] at ho; cases ho
  ·have d6 : decide ((i : Int) > 0) = true:=decide_eq_true (by omega)
   have w1 : IntKind.i64.wrap ((i : Int) - 1) = ((i - 1 : Nat) : Int):=by rw [zAk (by omega) (by omega)]; omega
   have hy:=List.getElem?_eq_getElem (show i - 1 < l.length by omega)
   have lt:=zGe (l:=l) (show i - 1 < l.length by omega)
   rw [show i - 1 + 1 = i by omega,hy] at lt
   generalize l[i - 1]'(by omega) = q at *
   obtain ⟨bb2,cs2,_,ix2,hc20,q1,_,_,_⟩:=g.idx hy
   have hc2:=aK1.cells hc20
   rw [lt] at okv
   simp only at okv
   by_cases c6 : p.1 ≤ q.1
   ·have ok : okAt bl ar (l.take i) p = false:=by rw [okv,decide_eq_false (show ¬ q.1 < p.1 by omega)]; simp
    have d7:=decide_eq_true c6
    rw [ok,Bool.false_and,lo]
    unfold l82x1
    simp -implicitDefEqProofs (maxSteps:=5000000) only [go_sem,simprocAttr,itr,itq,wl,hd,ix,hc,ht,hle,hK1s,cq,d1,d2,d3,d4,d6,w1,ix2,hc2,q1,d7,zAj,zAb]
    exact ⟨aK1,exF2 rfl (.inr rfl)⟩
   ·have okv2 : okAt bl ar (l.take i) p = (!((l.take i).map (·.2)).contains p.2):=by rw [okv]; simp; intro; omega
    have d7:=decide_eq_false c6
    rw [lo]
    unfold l82x1
    simp -implicitDefEqProofs (maxSteps:=5000000) only [go_sem,simprocAttr,itr,itq,zAi,wl,hd,ix,hc,ht,hle,hK1s,cq,d1,d2,d3,d4,d6,w1,ix2,hc2,q1,d7]
    unfold LP1 at l0
    generalize (envL prog).loop (runC (envL prog) (l82x0 (envL prog))) = LL at l0 ⊢
    refine zAq (fun x=>seqR (seqR (zAt 1 (zAt 2 x)) _) _) (l0 _ _ _ _ _ _ _ _ _ _ _ _ _ _ _ _ _ _ _ _ _ _ _ _ _ _ _ _ _ _ _ _ _ _ _ _ _ _ _ _ _ _ _ _ _ _ _ _ _ _ _ _ _ _ _ _ _ _ _ _ _ _ _ (by omega)) ?_
    rintro e t K' ⟨rfl,fv,rfl,⟨rfl,f6,ho⟩ | ⟨rfl,f6,ho⟩⟩
    ·have ok : okAt bl ar (l.take i) p = true:=by rw [okv2,ho]; rfl
     rw [ok,← tk0]
     simp only [Bool.true_and]
     simp -implicitDefEqProofs (maxSteps:=5000000) only [go_sem,simprocAttr,e2,f6]
     exact key _ _ _ _ _ _ _ _ _ _ _ _ _ _ _ _ _ _ _ _ _ _ _ _ _ _ _ _ _ _ _ _ _ _ _ _ _ _ _ _ _ _ _ _ _ _ _ _ _ _ _ _ _ _ _ _ _ _ _ _ aK1 (by omega)
    ·have ok : okAt bl ar (l.take i) p = false:=by rw [okv2,ho]; rfl
     rw [ok]
     simp only [Bool.false_and]
     simp -implicitDefEqProofs (maxSteps:=5000000) only [go_sem,simprocAttr,zAj,zAb]
     exact ⟨aK1,exF2 rfl (.inr ⟨f6,trivial⟩)⟩
theorem rgoodC : (envL prog).call 82 [v,.int .i64 bl,.int .i64 ar] H = some (.bool (zEc l bl ar),H):=by
 have l0:=rgoodL g hl bl ar (k:=l.length) (i:=0) (K:=H)
 rw [show ((0 : Nat) : Int) = 0 from rfl,List.drop_zero,List.take_zero] at l0
 have wl:=g.len
 have key : Outs (runC (envL prog) (b82 (envL prog)) ([v,.int .i64 bl,.int .i64 ar] ++ List.replicate (68 - [v,AV.int .i64 bl,AV.int .i64 ar].length) .undef) H) fun e' t K=>Adds H K ∧ fin [.tmp 6] (some (e',t,K)) = some (.bool (zEc l bl ar),K):=by
  unfold b82
  generalize hQ : (fun (e' : Ex) (t : T) (K : zAc)=>Adds H K ∧ fin [.tmp 6] (some (e',t,K)) = some (AV.bool (zEc l bl ar),K)) = Q
  simp -implicitDefEqProofs (maxSteps:=5000000) only [go_sem,simprocAttr,itr,itq,zAi,wl]
  unfold LP1 at l0
  generalize (envL prog).loop (runC (envL prog) (l82x1 (envL prog))) = L0 at l0 ⊢
  refine zAq (fun r=>seqR (zAt 0 r) _) (l0 _ _ _ _ _ _ _ _ _ _ _ _ _ _ _ _ _ _ _ _ _ _ _ _ _ _ _ _ _ _ _ _ _ _ _ _ _ _ _ _ _ _ _ _ _ _ _ _ _ _ _ _ _ _ _ _ _ _ _ _ _ _ _ (Adds.refl H) (by omega)) ?_
  rintro e t K ⟨aK,fv,rfl,⟨rfl,ho⟩ | ⟨rfl,f6,ho⟩⟩
  ·have eg : zEc l bl ar = true:=ho
   rw [eg] at hQ
   simp -implicitDefEqProofs (maxSteps:=5000000) only [go_sem,simprocAttr,zAb]
   subst hQ
   refine ⟨aK,?_⟩
   simp -implicitDefEqProofs (maxSteps:=5000000) only [go_sem,simprocAttr]
  ·have eg : zEc l bl ar = false:=ho
   rw [eg] at hQ
   simp -implicitDefEqProofs (maxSteps:=5000000) only [go_sem,simprocAttr,zAb]
   subst hQ
   refine ⟨aK,?_⟩
   simp -implicitDefEqProofs (maxSteps:=5000000) only [go_sem,simprocAttr,f6]
 obtain ⟨e',t,K,hr,⟨Y,rfl⟩,hf⟩:=key
 rw [c82,hr,hf]; exact zHn rfl
end
end Go.Proofs.Ythgflkfhjnbheaa.G14
end
section
namespace Go.Proofs.Ythgflkfhjnbheaa.G14
open Go Go.Proofs.Ythgflkfhjnbheaa.Eng
def IsI (H : zAc) (v : AV) (zs : List Int) : Prop:=(v = .nilSl ∧ zs = []) ∨ ∃ b c ex,v = .sl b 0 1 zs.length c ex ∧ cellsOf H b = some (zs.map fun z=>AV.int .i64 z)
section
variable {H : zAc} {v w : AV} {l m : List Int} (g : IsI H v l) (f : IsI H w m) (hl : l.length ≤ 1000000)
include g f hl
end
end Go.Proofs.Ythgflkfhjnbheaa.G14
end
section
namespace Go.Proofs.Ythgflkfhjnbheaa.G14.Bt
open Go Go.Proofs.Ythgflkfhjnbheaa.Eng
def bitB (z : Int) (r : Int) : Bool:=(IntKind.u8.wrap ((BitVec.ofInt 8 (z.fdiv (2 ^ min r.toNat 8)) &&& BitVec.ofInt 8 1).toNat : Int) == 1)
def hasS (zs : List Int) (i : Int) : Bool:=decide (i ≥ 0) && decide (i.tdiv 8 < zs.length) && bitB ((zs[(i.tdiv 8).toNat]?).getD 0) (i.tmod 8)
theorem shr8 (z : Int) (k : IntKind) (r : Int) (hr : 0 ≤ r) : binV .shr .none (.int .u8 z) (.int k r) = some (.int .u8 (z.fdiv (2 ^ min r.toNat 8))):=by
 show (if r < 0 then none else some (AV.int .u8 (z.fdiv (2 ^ min r.toNat 8)))) = _
 rw [if_neg (by omega)]
theorem and8 (x y : Int) : binV .and .none (.int .u8 x) (.int .u8 y) = some (.int .u8 (IntKind.u8.wrap ((BitVec.ofInt 8 x &&& BitVec.ofInt 8 y).toNat : Int))):=rfl
def orI (x y : Int) : Int:=IntKind.u8.wrap ((BitVec.ofInt 8 x ||| BitVec.ofInt 8 y).toNat : Int)
theorem wrapU (r : Int) (h0 : 0 ≤ r) (h1 : r ≤ 1000) : IntKind.u64.wrap r = r:=by
 unfold IntKind.wrap
 simp only [show IntKind.u64.signed = false from rfl,show IntKind.u64.bits = 64 from rfl,Bool.false_and,Bool.false_eq_true,if_false]
 omega
set_option maxHeartbeats 1000000 in
theorem hasC {H : zAc} {v : AV} {zs : List Int} (b : BS H v zs) (i : Int) (hi : i ≤ 9223372036854775807) : (envL prog).call 96 [v,.int .i64 i] H = some (.bool (hasS zs i),H):=by
 rw [c96]
 unfold b96 hasS
 have hl:=b.len
 by_cases h0 : i ≥ 0
 ·have d0 : decide (i ≥ 0) = true:=by simp [h0]
  have e1 : i.tdiv 8 = i / 8:=Int.tdiv_eq_ediv_of_nonneg h0
  have e2 : i.tmod 8 = i % 8:=Int.tmod_eq_emod_of_nonneg h0
  have w : IntKind.i64.wrap (i / 8) = i / 8:=zAk (by omega) (by omega)
  rw [e1,e2]
  by_cases h1 : i / 8 < zs.length
  ·have d1 : decide (i / 8 < (zs.length : Int)) = true:=by simp [h1]
   obtain ⟨n,hn⟩ : ∃ n : Nat,i / 8 = n:=⟨(i / 8).toNat,by omega⟩
   have hlt : n < zs.length:=by omega
   obtain ⟨ad,ha,hld⟩:=b.idx (List.getElem?_eq_getElem hlt) .i64
   have hs:=fun z=>shr8 z .i64 (i % 8) (by omega)
   rw [hn] at w d1 ⊢
   rw [Int.toNat_natCast,List.getElem?_eq_getElem hlt,Option.getD_some]
   unfold bitB
   simp -implicitDefEqProofs (maxSteps:=5000000) only [go_sem,simprocAttr,go_sem,hl,d0,d1,e1,e2,hn,w,ha,hld,hs,and8]
  ·have d1 : decide (i / 8 < (zs.length : Int)) = false:=by simp [h1]
   simp -implicitDefEqProofs (maxSteps:=5000000) only [go_sem,simprocAttr,go_sem,hl,d0,d1,e1,w]
 ·have d0 : decide (i ≥ 0) = false:=by simp [h0]
  simp -implicitDefEqProofs (maxSteps:=5000000) only [go_sem,simprocAttr,go_sem,hl,d0]
set_option maxHeartbeats 1000000 in
theorem hasR {H : zAc} {v : AV} {zs : List Int} (b : BS H v zs) (i : Int) (hi : i ≤ 9223372036854775807) : (envL prog).call 83 [v,.int .i64 i] H = some (.bool (hasS zs i),H):=by
 rw [c83]
 unfold b83 hasS
 have hl:=b.len
 by_cases h0 : i ≥ 0
 ·have d0 : decide (i ≥ 0) = true:=by simp [h0]
  have e1 : i.tdiv 8 = i / 8:=Int.tdiv_eq_ediv_of_nonneg h0
  have e2 : i.tmod 8 = i % 8:=Int.tmod_eq_emod_of_nonneg h0
  have w : IntKind.i64.wrap (i / 8) = i / 8:=zAk (by omega) (by omega)
  have wu : IntKind.u64.wrap (i % 8) = i % 8:=wrapU _ (by omega) (by omega)
  rw [e1,e2]
  by_cases h1 : i / 8 < zs.length
  ·have d1 : decide (i / 8 < (zs.length : Int)) = true:=by simp [h1]
   obtain ⟨n,hn⟩ : ∃ n : Nat,i / 8 = n:=⟨(i / 8).toNat,by omega⟩
   have hlt : n < zs.length:=by omega
   obtain ⟨ad,ha,hld⟩:=b.idx (List.getElem?_eq_getElem hlt) .i64
   have hs:=fun z=>shr8 z .u64 (i % 8) (by omega)
   rw [hn] at w d1 ⊢
   rw [Int.toNat_natCast,List.getElem?_eq_getElem hlt,Option.getD_some]
   unfold bitB
   simp -implicitDefEqProofs (maxSteps:=5000000) only [go_sem,simprocAttr,go_sem,hl,d0,d1,e1,e2,hn,w,wu,ha,hld,hs,and8]
  ·have d1 : decide (i / 8 < (zs.length : Int)) = false:=by simp [h1]
   simp -implicitDefEqProofs (maxSteps:=5000000) only [go_sem,simprocAttr,go_sem,hl,d0,d1,e1,w]
 ·have d0 : decide (i ≥ 0) = false:=by simp [h0]
  simp -implicitDefEqProofs (maxSteps:=5000000) only [go_sem,simprocAttr,go_sem,hl,d0]
theorem bytesC {H : zAc} {v w : AV} {xs ys : List Int} (b : BS H v xs) (c : BS H w ys) (hx : IsU8 xs) (hy : IsU8 ys) : (envL prog).call 17 [v,w] H = some (.bool (decide (xs = ys)),H):=by
 rw [c17]
 unfold b17
 obtain ⟨s,hs,es⟩:=b.str
 obtain ⟨t,ht,et⟩:=c.str
 have hb : binV .eql .none (.str s) (.str t) = some (.bool (decide (xs = ys))):=by
  show some (AV.bool (s.toList == t.toList)) = _
  rw [es,et]
  by_cases h : xs = ys
  ·subst h; simp
  ·have : ¬ (xs.map fun n=>UInt8.ofNat n.toNat) = (ys.map fun n=>UInt8.ofNat n.toNat):=fun q=>h (zRc hx hy q)
   simp [h,this]
 simp -implicitDefEqProofs (maxSteps:=5000000) only [go_sem,simprocAttr,go_sem,hs,ht,hb]
end Go.Proofs.Ythgflkfhjnbheaa.G14.Bt
end
section
namespace Go.Proofs.Ythgflkfhjnbheaa.G14.Bt
open Go Go.Proofs.Ythgflkfhjnbheaa.Eng
def Own (H : zAc) (v : AV) (G : zAc) (zs : List Int) : Prop :=
 (zs = [] ∧ ((v = .nilSl ∧ G = []) ∨ (v = .sl H.length 0 1 0 0 true ∧ G = [.rw []]))) ∨ (zs ≠ [] ∧ v = .sl (H.length + 1) 0 1 zs.length zs.length false ∧ G = [.rw [],.rw (u8s zs)])
theorem Own.bs {H : zAc} {v : AV} {G : zAc} {zs : List Int} (h : Own H v G zs) : BS (H ++ G) v zs:=by
 rcases h with ⟨rfl,⟨rfl,rfl⟩ | ⟨rfl,rfl⟩⟩ | ⟨_,rfl,rfl⟩
 ·exact BS.nil _
 ·exact BS.block (zs:=[]) (b:=H.length) (by simp [u8s])
 ·exact BS.block (by simp)
theorem app_copy {H : zAc} {v : AV} {zs : List Int} (b : BS H v zs) (hn : zs.length ≤ 100000) : ∃ v' G,Own H v' G zs ∧ v' ≠ .nilSl ∧ app (ty 1 false 1 [.int .u8 0]) (.sl H.length 0 1 0 0 true) v (H ++ [.rw []]) = some (v',H ++ G):=by
 have hr:=(b.mono [.rw []]).read
 by_cases h0 : zs = []
 ·subst h0
  refine ⟨.sl H.length 0 1 0 0 true,[.rw []],.inl ⟨rfl,.inr ⟨rfl,rfl⟩⟩,by simp,?_⟩
  unfold app
  rw [hr.1]
  simp only [Option.bind_some,show (ty 1 false 1 [AV.int .u8 0]).size = 1 from rfl]
  have h2:=hr.2
  simp only [List.length_nil] at h2 ⊢
  rw [h2]
  rfl
 ·have hpos : 0 < zs.length:=List.length_pos_iff.2 h0
  refine ⟨.sl (H.length + 1) 0 1 zs.length zs.length false,[.rw [],.rw (u8s zs)],.inr ⟨h0,rfl,rfl⟩,by simp,?_⟩
  unfold app
  rw [hr.1]
  simp only [Option.bind_some,show (ty 1 false 1 [AV.int .u8 0]).size = 1 from rfl,hr.2]
  unfold zB6
  simp only [show (ty 1 false 1 [AV.int .u8 0]).size = 1 from rfl,show (ty 1 false 1 [AV.int .u8 0]).bytes = 1 from rfl]
  have h1 : ¬ ((1 : Nat) ≠ 1 ∨ (1 : Nat) = 0):=by simp
  have h3 : ¬ (0 + zs.length ≤ 0):=by omega
  have h4 : 1 ≤ 1 ∧ (0 + zs.length) * 1 ≤ roomy:=⟨by omega,by unfold roomy; omega⟩
  rw [if_neg h1,if_neg (by omega),if_neg h3,if_pos h4]
  have hz : zB0 (H ++ [.rw []]) H.length 0 (0 * 1) = some []:=by unfold zB0 cellsOf; simp
  rw [hz]
  simp
theorem cloneC {H : zAc} {v : AV} {zs : List Int} (b : BS H v zs) (hn : zs.length ≤ 100000) : ∃ v' G,Own H v' G zs ∧ (envL prog).call 57 [v] H = some (v',H ++ G):=by
 by_cases hv : v = .nilSl
 ·subst hv
  have hz : zs = []:=by
   rcases b with ⟨_,h⟩ | ⟨_,_,_,_,_,h,_⟩
   ·exact h
   ·cases h
  subst hz
  refine ⟨.nilSl,[],.inl ⟨rfl,.inl ⟨rfl,rfl⟩⟩,?_⟩
  rw [c57]
  unfold b57
  simp -implicitDefEqProofs (maxSteps:=5000000) only [go_sem,simprocAttr,go_sem]
 ·obtain ⟨v',G,o,hne,ha⟩:=app_copy b hn
  refine ⟨v',G,o,?_⟩
  have e : binV .eql .slice v .nilSl = some (.bool false):=by
   rcases b.is with rfl | ⟨_,_,_,_,_,_,rfl⟩
   ·exact absurd rfl hv
   ·rfl
  have u : v'.under H.length = false:=by
   rcases o with ⟨_,⟨rfl,_⟩ | ⟨rfl,_⟩⟩ | ⟨_,rfl,_⟩
   ·exact absurd rfl hne
   ·simp [AV.under]
   ·simp [AV.under]
  rw [c57]
  unfold b57
  simp -implicitDefEqProofs (maxSteps:=5000000) only [go_sem,simprocAttr,go_sem,e,ha,zA6,u]
end Go.Proofs.Ythgflkfhjnbheaa.G14.Bt
end
section
namespace Go.Proofs.Ythgflkfhjnbheaa.G14.Bt
open Go Go.Proofs.Ythgflkfhjnbheaa.Eng
def orL : List Int → List Int → List Int
 | p,[]=>p
 | [],_=>[]
 | x :: p,y :: q=>orI x y :: orL p q
theorem orL_nil (p : List Int) : orL p [] = p:=by cases p <;> rfl
def orS (xs ys : List Int) : List Int:=if xs.length < ys.length then orL ys xs else orL xs ys
end Go.Proofs.Ythgflkfhjnbheaa.G14.Bt
end
section
namespace Go.Proofs.Ythgflkfhjnbheaa.G14.Bt
open Go Go.Proofs.Ythgflkfhjnbheaa.Eng
def newN (k : Int) : Nat:=if k < 1 ∨ k > 4096 then 0 else ((k + 7) / 8).toNat
def NewS (H : zAc) (v : AV) (G : zAc) (k : Int) : Prop:=(v = .nilSl ∧ G = [] ∧ newN k = 0) ∨ (v = .sl H.length 0 1 (newN k) (newN k) true ∧ G = [.rw (u8s (List.replicate (newN k) 0))])
theorem NewS.bs {H : zAc} {v : AV} {G : zAc} {k : Int} (h : NewS H v G k) : BS (H ++ G) v (List.replicate (newN k) 0):=by
 rcases h with ⟨rfl,rfl,h0⟩ | ⟨rfl,rfl⟩
 ·rw [h0]; exact BS.nil _
 ·have:=BS.block (H:=H ++ [.rw (u8s (List.replicate (newN k) 0))]) (b:=H.length) (zs:=List.replicate (newN k) 0) (l:=newN k) (e:=true) (by simp)
  rwa [List.length_replicate] at this
theorem make8 (n : Nat) (hn : n ≤ 100000) (h : zAc) : zBy (ty 1 false 1 [.int .u8 0]) (.int .i64 n) (.int .i64 n) h = some (.sl h.length 0 1 n n true,h ++ [.rw (u8s (List.replicate n 0))]):=by
 have hc : (0 ≤ (n : Int) ∧ (n : Int) ≤ n ∧ 1 ≤ 1 ∧ (n : Int) * ((1 : Nat) : Int) ≤ ((roomy : Nat) : Int) ∧ 1 ≤ 1):=⟨by omega,by omega,by omega,by unfold roomy; omega,by omega⟩
 refine (if_pos hc).trans ?_
 have : (List.replicate (n : Int).toNat [AV.int .u8 0]).flatten = u8s (List.replicate n 0):=by
  rw [Int.toNat_natCast]
  unfold u8s
  induction n with
  | zero=>rfl
  | succ n ih=>rw [List.replicate_succ,List.flatten_cons,ih (by omega) ⟨by omega,by omega,by omega,by unfold roomy; omega,by omega⟩]; rfl
 rw [Int.toNat_natCast] at this
 simp only [show (ty 1 false 1 [AV.int .u8 0]).zero = [AV.int .u8 0] from rfl,Int.toNat_natCast,this]
 rfl
theorem newC (k : Int) (H : zAc) : ∃ v G,NewS H v G k ∧ (envL prog).call 26 [.int .i64 k] H = some (v,H ++ G):=by
 rw [c26]
 unfold b26
 by_cases h1 : k < 1
 ·have d1 : decide (k < 1) = true:=by simp [h1]
  refine ⟨.nilSl,[],.inl ⟨rfl,rfl,by simp [newN,h1]⟩,?_⟩
  simp -implicitDefEqProofs (maxSteps:=5000000) only [go_sem,simprocAttr,go_sem,d1]
 ·have d1 : decide (k < 1) = false:=by simp [h1]
  by_cases h2 : k > 4096
  ·have d2 : decide (k > 4096) = true:=by simp [h2]
   refine ⟨.nilSl,[],.inl ⟨rfl,rfl,by simp [newN,h2]⟩,?_⟩
   simp -implicitDefEqProofs (maxSteps:=5000000) only [go_sem,simprocAttr,go_sem,d1,d2]
  ·have d2 : decide (k > 4096) = false:=by simp [h2]
   obtain ⟨n,hn⟩ : ∃ n : Nat,(k + 7) / 8 = n:=⟨((k + 7) / 8).toNat,by omega⟩
   have hw : newN k = n:=by unfold newN; rw [if_neg (by omega),hn]; simp
   have e1 : IntKind.i64.wrap (k + 8) = k + 8:=zAk (by omega) (by omega)
   have e2 : IntKind.i64.wrap (k + 8 - 1) = k + 7:=by rw [zAk (by omega) (by omega)]; omega
   have e3 : (k + 7).tdiv 8 = n:=by rw [Int.tdiv_eq_ediv_of_nonneg (by omega),hn]
   have e4 : IntKind.i64.wrap (n : Int) = n:=zAk (by omega) (by omega)
   have mk:=make8 n (by omega)
   have u : (AV.sl H.length 0 1 n n true).under H.length = false:=by simp [AV.under]
   refine ⟨.sl H.length 0 1 n n true,[.rw (u8s (List.replicate n 0))],.inr ⟨by rw [hw],by rw [hw]⟩,?_⟩
   simp -implicitDefEqProofs (maxSteps:=5000000) only [go_sem,simprocAttr,go_sem,d1,d2,e1,e2,e3,e4,mk,zA6,u]
theorem newR (k : Int) (H : zAc) : ∃ v G,NewS H v G k ∧ (envL prog).call 29 [.int .i64 k] H = some (v,H ++ G):=by
 rw [c29]
 unfold b29
 by_cases h1 : k < 1
 ·have d1 : decide (k < 1) = true:=by simp [h1]
  refine ⟨.nilSl,[],.inl ⟨rfl,rfl,by simp [newN,h1]⟩,?_⟩
  simp -implicitDefEqProofs (maxSteps:=5000000) only [go_sem,simprocAttr,go_sem,d1]
 ·have d1 : decide (k < 1) = false:=by simp [h1]
  by_cases h2 : k > 4096
  ·have d2 : decide (k > 4096) = true:=by simp [h2]
   refine ⟨.nilSl,[],.inl ⟨rfl,rfl,by simp [newN,h2]⟩,?_⟩
   simp -implicitDefEqProofs (maxSteps:=5000000) only [go_sem,simprocAttr,go_sem,d1,d2]
  ·have d2 : decide (k > 4096) = false:=by simp [h2]
   obtain ⟨n,hn⟩ : ∃ n : Nat,(k + 7) / 8 = n:=⟨((k + 7) / 8).toNat,by omega⟩
   have hw : newN k = n:=by unfold newN; rw [if_neg (by omega),hn]; simp
   have e2 : IntKind.i64.wrap (k + 7) = k + 7:=zAk (by omega) (by omega)
   have e3 : (k + 7).tdiv 8 = n:=by rw [Int.tdiv_eq_ediv_of_nonneg (by omega),hn]
   have e4 : IntKind.i64.wrap (n : Int) = n:=zAk (by omega) (by omega)
   have mk:=make8 n (by omega)
   have u : (AV.sl H.length 0 1 n n true).under H.length = false:=by simp [AV.under]
   refine ⟨.sl H.length 0 1 n n true,[.rw (u8s (List.replicate n 0))],.inr ⟨by rw [hw],by rw [hw]⟩,?_⟩
   simp -implicitDefEqProofs (maxSteps:=5000000) only [go_sem,simprocAttr,go_sem,d1,d2,e2,e3,e4,mk,zA6,u]
end Go.Proofs.Ythgflkfhjnbheaa.G14.Bt
end
section
namespace Go.Proofs.Ythgflkfhjnbheaa.G14.Bt
open Go Go.Proofs.Ythgflkfhjnbheaa.Eng
def ones (z : Int) : Int:=(((List.range 8).countP fun i=>z.toNat.testBit i : Nat) : Int)
theorem zNf (z : Int) : 0 ≤ ones z ∧ ones z ≤ 255:=by
 unfold ones
 have : (List.range 8).countP (fun i=>z.toNat.testBit i) ≤ (List.range 8).length:=List.countP_le_length
 rw [List.length_range] at this
 omega
theorem ones_tab : ∀ z : Fin 256,(((zC2[z.1]?).getD 0).toNat : Int) = ones ((z.1 : Nat) : Int):=by decide +kernel
theorem onesC (z : Int) (hz : 0 ≤ z ∧ z ≤ 255) (H : zAc) : (envL prog).call 101 [.int .u8 z] H = some (.int .i64 (ones z),H):=by
 have hlt : z.toNat < zC2.length:=by
  have : zC2.length = 256:=rfl
  omega
 have hs : zEo (.str zJ1) (.int .u8 z) = some (.int .u8 (ones z)):=by
  unfold zEo
  simp only
  rw [if_pos hz.1]
  have e : (zJ1).data[z.toNat]? = some (zC2[z.toNat]'hlt):=by
   show (zC2.toArray)[z.toNat]? = _
   rw [List.getElem?_toArray,List.getElem?_eq_getElem hlt]
  rw [e]
  have:=ones_tab ⟨z.toNat,by omega⟩
  simp only at this
  rw [List.getElem?_eq_getElem hlt,Option.getD_some,show ((z.toNat : Nat) : Int) = z by omega] at this
  rw [← this]; rfl
 have hw : IntKind.i64.wrap (ones z) = ones z:=zAk (by have:=zNf z; omega) (by have:=zNf z; omega)
 rw [c101]
 unfold b101
 simp -implicitDefEqProofs (maxSteps:=5000000) only [go_sem,simprocAttr,go_sem,hs,hw]
def sumO : List Int → Int
 | []=>0
 | z :: r=>ones z + sumO r
theorem zLa {zs : List Int} {i : Nat} {z : Int} (h : zs[i]? = some z) : sumO (zs.take (i + 1)) = sumO (zs.take i) + ones z:=by
 induction zs generalizing i with
 | nil=>simp at h
 | cons a zs ih =>
  cases i with
  | zero=>simp at h; subst h; simp [sumO]
  | succ i =>
   simp only [List.take_succ_cons,sumO]
   rw [ih (by simpa using h)]; omega
theorem zRl : ∀ zs : List Int,0 ≤ sumO zs ∧ sumO zs ≤ 255 * zs.length
 | []=>by simp [sumO]
 | z :: r=>by
  have:=zRl r
  have:=zNf z
  simp only [sumO,List.length_cons]; omega
set_option maxHeartbeats 2000000 in
theorem zT0 {H : zAc} {v : AV} {zs : List Int} (b : BS H v zs) (hu : IsU8 zs) (hn : zs.length ≤ 100000) (x0 x1 x2 x4 x17 : AV) : ∀ (m i : Nat) (j5 j9 j10 j11 j12 j13 j14 j15 j16 : AV),i + m = zs.length →
  ∃ k5 k9 k10 k11 k12 k13 k14 k15 k16 : AV,(envL prog).loop (runC (envL prog) (l97x0 (envL prog))) [x0,x1,x2,.int .i64 (sumO (zs.take i)),x4,j5,v,.int .i64 zs.length,.int .i64 (i : Int),j9,j10,j11,j12,j13,j14,j15,j16,x17] H =
   some (.exit 0,[x0,x1,x2,.int .i64 (sumO zs),x4,k5,v,.int .i64 zs.length,.int .i64 (zs.length : Int),k9,k10,k11,k12,k13,k14,k15,k16,x17],H):=by
 intro m
 induction m with
 | zero =>
  intro i j5 j9 j10 j11 j12 j13 j14 j15 j16 hi
  obtain rfl : i = zs.length:=by omega
  have hd : decide ((zs.length : Int) < (zs.length : Int)) = false:=by simp
  rw [zBi,List.take_length]
  unfold l97x0
  simp -implicitDefEqProofs (maxSteps:=5000000) only [go_sem,simprocAttr,go_sem,hd,zAg]
  exact ⟨_,_,_,_,_,_,_,_,_,rfl⟩
 | succ m ih =>
  intro i j5 j9 j10 j11 j12 j13 j14 j15 j16 hi
  have hlt : i < zs.length:=by omega
  have hd : decide ((i : Int) < (zs.length : Int)) = true:=by simp; omega
  have h2 : IntKind.i64.wrap ((i : Int) + 1) = ((i + 1 : Nat) : Int):=by rw [zAk (by omega) (by omega)]; omega
  obtain ⟨ad,ha,hl⟩:=b.idx (List.getElem?_eq_getElem hlt) .i64
  have on:=fun H=>onesC (zs[i]'hlt) (hu _ (List.getElem_mem hlt)) H
  have st:=zLa (List.getElem?_eq_getElem hlt)
  have h3 : IntKind.i64.wrap (sumO (zs.take i) + ones (zs[i]'hlt)) = sumO (zs.take (i + 1)):=by
   rw [← st]
   have:=zRl (zs.take (i + 1))
   rw [List.length_take] at this
   exact zAk (by omega) (by omega)
  obtain ⟨k5,k9,k10,k11,k12,k13,k14,k15,k16,e⟩:=ih (i + 1) (.int .u8 (zs[i]'hlt)) (.bool true) ad (.int .u8 (zs[i]'hlt)) (.int .i64 (sumO (zs.take i))) (.int .u8 (zs[i]'hlt)) (.int .i64 (ones (zs[i]'hlt))) (.int .i64 (sumO (zs.take (i + 1)))) (.int .i64 ((i + 1 : Nat) : Int)) (by omega)
  refine ⟨k5,k9,k10,k11,k12,k13,k14,k15,k16,?_⟩
  rw [← e,zBi]
  conv=>lhs; arg 1; unfold l97x0
  simp -implicitDefEqProofs (maxSteps:=5000000) only [go_sem,simprocAttr,go_sem,hd,h2,h3,ha,hl,on]
theorem countC {H : zAc} {v : AV} {zs : List Int} (b : BS H v zs) (hu : IsU8 zs) (hn : zs.length ≤ 100000) : (envL prog).call 97 [v] H = some (.int .i64 (sumO zs),H):=by
 obtain ⟨k5,k9,k10,k11,k12,k13,k14,k15,k16,e⟩:=zT0 b hu hn v .undef (.int .i64 0) .undef .undef zs.length 0 .undef .undef .undef .undef .undef .undef .undef .undef .undef (by omega)
 have hl:=b.len
 rw [List.take_zero,show sumO [] = 0 from rfl,show ((0 : Nat) : Int) = 0 from rfl] at e
 rw [c97]
 unfold b97
 simp -implicitDefEqProofs (maxSteps:=5000000) only [go_sem,simprocAttr,go_sem,zAi,hl,e]
def Grown (B : Nat) (l : AV) (R : zAc) (zs : List Int) : Prop :=
 (zs = [] ∧ l = .nilSl ∧ R = []) ∨ (zs ≠ [] ∧ ∃ J,R = J ++ [.rw (i64s zs)] ∧ l = .sl (B + J.length) 0 1 zs.length zs.length false)
theorem Grown.is {P : zAc} {l : AV} {R : zAc} {zs : List Int} (g : Grown P.length l R zs) : IS (P ++ R) l zs:=by
 rcases g with ⟨rfl,rfl,rfl⟩ | ⟨_,J,rfl,rfl⟩
 ·exact IS.nil _
 ·exact IS.block (by
   rw [List.getElem?_append_right (by omega),show P.length + J.length - P.length = J.length by omega,List.getElem?_append_right (by omega),Nat.sub_self]; rfl)
theorem zQe {B : Nat} {l : AV} {R : zAc} {zs : List Int} (g : Grown B l R zs) (hn : zs.length < 1000000) (x : Int) :
  ∃ l' R',Grown B l' R' (zs ++ [x]) ∧ l'.under (B + R.length) = false ∧ l'.isCell = true ∧ zA0 l' = some [l'] ∧ ∀ P : zAc,P.length = B → app (ty 1 false 8 [.int .i64 0]) l (.sl (B + R.length) 0 1 1 1 true) (P ++ (R ++ [.rw [.int .i64 x]])) = some (l',P ++ R'):=by
 have hs : ∀ P : zAc,P.length = B → zA4 1 1 (.sl (B + R.length) 0 1 1 1 true) (P ++ (R ++ [.rw [.int .i64 x]])) = some [.int .i64 x]:=by
  intro P hP
  unfold zA4 zB0 cellsOf
  have : (P ++ (R ++ [ABlk.rw [AV.int .i64 x]]))[B + R.length]? = some (.rw [.int .i64 x]):=by
   rw [List.getElem?_append_right (by omega),show B + R.length - P.length = R.length by omega,List.getElem?_append_right (by omega),Nat.sub_self]; rfl
  simp only [if_true,this]; rfl
 rcases g with ⟨rfl,rfl,rfl⟩ | ⟨hz,J,rfl,rfl⟩
 ·refine ⟨.sl (B + 1) 0 1 1 1 false,[.rw [.int .i64 x],.rw (i64s [x])],.inr ⟨by simp,[.rw [.int .i64 x]],rfl,rfl⟩,?_,rfl,rfl,?_⟩
  ·simp [AV.under]
  ·intro P hP
   have e:=zUv (d:=ty 1 false 8 [.int .i64 0]) rfl rfl (H:=P ++ ([] ++ [.rw [.int .i64 x]])) (x:=.int .i64 x) (y:=.sl (B + ([] : zAc).length) 0 1 1 1 true) rfl (hs P hP)
   rw [e]; simp [i64s,hP]
 ·refine ⟨.sl (B + (J ++ [ABlk.dead,ABlk.rw [AV.int .i64 x]]).length) 0 1 (zs ++ [x]).length (zs ++ [x]).length false,J ++ [ABlk.dead,ABlk.rw [AV.int .i64 x]] ++ [ABlk.rw (i64s (zs ++ [x]))],.inr ⟨by simp,J ++ [ABlk.dead,ABlk.rw [AV.int .i64 x]],rfl,rfl⟩,?_,rfl,rfl,?_⟩
  ·simp [AV.under]
  ·intro P hP
   have hb : (P ++ (J ++ [.rw (i64s zs)] ++ [.rw [.int .i64 x]]))[B + J.length]? = some (.rw (i64s zs)):=by
    rw [List.getElem?_append_right (by omega),show B + J.length - P.length = J.length by omega,List.append_assoc,List.getElem?_append_right (by omega),Nat.sub_self]; rfl
   have e:=app_grow (d:=ty 1 false 8 [.int .i64 0]) rfl rfl (H:=P ++ (J ++ [.rw (i64s zs)] ++ [.rw [.int .i64 x]])) (b:=B + J.length) (zs:=zs) (x:=.int .i64 x) (y:=.sl (B + (J ++ [ABlk.rw (i64s zs)]).length) 0 1 1 1 true) hb rfl (hs P hP) rfl hn
   have hset : (P ++ (J ++ [ABlk.rw (i64s zs)] ++ [ABlk.rw [AV.int .i64 x]])).set (B + J.length) .dead = P ++ (J ++ [ABlk.dead,ABlk.rw [AV.int .i64 x]]):=by
    rw [List.set_append_right _ _ (by omega),show B + J.length - P.length = J.length by omega,List.append_assoc,List.set_append_right _ _ (by omega),Nat.sub_self]; rfl
   rw [e,zTi,hset]
   simp
   omega
theorem zTl {P : zAc} {l : AV} {R : zAc} {zs : List Int} (g : Grown P.length l R zs) (hn : zs.length < 1000000) (x : Int) :
  ∃ l' R',Grown P.length l' R' (zs ++ [x]) ∧ l'.under (P.length + R.length) = false ∧ l'.isCell = true ∧ zA0 l' = some [l'] ∧ app (ty 1 false 8 [.int .i64 0]) l (.sl (P.length + R.length) 0 1 1 1 true) (P ++ (R ++ [.rw [.int .i64 x]])) = some (l',P ++ R'):=by
 obtain ⟨l',R',h1,h2,h3,h4,h5⟩:=zQe g hn x
 exact ⟨l',R',h1,h2,h3,h4,h5 P rfl⟩
def allU (zs : List Int) : Nat → List Int
 | 0=>[]
 | i + 1=>if hasS zs i then allU zs i ++ [(i : Int)] else allU zs i
theorem zK3 (zs : List Int) : ∀ i,(allU zs i).length ≤ i
 | 0=>by simp [allU]
 | i + 1=>by
  have:=zK3 zs i
  simp only [allU]; split <;> simp <;> omega
def allS (zs : List Int) : List Int:=allU zs (8 * zs.length)
set_option maxHeartbeats 4000000 in
theorem allRL {H : zAc} {v : AV} {zs : List Int} (b : BS H v zs) (hn : zs.length ≤ 100000) (x1 x2 x19 : AV) : ∀ (m i : Nat) (l : AV) (R : zAc) (j5 j6 j7 j8 j9 j10 j11 j12 j13 j14 j15 j16 j17 j18 : AV),i + m = 8 * zs.length → Grown H.length l R (allU zs i) →
  ∃ (l' : AV) (R' : zAc) (k5 k6 k7 k8 k9 k10 k11 k12 k13 k14 k15 k16 k17 k18 : AV),Grown H.length l' R' (allS zs) ∧ (envL prog).loop (runC (envL prog) (l84x0 (envL prog))) [v,x1,x2,l,.int .i64 (i : Int),j5,j6,j7,j8,j9,j10,j11,j12,j13,j14,j15,j16,j17,j18,x19] (H ++ R) =
   some (.exit 0,[v,x1,x2,l',.int .i64 ((8 * zs.length : Nat) : Int),k5,k6,k7,k8,k9,k10,k11,k12,k13,k14,k15,k16,k17,k18,x19],H ++ R'):=by
 intro m
 have hl:=b.len
 have e8 : IntKind.i64.wrap (8 * (zs.length : Int)) = ((8 * zs.length : Nat) : Int):=by rw [zAk (by omega) (by omega)]; omega
 induction m with
 | zero =>
  intro i l R j5 j6 j7 j8 j9 j10 j11 j12 j13 j14 j15 j16 j17 j18 hi g
  obtain rfl : i = 8 * zs.length:=by omega
  have hd : decide (((8 * zs.length : Nat) : Int) < ((8 * zs.length : Nat) : Int)) = false:=by simp
  rw [zBi]
  unfold l84x0
  simp -implicitDefEqProofs (maxSteps:=5000000) only [go_sem,simprocAttr,go_sem,hl,e8,hd,zAg]
  exact ⟨l,R,_,_,_,_,_,_,_,_,_,_,_,_,_,_,g,rfl⟩
 | succ m ih =>
  intro i l R j5 j6 j7 j8 j9 j10 j11 j12 j13 j14 j15 j16 j17 j18 hi g
  have hd : decide ((i : Int) < ((8 * zs.length : Nat) : Int)) = true:=by simp; omega
  have h2 : IntKind.i64.wrap ((i : Int) + 1) = ((i + 1 : Nat) : Int):=by rw [zAk (by omega) (by omega)]; omega
  have hh:=hasR (b.mono R) (i : Int) (by omega)
  cases hb : hasS zs i with
  | false =>
   rw [hb] at hh
   have g' : Grown H.length l R (allU zs (i + 1)):=by simp only [allU,hb,Bool.false_eq_true,if_false]; exact g
   obtain ⟨l',R',k5,k6,k7,k8,k9,k10,k11,k12,k13,k14,k15,k16,k17,k18,g2,e⟩:=ih (i + 1) l R (.int .i64 i) v (.int .i64 zs.length) (.int .i64 ((8 * zs.length : Nat) : Int)) (.bool true) (.int .i64 i) (.int .i64 ((i + 1 : Nat) : Int)) v (.int .i64 i) (.bool false) j15 j16 j17 j18 (by omega) g'
   refine ⟨l',R',k5,k6,k7,k8,k9,k10,k11,k12,k13,k14,k15,k16,k17,k18,g2,?_⟩
   rw [← e,zBi]
   conv=>lhs; arg 1; unfold l84x0
   simp -implicitDefEqProofs (maxSteps:=5000000) only [go_sem,simprocAttr,go_sem,hl,e8,hd,h2,hh]
  | true =>
   rw [hb] at hh
   obtain ⟨l1,R1,g1,_,_,_,ea⟩:=zTl g (by have:=zK3 zs i; omega) (i : Int)
   have g' : Grown H.length l1 R1 (allU zs (i + 1)):=by simp only [allU,hb,if_true]; exact g1
   obtain ⟨l',R',k5,k6,k7,k8,k9,k10,k11,k12,k13,k14,k15,k16,k17,k18,g2,e⟩:=ih (i + 1) l1 R1 (.int .i64 i) v (.int .i64 zs.length) (.int .i64 ((8 * zs.length : Nat) : Int)) (.bool true) (.int .i64 i) (.int .i64 ((i + 1 : Nat) : Int)) v (.int .i64 i) (.bool true) l (.int .i64 i) (.sl (H.length + R.length) 0 1 1 1 true) l1 (by omega) g'
   refine ⟨l',R',k5,k6,k7,k8,k9,k10,k11,k12,k13,k14,k15,k16,k17,k18,g2,?_⟩
   rw [← e,zBi]
   conv=>lhs; arg 1; unfold l84x0
   simp -implicitDefEqProofs (maxSteps:=5000000) only [go_sem,simprocAttr,go_sem,hl,e8,hd,h2,hh,ea]
theorem Grown.trim {H : zAc} {l : AV} {R : zAc} {zs : List Int} (g : Grown H.length l R zs) : trim H (some (l,H ++ R)) = some (l,H ++ R):=by
 rcases g with ⟨_,rfl,rfl⟩ | ⟨_,J,rfl,rfl⟩
 ·rw [List.append_nil]; exact zG7 (by simp [AV.under])
 ·exact zA6 (by simp [AV.under])
theorem allR {H : zAc} {v : AV} {zs : List Int} (b : BS H v zs) (hn : zs.length ≤ 100000) : ∃ l R,Grown H.length l R (allS zs) ∧ (envL prog).call 84 [v] H = some (l,H ++ R):=by
 obtain ⟨l,R,k5,k6,k7,k8,k9,k10,k11,k12,k13,k14,k15,k16,k17,k18,g,e⟩:=allRL b hn .undef .nilSl .undef (8 * zs.length) 0 .nilSl [] .undef .undef .undef .undef .undef .undef .undef .undef .undef .undef .undef .undef .undef .undef (by omega) (.inl ⟨rfl,rfl,rfl⟩)
 refine ⟨l,R,g,?_⟩
 have t:=g.trim
 rw [List.append_nil,show ((0 : Nat) : Int) = 0 from rfl] at e
 rw [c84]
 unfold b84
 simp -implicitDefEqProofs (maxSteps:=5000000) only [go_sem,simprocAttr,go_sem,zAi,e,t]
end Go.Proofs.Ythgflkfhjnbheaa.G14.Bt
end
section
namespace Go.Proofs.Ythgflkfhjnbheaa.G14.Bt
open Go Go.Proofs.Ythgflkfhjnbheaa.Eng
def Fresh (h : zAc) (l : AV) (G : zAc) (zs : List Int) : Prop:=IS (h ++ G) l zs ∧ ((l = .nilSl ∧ G = []) ∨ ∃ b o n c x,l = .sl b o 1 n c x ∧ h.length ≤ b)
end Go.Proofs.Ythgflkfhjnbheaa.G14.Bt
end
section
namespace Go.Proofs.Ythgflkfhjnbheaa.G14.Bt
open Go Go.Proofs.Ythgflkfhjnbheaa.Eng
def okF (zs : List Int) (k : Int) : Nat → Nat → Bool
 | 0,_=>true
 | m + 1,i=>(!hasS zs i || decide ((i : Int) < k)) && okF zs k m (i + 1)
theorem okF_iff (zs : List Int) (k : Int) : ∀ m i,okF zs k m i = true ↔ ∀ j,i ≤ j → j < i + m → hasS zs j = true → (j : Int) < k
 | 0,i=>by simp [okF]; intro j h1 h2; omega
 | m + 1,i=>by
  simp only [okF,Bool.and_eq_true,Bool.or_eq_true,decide_eq_true_eq,okF_iff zs k m (i + 1)]
  constructor
  ·rintro ⟨h1,h2⟩ j hj hj2 hh
   by_cases e : j = i
   ·subst e
    rcases h1 with h1 | h1
    ·rw [hh] at h1; cases h1
    ·exact h1
   ·exact h2 j (by omega) (by omega) hh
  ·intro h
   refine ⟨?_,fun j h1 h2 h3=>h j (by omega) (by omega) h3⟩
   cases hh : hasS zs i with
   | false=>exact .inl rfl
   | true=>exact .inr (h i (by omega) (by omega) hh)
def okR (zs : List Int) : Nat → Nat → Bool
 | 0,_=>true
 | m + 1,i=>!hasS zs i && okR zs m (i + 1)
theorem zSw (zs : List Int) : ∀ m i,okR zs m i = true ↔ ∀ j,i ≤ j → j < i + m → hasS zs j = false
 | 0,i=>by simp [okR]; intro j h1 h2; omega
 | m + 1,i=>by
  simp only [okR,Bool.and_eq_true,Bool.not_eq_true',zSw zs m (i + 1)]
  constructor
  ·rintro ⟨h1,h2⟩ j hj hj2
   by_cases e : j = i
   ·subst e; exact h1
   ·exact h2 j (by omega) (by omega)
  ·intro h
   exact ⟨h i (by omega) (by omega),fun j h1 h2=>h j (by omega) (by omega)⟩
set_option maxHeartbeats 4000000 in
theorem eachG {K K' : zAc} {p b : Nat} {v : AV} {zs : List Int} {k : Int} (bs : BS K v zs) (hp : cellsOf K p = some [v]) (hn : zs.length ≤ 100000)
  (hT : ∀ i : Nat,(i : Int) < k → (envL prog).yield b [.int .i64 i] K = some (.bool true,K)) (hF : ∀ i : Nat,¬ (i : Int) < k → (envL prog).yield b [.int .i64 i] K = some (.bool false,K'))
  (y2 y4 y5 : AV) : ∀ (m i : Nat) (j3 j8 j9 j10 j11 j12 j13 j14 j15 j16 j17 j18 j19 : AV),i + m = 8 * zs.length →
  ∃ (k3 k7 k8 k9 k10 k11 k12 k13 k14 k15 k16 k17 k18 k19 : AV),(envL prog).loop (runC (envL prog) (l102x0 (envL prog)))
   [.yld b,.ptr p 0,y2,j3,y4,y5,.int .i64 ((8 * zs.length : Nat) : Int),.int .i64 (i : Int),j8,j9,j10,j11,j12,j13,j14,j15,j16,j17,j18,j19] K =
   some (if okF zs k m i = true then .exit 0 else .ret,[.yld b,.ptr p 0,y2,k3,y4,y5,.int .i64 ((8 * zs.length : Nat) : Int),k7,k8,k9,k10,k11,k12,k13,k14,k15,k16,k17,k18,k19],if okF zs k m i = true then K else K'):=by
 intro m
 induction m with
 | zero =>
  intro i j3 j8 j9 j10 j11 j12 j13 j14 j15 j16 j17 j18 j19 hi
  obtain rfl : i = 8 * zs.length:=by omega
  have hd : decide (((8 * zs.length : Nat) : Int) < ((8 * zs.length : Nat) : Int)) = false:=by simp
  rw [zBi]
  unfold l102x0
  simp -implicitDefEqProofs (maxSteps:=5000000) only [go_sem,simprocAttr,go_sem,hd,zAg,okF]
  exact ⟨_,_,_,_,_,_,_,_,_,_,_,_,_,_,rfl⟩
 | succ m ih =>
  intro i j3 j8 j9 j10 j11 j12 j13 j14 j15 j16 j17 j18 j19 hi
  have hd : decide ((i : Int) < ((8 * zs.length : Nat) : Int)) = true:=by simp; omega
  have h2 : IntKind.i64.wrap ((i : Int) + 1) = ((i + 1 : Nat) : Int):=by rw [zAk (by omega) (by omega)]; omega
  have hh:=hasC bs (i : Int) (by omega)
  cases hb : hasS zs i with
  | false =>
   rw [hb] at hh
   obtain ⟨k3,k7,k8,k9,k10,k11,k12,k13,k14,k15,k16,k17,k18,k19,e⟩:=ih (i + 1) (.int .i64 i) (.bool true) (.int .i64 i) v (.int .i64 i) (.bool false) (.bool false) .undef .undef .undef .undef (.bool false) (.int .i64 ((i + 1 : Nat) : Int)) (by omega)
   refine ⟨k3,k7,k8,k9,k10,k11,k12,k13,k14,k15,k16,k17,k18,k19,?_⟩
   have ok : okF zs k (m + 1) i = okF zs k m (i + 1):=by simp [okF,hb]
   rw [ok,← e,zBi]
   conv=>lhs; arg 1; unfold l102x0
   simp -implicitDefEqProofs (maxSteps:=5000000) only [go_sem,simprocAttr,go_sem,hd,h2,hp,hh]
  | true =>
   rw [hb] at hh
   by_cases hk : (i : Int) < k
   ·have hy:=hT i hk
    obtain ⟨k3,k7,k8,k9,k10,k11,k12,k13,k14,k15,k16,k17,k18,k19,e⟩:=ih (i + 1) (.int .i64 i) (.bool true) (.int .i64 i) v (.int .i64 i) (.bool true) (.bool true) (.yld b) (.int .i64 i) (.bool true) (.bool false) (.bool false) (.int .i64 ((i + 1 : Nat) : Int)) (by omega)
    refine ⟨k3,k7,k8,k9,k10,k11,k12,k13,k14,k15,k16,k17,k18,k19,?_⟩
    have ok : okF zs k (m + 1) i = okF zs k m (i + 1):=by simp [okF,hb,hk]
    rw [ok,← e,zBi]
    conv=>lhs; arg 1; unfold l102x0
    simp -implicitDefEqProofs (maxSteps:=5000000) only [go_sem,simprocAttr,go_sem,hd,h2,hp,hh,hy,zEb]
   ·have hy:=hF i hk
    have ok : okF zs k (m + 1) i = false:=by simp [okF,hb,hk]
    rw [ok,zBi]
    conv=>congr; ext; congr; ext; congr; ext; congr; ext; congr; ext; congr; ext; congr; ext; congr; ext; congr; ext; congr; ext; congr; ext; congr; ext; congr; ext; congr; ext; lhs; arg 1; unfold l102x0
    simp -implicitDefEqProofs (maxSteps:=5000000) only [go_sem,simprocAttr,go_sem,hd,h2,hp,hh,hy,zEb,Bool.false_eq_true]
    exact ⟨_,_,_,_,_,_,_,_,_,_,_,_,_,_,rfl⟩
theorem each1G {K K' : zAc} {p b : Nat} {v : AV} {zs : List Int} {k : Int} (bs : BS K v zs) (hp : cellsOf K p = some [v]) (hn : zs.length ≤ 100000) (hlen : K'.length = K.length)
  (hT : ∀ i : Nat,(i : Int) < k → (envL prog).yield b [.int .i64 i] K = some (.bool true,K)) (hF : ∀ i : Nat,¬ (i : Int) < k → (envL prog).yield b [.int .i64 i] K = some (.bool false,K')) :
  (envL prog).call 102 [.yld b,.ptr p 0] K = some (.tup [],if okF zs k (8 * zs.length) 0 = true then K else K'):=by
 obtain ⟨k3,k7,k8,k9,k10,k11,k12,k13,k14,k15,k16,k17,k18,k19,e⟩:=eachG bs hp hn hT hF .undef v (.int .i64 zs.length) (8 * zs.length) 0 .undef .undef .undef .undef .undef .undef .undef .undef .undef .undef .undef .undef .undef (by omega)
 have e8 : IntKind.i64.wrap (8 * (zs.length : Int)) = ((8 * zs.length : Nat) : Int):=by rw [zAk (by omega) (by omega)]; omega
 have hl:=bs.len
 rw [show ((0 : Nat) : Int) = 0 from rfl] at e
 rw [c102]
 unfold b102
 have t : ∀ u : AV,trim K (some (u,K')) = some (u,K'):=fun u=>zBo hlen
 cases hok : okF zs k (8 * zs.length) 0 with
 | true =>
  rw [hok] at e
  simp only [if_true] at e
  simp -implicitDefEqProofs (maxSteps:=5000000) only [go_sem,simprocAttr,go_sem,zAi,hp,hl,e8,e]
 | false =>
  rw [hok] at e
  simp only [Bool.false_eq_true,if_false] at e
  simp -implicitDefEqProofs (maxSteps:=5000000) only [go_sem,simprocAttr,go_sem,zAi,hp,hl,e8,e,t,Bool.false_eq_true]
def goodS (zs : List Int) (k : Int) : Bool:=decide (zs.length = newN k) && okF zs k (8 * zs.length) 0
theorem yieldT1 (H : zAc) (v : AV) (zs : List Int) (k : Int) (i : Nat) (hi : (i : Int) < k) : (envL prog).yield (H.length + 3) [.int .i64 i] (H ++ [.rw [.int .i64 k],.rw [.bool false],.rw [v],.loop ⟨.ready,.normal,[v,.int .i64 k,.undef,.ptr H.length 0,.ptr (H.length + 1) 0,.undef,v,.int .i64 (zs.length : Int),.int .i64 k,.nilSl,.int .i64 (newN k : Int),.bool false,v,.fn 102 [.ptr (H.length + 2) 0],.undef,.undef,.undef,.undef],[14],zD5,zD4⟩]) = some (.bool true,(H ++ [.rw [.int .i64 k],.rw [.bool false],.rw [v],.loop ⟨.ready,.normal,[v,.int .i64 k,.undef,.ptr H.length 0,.ptr (H.length + 1) 0,.undef,v,.int .i64 (zs.length : Int),.int .i64 k,.nilSl,.int .i64 (newN k : Int),.bool false,v,.fn 102 [.ptr (H.length + 2) 0],.undef,.undef,.undef,.undef],[14],zD5,zD4⟩])):=by
 have hd : decide ((i : Int) ≥ k) = false:=by simp; omega
 simp -implicitDefEqProofs (maxSteps:=5000000) only [go_sem,simprocAttr,zBi,itr,itq,go_sem,hd,zKp,zKo,zMw,zMu]
theorem yieldF1 (H : zAc) (v : AV) (zs : List Int) (k : Int) (i : Nat) (hi : ¬ (i : Int) < k) : (envL prog).yield (H.length + 3) [.int .i64 i] (H ++ [.rw [.int .i64 k],.rw [.bool false],.rw [v],.loop ⟨.ready,.normal,[v,.int .i64 k,.undef,.ptr H.length 0,.ptr (H.length + 1) 0,.undef,v,.int .i64 (zs.length : Int),.int .i64 k,.nilSl,.int .i64 (newN k : Int),.bool false,v,.fn 102 [.ptr (H.length + 2) 0],.undef,.undef,.undef,.undef],[14],zD5,zD4⟩]) = some (.bool false,(H ++ [.rw [.int .i64 k],.rw [.bool false],.rw [v],.loop ⟨.done,.ret,[v,.int .i64 k,.undef,.ptr H.length 0,.ptr (H.length + 1) 0,.undef,v,.int .i64 (zs.length : Int),.int .i64 k,.nilSl,.int .i64 (newN k : Int),.bool false,v,.fn 102 [.ptr (H.length + 2) 0],.undef,.undef,.undef,.undef],[14],zD5,zD4⟩])):=by
 have hd : decide ((i : Int) ≥ k) = true:=by simp; omega
 simp -implicitDefEqProofs (maxSteps:=5000000) only [go_sem,simprocAttr,zBi,itr,itq,go_sem,hd,zKp,zKo,zMw,zMu]
theorem yieldT2 (H : zAc) (v : AV) (zs : List Int) (k : Int) (i : Nat) (hi : (i : Int) < k) : (envL prog).yield (H.length + 4) [.int .i64 i] (H ++ [.rw [.int .i64 k],.rw [.bool false],.rw (u8s (List.replicate (newN k) 0)),.rw [v],.loop ⟨.ready,.normal,[v,.int .i64 k,.undef,.ptr H.length 0,.ptr (H.length + 1) 0,.undef,v,.int .i64 (zs.length : Int),.int .i64 k,.sl (H.length + 2) 0 1 (newN k) (newN k) true,.int .i64 (newN k : Int),.bool false,v,.fn 102 [.ptr (H.length + 3) 0],.undef,.undef,.undef,.undef],[14],zD5,zD4⟩]) = some (.bool true,(H ++ [.rw [.int .i64 k],.rw [.bool false],.rw (u8s (List.replicate (newN k) 0)),.rw [v],.loop ⟨.ready,.normal,[v,.int .i64 k,.undef,.ptr H.length 0,.ptr (H.length + 1) 0,.undef,v,.int .i64 (zs.length : Int),.int .i64 k,.sl (H.length + 2) 0 1 (newN k) (newN k) true,.int .i64 (newN k : Int),.bool false,v,.fn 102 [.ptr (H.length + 3) 0],.undef,.undef,.undef,.undef],[14],zD5,zD4⟩])):=by
 have hd : decide ((i : Int) ≥ k) = false:=by simp; omega
 simp -implicitDefEqProofs (maxSteps:=5000000) only [go_sem,simprocAttr,zBi,itr,itq,go_sem,hd,zKp,zKo,zMw,zMu]
theorem yieldF2 (H : zAc) (v : AV) (zs : List Int) (k : Int) (i : Nat) (hi : ¬ (i : Int) < k) : (envL prog).yield (H.length + 4) [.int .i64 i] (H ++ [.rw [.int .i64 k],.rw [.bool false],.rw (u8s (List.replicate (newN k) 0)),.rw [v],.loop ⟨.ready,.normal,[v,.int .i64 k,.undef,.ptr H.length 0,.ptr (H.length + 1) 0,.undef,v,.int .i64 (zs.length : Int),.int .i64 k,.sl (H.length + 2) 0 1 (newN k) (newN k) true,.int .i64 (newN k : Int),.bool false,v,.fn 102 [.ptr (H.length + 3) 0],.undef,.undef,.undef,.undef],[14],zD5,zD4⟩]) = some (.bool false,(H ++ [.rw [.int .i64 k],.rw [.bool false],.rw (u8s (List.replicate (newN k) 0)),.rw [v],.loop ⟨.done,.ret,[v,.int .i64 k,.undef,.ptr H.length 0,.ptr (H.length + 1) 0,.undef,v,.int .i64 (zs.length : Int),.int .i64 k,.sl (H.length + 2) 0 1 (newN k) (newN k) true,.int .i64 (newN k : Int),.bool false,v,.fn 102 [.ptr (H.length + 3) 0],.undef,.undef,.undef,.undef],[14],zD5,zD4⟩])):=by
 have hd : decide ((i : Int) ≥ k) = true:=by simp; omega
 simp -implicitDefEqProofs (maxSteps:=5000000) only [go_sem,simprocAttr,zBi,itr,itq,go_sem,hd,zKp,zKo,zMw,zMu]
set_option maxHeartbeats 4000000 in
theorem goodC {H : zAc} {v : AV} {zs : List Int} (b : BS H v zs) (hn : zs.length ≤ 100000) (k : Int) : (envL prog).call 94 [v,.int .i64 k] H = some (.bool (goodS zs k),H):=by
 obtain ⟨w,G,o,e⟩:=newC k (H ++ [.rw [.int .i64 k],.rw [.bool false]])
 have hl:=b.len
 have hw:=o.bs.len
 rw [List.length_replicate] at hw
 have hc : zA0 v = some [v]:=by rcases b.is with rfl | ⟨_,_,_,_,_,_,rfl⟩ <;> rfl
 have e1 : ∀ H : zAc,(envL prog).call 100 [v] H = some (.fn 102 [.ptr H.length 0],H ++ [.rw [v]]):=by
  intro H
  rw [c100]
  unfold b100
  simp -implicitDefEqProofs (maxSteps:=5000000) only [go_sem,simprocAttr,zBi,itr,itq,go_sem,hc]
 rw [List.append_assoc] at e
 simp only [List.cons_append,List.nil_append] at e
 by_cases hq : zs.length = newN k
 ·have dq : ((zs.length : Int) != (newN k : Int)) = false:=by simp [hq]
  rw [c94]
  unfold b94
  unfold goodS
  rcases o with ⟨rfl,rfl,h0⟩ | ⟨rfl,rfl⟩
  ·have e2:=each1G (p:=H.length + 2) (bs:=b.mono _) (by unfold cellsOf; simp) hn (by simp) (yieldT1 H v zs k) (yieldF1 H v zs k)
   have g1 : decide (zs.length = newN k) = true:=by simp [hq]
   rw [g1,Bool.true_and]
   cases hok : okF zs k (8 * zs.length) 0 with
   | true =>
    rw [hok] at e2
    simp only [if_true] at e2
    simp -implicitDefEqProofs (maxSteps:=5000000) only [go_sem,simprocAttr,zBi,itr,itq,go_sem,e,hl,hw,dq,e1,e2]
   | false =>
    rw [hok] at e2
    simp only [Bool.false_eq_true,if_false] at e2
    simp -implicitDefEqProofs (maxSteps:=5000000) only [go_sem,simprocAttr,zBi,itr,itq,go_sem,e,hl,hw,dq,e1,e2]
  ·have e2:=each1G (p:=H.length + 3) (bs:=b.mono _) (by unfold cellsOf; simp) hn (by simp) (yieldT2 H v zs k) (yieldF2 H v zs k)
   have g1 : decide (zs.length = newN k) = true:=by simp [hq]
   rw [g1,Bool.true_and]
   cases hok : okF zs k (8 * zs.length) 0 with
   | true =>
    rw [hok] at e2
    simp only [if_true] at e2
    simp -implicitDefEqProofs (maxSteps:=5000000) only [go_sem,simprocAttr,zBi,itr,itq,go_sem,e,hl,hw,dq,e1,e2]
   | false =>
    rw [hok] at e2
    simp only [Bool.false_eq_true,if_false] at e2
    simp -implicitDefEqProofs (maxSteps:=5000000) only [go_sem,simprocAttr,zBi,itr,itq,go_sem,e,hl,hw,dq,e1,e2]
 ·have dq : ((zs.length : Int) != (newN k : Int)) = true:=by simp; omega
  have hg : goodS zs k = false:=by simp [goodS,hq]
  rw [hg]
  rw [c94]
  unfold b94
  simp -implicitDefEqProofs (maxSteps:=5000000) only [go_sem,simprocAttr,zBi,itr,itq,go_sem,e,hl,hw,dq]
end Go.Proofs.Ythgflkfhjnbheaa.G14.Bt
end
section
namespace Go.Proofs.Ythgflkfhjnbheaa.G14.Bt
open Go Go.Proofs.Ythgflkfhjnbheaa.Eng
set_option maxHeartbeats 4000000 in
theorem goodL {H : zAc} {v : AV} {zs : List Int} (b : BS H v zs) (hn : zs.length ≤ 100000) (x1 x2 x3 x4 x6 x7 x8 x9 x10 x11 x12 x13 : AV) : ∀ (m i : Nat) (j14 j15 j16 j17 j18 j19 j20 j21 j22 j23 : AV),i + m = 8 * zs.length →
  ∃ (k4 k5 k14 k15 k16 k17 k18 k19 k20 k21 k22 k23 : AV),(envL prog).loop (runC (envL prog) (l81x0 (envL prog))) [v,x1,x2,x3,.bool false,.int .i64 (i : Int),x6,x7,x8,x9,x10,x11,x12,x13,j14,j15,j16,j17,j18,j19,j20,j21,j22,j23] H =
   some (if okR zs m i = true then .exit 0 else .ret,[v,x1,x2,x3,.bool false,k5,x6,x7,x8,x9,x10,x11,x12,x13,k14,k15,k16,k17,k18,k19,k20,k21,k22,k23],H):=by
 intro m
 have hl:=b.len
 have e8 : IntKind.i64.wrap (8 * (zs.length : Int)) = ((8 * zs.length : Nat) : Int):=by rw [zAk (by omega) (by omega)]; omega
 induction m with
 | zero =>
  intro i j14 j15 j16 j17 j18 j19 j20 j21 j22 j23 hi
  obtain rfl : i = 8 * zs.length:=by omega
  have hd : decide (((8 * zs.length : Nat) : Int) < ((8 * zs.length : Nat) : Int)) = false:=by simp
  rw [zBi]
  unfold l81x0
  simp -implicitDefEqProofs (maxSteps:=5000000) only [go_sem,simprocAttr,go_sem,hl,e8,hd,zAg,okR]
  exact ⟨.undef,_,_,_,_,_,_,_,_,_,_,_,rfl⟩
 | succ m ih =>
  intro i j14 j15 j16 j17 j18 j19 j20 j21 j22 j23 hi
  have hd : decide ((i : Int) < ((8 * zs.length : Nat) : Int)) = true:=by simp; omega
  have h2 : IntKind.i64.wrap ((i : Int) + 1) = ((i + 1 : Nat) : Int):=by rw [zAk (by omega) (by omega)]; omega
  have hh:=hasR b (i : Int) (by omega)
  cases hb : hasS zs i with
  | false =>
   rw [hb] at hh
   obtain ⟨k4,k5,k14,k15,k16,k17,k18,k19,k20,k21,k22,k23,e⟩:=ih (i + 1) (.int .i64 i) v (.int .i64 zs.length) (.int .i64 ((8 * zs.length : Nat) : Int)) (.bool true) (.int .i64 i) (.int .i64 ((i + 1 : Nat) : Int)) v (.int .i64 i) (.bool false) (by omega)
   refine ⟨k4,k5,k14,k15,k16,k17,k18,k19,k20,k21,k22,k23,?_⟩
   have ok : okR zs (m + 1) i = okR zs m (i + 1):=by simp [okR,hb]
   rw [ok,← e,zBi]
   conv=>lhs; arg 1; unfold l81x0
   simp -implicitDefEqProofs (maxSteps:=5000000) only [go_sem,simprocAttr,go_sem,hl,e8,hd,h2,hh]
  | true =>
   rw [hb] at hh
   have ok : okR zs (m + 1) i = false:=by simp [okR,hb]
   rw [ok,zBi]
   unfold l81x0
   simp -implicitDefEqProofs (maxSteps:=5000000) only [go_sem,simprocAttr,go_sem,hl,e8,hd,h2,hh,Bool.false_eq_true]
   exact ⟨.undef,_,_,_,_,_,_,_,_,_,_,_,rfl⟩
theorem ok_eq (zs : List Int) (k : Int) (h : k.toNat ≤ 8 * zs.length) : okR zs (8 * zs.length - k.toNat) k.toNat = okF zs k (8 * zs.length) 0:=by
 rw [Bool.eq_iff_iff,zSw,okF_iff]
 constructor
 ·intro h1 j _ h2 h3
  by_cases hj : k.toNat ≤ j
  ·rw [h1 j hj (by omega)] at h3; cases h3
  ·omega
 ·intro h1 j h2 h3
  cases hh : hasS zs j with
  | false=>rfl
  | true=>have:=h1 j (by omega) (by omega) hh; omega
theorem ok_high (zs : List Int) (k : Int) (h : 8 * zs.length < k.toNat) : okF zs k (8 * zs.length) 0 = true:=by
 rw [okF_iff]
 intro j _ h2 _; omega
set_option maxHeartbeats 4000000 in
theorem goodR {H : zAc} {v : AV} {zs : List Int} (b : BS H v zs) (hn : zs.length ≤ 100000) (k : Int) : (envL prog).call 81 [v,.int .i64 k] H = some (.bool (goodS zs k),H):=by
 obtain ⟨w,G,o,e⟩:=newR k H
 have hl:=b.len
 have hw:=o.bs.len
 rw [List.length_replicate] at hw
 by_cases hq : zs.length = newN k
 ·have dq : ((zs.length : Int) != (newN k : Int)) = false:=by simp [hq]
  have hm : (if k > 0 then k else 0) = (k.toNat : Int):=by split <;> omega
  have e8 : IntKind.i64.wrap (8 * (zs.length : Int)) = ((8 * zs.length : Nat) : Int):=by rw [zAk (by omega) (by omega)]; omega
  have g1 : goodS zs k = okF zs k (8 * zs.length) 0:=by simp [goodS,hq]
  rw [g1,c81]
  unfold b81
  by_cases hk : k.toNat ≤ 8 * zs.length
  ·obtain ⟨k4,k5,k14,k15,k16,k17,k18,k19,k20,k21,k22,k23,e2⟩:=goodL (b.mono G) hn (.int .i64 k) .undef .undef .undef v (.int .i64 zs.length) (.int .i64 k) w (.int .i64 (newN k)) (.bool false) (.int .i64 k) (.int .i64 k.toNat) (8 * zs.length - k.toNat) k.toNat .undef .undef .undef .undef .undef .undef .undef .undef .undef .undef (by omega)
   rw [ok_eq zs k hk] at e2
   cases hok : okF zs k (8 * zs.length) 0 with
   | true =>
    rw [hok] at e2
    simp only [if_true] at e2
    simp -implicitDefEqProofs (maxSteps:=5000000) only [go_sem,simprocAttr,go_sem,zAi,e,hl,hw,dq,hm,e2]
   | false =>
    rw [hok] at e2
    simp only [Bool.false_eq_true,if_false] at e2
    simp -implicitDefEqProofs (maxSteps:=5000000) only [go_sem,simprocAttr,go_sem,zAi,e,hl,hw,dq,hm,e2]
  ·rw [ok_high zs k (by omega)]
   have hd : decide ((k.toNat : Int) < ((8 * zs.length : Nat) : Int)) = false:=by simp; omega
   unfold l81x0
   simp -implicitDefEqProofs (maxSteps:=5000000) only [go_sem,simprocAttr,go_sem,zAi,zBi,e,hl,hw,dq,hm,e8,hd,zAg]
 ·have dq : ((zs.length : Int) != (newN k : Int)) = true:=by simp; omega
  have hg : goodS zs k = false:=by simp [goodS,hq]
  rw [hg]
  rw [c81]
  unfold b81
  simp -implicitDefEqProofs (maxSteps:=5000000) only [go_sem,simprocAttr,go_sem,e,hl,hw,dq]
theorem newN_le (k : Int) : newN k ≤ 512:=by unfold newN; split <;> omega
theorem goodR' {H : zAc} {v : AV} {zs : List Int} (b : BS H v zs) (k : Int) : (envL prog).call 81 [v,.int .i64 k] H = some (.bool (goodS zs k),H):=by
 by_cases hq : zs.length = newN k
 ·exact goodR b (by have:=newN_le k; omega) k
 ·obtain ⟨w,G,o,e⟩:=newR k H
  have hl:=b.len
  have hw:=o.bs.len
  rw [List.length_replicate] at hw
  have dq : ((zs.length : Int) != (newN k : Int)) = true:=by simp; omega
  have hg : goodS zs k = false:=by simp [goodS,hq]
  rw [hg]
  rw [c81]
  unfold b81
  simp -implicitDefEqProofs (maxSteps:=5000000) only [go_sem,simprocAttr,go_sem,e,hl,hw,dq]
end Go.Proofs.Ythgflkfhjnbheaa.G14.Bt
end
section
namespace Go.Proofs.Ythgflkfhjnbheaa.G14.Bt
open Go Go.Proofs.Ythgflkfhjnbheaa.Eng
def cnt (z : Int) : Nat → Nat
 | 0=>0
 | r + 1=>cnt z r + if bitB z r then 1 else 0
theorem cnt_ones : ∀ z : Fin 256,((cnt (z : Int) 8 : Nat) : Int) = ones (z : Int):=by decide +kernel
theorem hasS_at {zs : List Int} {q r : Nat} (hr : r < 8) (hq : q < zs.length) : hasS zs ((8 * q + r : Nat) : Int) = bitB (zs[q]'hq) (r : Int):=by
 unfold hasS
 have e1 : (((8 * q + r : Nat) : Int)).tdiv 8 = (q : Int):=by rw [Int.tdiv_eq_ediv_of_nonneg (by omega)]; omega
 have e2 : (((8 * q + r : Nat) : Int)).tmod 8 = (r : Int):=by rw [Int.tmod_eq_emod_of_nonneg (by omega)]; omega
 rw [e1,e2,Int.toNat_natCast,List.getElem?_eq_getElem hq,Option.getD_some]
 have d1 : decide ((((8 * q + r : Nat) : Int)) ≥ 0) = true:=by simp; omega
 have d2 : decide ((q : Int) < (zs.length : Int)) = true:=by simp; exact hq
 rw [d1,d2]; rfl
theorem zUx (zs : List Int) (q : Nat) (hq : q < zs.length) : ∀ r,r ≤ 8 → (allU zs (8 * q + r)).length = (allU zs (8 * q)).length + cnt (zs[q]'hq) r
 | 0,_=>by simp [cnt]
 | r + 1,h=>by
  have ih:=zUx zs q hq r (by omega)
  rw [← Nat.add_assoc]
  simp only [allU,cnt,hasS_at (show r < 8 by omega) hq]
  split <;> simp [ih]; omega
theorem zPm {zs : List Int} (hu : IsU8 zs) : ∀ q,q ≤ zs.length → ((allU zs (8 * q)).length : Int) = sumO (zs.take q)
 | 0,_=>by simp [allU,sumO]
 | q + 1,h=>by
  have hq : q < zs.length:=by omega
  have ih:=zPm hu q (by omega)
  rw [show 8 * (q + 1) = 8 * q + 8 by omega,zUx zs q hq 8 (Nat.le_refl _),zLa (List.getElem?_eq_getElem hq)]
  have hz:=hu _ (List.getElem_mem hq)
  have:=cnt_ones ⟨(zs[q]'hq).toNat,by omega⟩
  simp only [Int.toNat_of_nonneg hz.1] at this
  omega
theorem count_all {zs : List Int} (hu : IsU8 zs) : sumO zs = ((allS zs).length : Int):=by
 have:=zPm hu zs.length (Nat.le_refl _)
 rw [List.take_length] at this
 exact this.symm
end Go.Proofs.Ythgflkfhjnbheaa.G14.Bt
end
section
namespace Go.Proofs.Ythgflkfhjnbheaa.G14.Bt
open Go Go.Proofs.Ythgflkfhjnbheaa.Eng
theorem allRA {H : zAc} {v : AV} {zs : List Int} (b : BS H v zs) (hn : zs.length ≤ 100000) : ∃ l H',Adds H H' ∧ IS H' l (allS zs) ∧ (envL prog).call 84 [v] H = some (l,H'):=by
 obtain ⟨l,G,f,e⟩:=allR b hn
 exact ⟨l,_,⟨G,rfl⟩,f.is,e⟩
theorem newA (k : Int) (H : zAc) : ∃ v H',Adds H H' ∧ BS H' v (List.replicate (newN k) 0) ∧ (envL prog).call 26 [.int .i64 k] H = some (v,H'):=by
 obtain ⟨v,G,o,e⟩:=newC k H
 exact ⟨v,_,⟨G,rfl⟩,o.bs,e⟩
theorem allS_len (zs : List Int) : (allS zs).length ≤ 8 * zs.length:=zK3 zs _
theorem rep_u8 (n : Nat) : IsU8 (List.replicate n 0):=fun z hz=>by rw [(List.mem_replicate.1 hz).2]; omega
end Go.Proofs.Ythgflkfhjnbheaa.G14.Bt
end
section
namespace Go.Proofs.Ythgflkfhjnbheaa.G14.Bt
open Go Go.Proofs.Ythgflkfhjnbheaa.Eng
theorem zPk : ∀ z : Fin 256,∀ r : Fin 8,bitB ((z.1 : Nat) : Int) ((r.1 : Nat) : Int) = z.1.testBit r.1:=by decide +kernel
def zUp (zs : List Int) (q : Nat) : Int:=(zs[q]?).getD 0
theorem hasS_nat (zs : List Int) (j : Nat) : hasS zs (j : Int) = bitB (zUp zs (j / 8)) ((j % 8 : Nat) : Int):=by
 unfold hasS zUp
 have e1 : ((j : Int)).tdiv 8 = ((j / 8 : Nat) : Int):=by rw [Int.tdiv_eq_ediv_of_nonneg (by omega)]; omega
 have e2 : ((j : Int)).tmod 8 = ((j % 8 : Nat) : Int):=by rw [Int.tmod_eq_emod_of_nonneg (by omega)]; omega
 rw [e1,e2,Int.toNat_natCast]
 by_cases h : j / 8 < zs.length
 ·have d1 : decide ((j : Int) ≥ 0) = true:=by simp
  have d2 : decide (((j / 8 : Nat) : Int) < (zs.length : Int)) = true:=by simp only [decide_eq_true_eq]; omega
  rw [d1,d2]; rfl
 ·have d2 : decide (((j / 8 : Nat) : Int) < (zs.length : Int)) = false:=by simp only [decide_eq_false_iff_not]; omega
  rw [d2,List.getElem?_eq_none (by omega)]
  have:=zPk ⟨0,by omega⟩ ⟨j % 8,by omega⟩
  simp only [Bool.and_false,Bool.false_and,Option.getD_none]
  exact (this.trans (by simp)).symm
theorem hasS_neg (zs : List Int) {j : Int} (h : j < 0) : hasS zs j = false:=by
 unfold hasS
 have d1 : decide (j ≥ 0) = false:=by simp; omega
 rw [d1]; rfl
theorem hasS_high {zs : List Int} {j : Nat} (h : 8 * zs.length ≤ j) : hasS zs (j : Int) = false:=by
 rw [hasS_nat]
 unfold zUp
 rw [List.getElem?_eq_none (by omega)]
 exact (zPk ⟨0,by omega⟩ ⟨j % 8,by omega⟩).trans (by simp)
theorem allU_mem {zs : List Int} : ∀ {i : Nat} {z : Int},z ∈ allU zs i → 0 ≤ z ∧ z < i ∧ hasS zs z = true
 | 0,z,h=>by simp [allU] at h
 | i + 1,z,h=>by
  simp only [allU] at h
  split at h
  ·rename_i hh
   rcases List.mem_append.1 h with h | h
   ·obtain ⟨h1,h2,h3⟩:=allU_mem h
    exact ⟨h1,by omega,h3⟩
   ·simp at h; subst h; exact ⟨by omega,by omega,hh⟩
  ·obtain ⟨h1,h2,h3⟩:=allU_mem h
   exact ⟨h1,by omega,h3⟩
theorem allU_sorted (zs : List Int) : ∀ i,(allU zs i).Pairwise (· < ·)
 | 0=>by simp [allU]
 | i + 1=>by
  simp only [allU]
  split
  ·refine List.pairwise_append.2 ⟨allU_sorted zs i,by simp,fun a ha b hb=>?_⟩
   simp at hb; subst hb
   exact (allU_mem ha).2.1
  ·exact allU_sorted zs i
end Go.Proofs.Ythgflkfhjnbheaa.G14.Bt
end
section
namespace Go.Proofs.Ythgflkfhjnbheaa.G14
open Go Go.Proofs.Ythgflkfhjnbheaa.Eng
theorem tySn : (ty 3 true 56 [AV.int .i64 0,.nilSl,.nilSl]).size = 3:=rfl
theorem tySb : (ty 3 true 56 [AV.int .i64 0,.nilSl,.nilSl]).bytes = 56:=rfl
theorem zCl {L : List SnS} (f : Fits L) {i : Nat} {s : SnS} (h : L[i]? = some s) : s.Fit:=f.2 s (List.mem_of_getElem? h)
section
variable {H : zAc} {v : AV} {L : List SnS} (g : IsC H v L) (fi : Fits L)
include g fi
end
section
variable {H : zAc} {v w : AV} {L M : List SnS} (g : IsC H v L) (f : IsC H w M) (fL : Fits L) (fM : Fits M)
include g f fL fM
set_option maxHeartbeats 8000000 in
theorem snapsL (he : L.length = M.length) (x2 x3 x6 x7 x8 x9 x10 : AV) : ∀ (k i : Nat) (j11 j12 j13 j14 j15 j16 j17 j18 j19 j20 j21 j22 j23 j24 j25 j26 j27 j28 j29 j30 j31 j32 j33 j34 j35 j36 j37 j38 j39 j40 j41 j42 j43 j44 j45 j46 j47 j48 j49 j50 j51 j52 j53 j54 j55 : AV),i + k = L.length →
  Outs (LP1 l52x0 [v,w,x2,x3,.bool false,.int .i64 (i : Int),x6,x7,x8,x9,x10,j11,j12,j13,j14,j15,j16,j17,j18,j19,j20,j21,j22,j23,j24,j25,j26,j27,j28,j29,j30,j31,j32,j33,j34,j35,j36,j37,j38,j39,j40,j41,j42,j43,j44,j45,j46,j47,j48,j49,j50,j51,j52,j53,j54,j55] H) fun e t K=>K = H ∧ ∃ fv : Nat → AV,t = [v,w,x2,x3,(fv 4),(fv 5),x6,x7,x8,x9,x10,(fv 11),(fv 12),(fv 13),(fv 14),(fv 15),(fv 16),(fv 17),(fv 18),(fv 19),(fv 20),(fv 21),(fv 22),(fv 23),(fv 24),(fv 25),(fv 26),(fv 27),(fv 28),(fv 29),(fv 30),(fv 31),(fv 32),(fv 33),(fv 34),(fv 35),(fv 36),(fv 37),(fv 38),(fv 39),(fv 40),(fv 41),(fv 42),(fv 43),(fv 44),(fv 45),(fv 46),(fv 47),(fv 48),(fv 49),(fv 50),(fv 51),(fv 52),(fv 53),(fv 54),(fv 55)] ∧ ((e = .exit 0 ∧ L.drop i = M.drop i) ∨ (e = .ret ∧ fv 4 = .bool false ∧ L.drop i ≠ M.drop i)):=by
 intro k
 obtain ⟨L0,hL0⟩ : ∃ L,L = LP1 l52x0:=⟨_,rfl⟩
 have lo:=zAp hL0
 have wl:=g.len
 have fl:=fL.1
 rw [← hL0]
 induction k with
 | zero =>
  intro i j11 j12 j13 j14 j15 j16 j17 j18 j19 j20 j21 j22 j23 j24 j25 j26 j27 j28 j29 j30 j31 j32 j33 j34 j35 j36 j37 j38 j39 j40 j41 j42 j43 j44 j45 j46 j47 j48 j49 j50 j51 j52 j53 j54 j55 hi
  obtain rfl : i = L.length:=by omega
  have hd : decide ((L.length : Int) < (L.length : Int)) = false:=by simp
  rw [lo]
  unfold l52x0
  simp -implicitDefEqProofs (maxSteps:=5000000) only [go_sem,simprocAttr,wl,hd,zAg,zAb]
  exact exF2 rfl (.inl (by rw [List.drop_length,he,List.drop_length]))
 | succ k ih =>
  intro i j11 j12 j13 j14 j15 j16 j17 j18 j19 j20 j21 j22 j23 j24 j25 j26 j27 j28 j29 j30 j31 j32 j33 j34 j35 j36 j37 j38 j39 j40 j41 j42 j43 j44 j45 j46 j47 j48 j49 j50 j51 j52 j53 j54 j55 hi
  have hlt : i < L.length:=by omega
  have hlt2 : i < M.length:=by omega
  have hd : decide ((i : Int) < (L.length : Int)) = true:=decide_eq_true (by omega)
  have e2 : IntKind.i64.wrap ((i : Int) + 1) = ((i + 1 : Nat) : Int):=by rw [zAk (by omega) (by omega)]; omega
  have hx:=List.getElem?_eq_getElem hlt
  have hy:=List.getElem?_eq_getElem hlt2
  rw [List.drop_eq_getElem_cons hlt,List.drop_eq_getElem_cons hlt2]
  have f1:=zCl fL hx
  have f2:=zCl fM hy
  generalize L[i] = s at *
  generalize M[i] = u at *
  obtain ⟨bb,cs,vc,vt,sb,ix,hc,h1,h2,h3,ht,hle,hbs,hip⟩:=g.idx hx
  obtain ⟨bb',cs',vc',vt',sb',ix',hc',h1',h2',h3',ht',hle',hbs',hip'⟩:=f.idx hy
  have eb:=Bt.bytesC hbs hbs' f1.u8 f2.u8
  have ep:=pairsC hip hip' (by have:=f1.lt; omega)
  have key:=ih (i + 1)
  have stay : ∀ {A B : List SnS},s = u → ((s :: A = u :: B) ↔ A = B):=fun h=>by subst h; simp
  rw [lo]
  unfold l52x0
  by_cases hid : s.id = u.id
  ·have n1 : (s.id != u.id) = false:=by simp [hid]
   by_cases hch : s.ch = u.ch
   ·rw [decide_eq_true hch] at eb
    by_cases htb : s.tb = u.tb
    ·rw [decide_eq_true htb] at ep
     have su : s = u:=by cases s; cases u; simp_all
     simp -implicitDefEqProofs (maxSteps:=5000000) only [go_sem,simprocAttr,itr,itq,wl,hd,ix,hc,h1,h2,h3,ix',hc',h1',h2',h3',n1,eb,ep,e2]
     refine (key _ _ _ _ _ _ _ _ _ _ _ _ _ _ _ _ _ _ _ _ _ _ _ _ _ _ _ _ _ _ _ _ _ _ _ _ _ _ _ _ _ _ _ _ _ (by omega)).mono fun e t K ⟨hK,fv,ht,hh⟩=>⟨hK,fv,ht,?_⟩
     rcases hh with ⟨he,hh⟩ | ⟨he,h4,hh⟩
     ·exact .inl ⟨he,(stay su).2 hh⟩
     ·exact .inr ⟨he,h4,fun q=>hh ((stay su).1 q)⟩
    ·rw [decide_eq_false htb] at ep
     simp -implicitDefEqProofs (maxSteps:=5000000) only [go_sem,simprocAttr,itr,itq,wl,hd,ix,hc,h1,h2,h3,ix',hc',h1',h2',h3',n1,eb,ep,zAb]
     exact exF2 rfl (.inr ⟨rfl,fun q=>htb (by injection q with q _; rw [q])⟩)
   ·rw [decide_eq_false hch] at eb
    simp -implicitDefEqProofs (maxSteps:=5000000) only [go_sem,simprocAttr,itr,itq,wl,hd,ix,hc,h1,h2,h3,ix',hc',h1',h2',h3',n1,eb,zAb]
    exact exF2 rfl (.inr ⟨rfl,fun q=>hch (by injection q with q _; rw [q])⟩)
  ·have n1 : (s.id != u.id) = true:=by simp [hid]
   simp -implicitDefEqProofs (maxSteps:=5000000) only [go_sem,simprocAttr,itr,itq,wl,hd,ix,hc,h1,h2,h3,ix',hc',h1',h2',h3',n1,zAb]
   exact exF2 rfl (.inr ⟨rfl,fun q=>hid (by injection q with q _; rw [q])⟩)
theorem snapsC : (envL prog).call 52 [v,w] H = some (.bool (decide (L = M)),H):=by
 have wl:=g.len
 have wm:=f.len
 by_cases he : L.length = M.length
 ·have nn : ((L.length : Int) != (M.length : Int)) = false:=by simp [he]
  have l0:=snapsL g f fL fM he (k:=L.length) (i:=0)
  rw [show ((0 : Nat) : Int) = 0 from rfl,List.drop_zero,List.drop_zero] at l0
  have key : Outs (runC (envL prog) (b52 (envL prog)) ([v,w] ++ List.replicate (56 - [v,w].length) .undef) H) fun e' t K=>K = H ∧ fin [.tmp 4] (some (e',t,K)) = some (.bool (decide (L = M)),K):=by
   unfold b52
   generalize hQ : (fun (e' : Ex) (t : T) (K : zAc)=>K = H ∧ fin [.tmp 4] (some (e',t,K)) = some (AV.bool (decide (L = M)),K)) = Q
   simp -implicitDefEqProofs (maxSteps:=5000000) only [go_sem,simprocAttr,itr,itq,zAi,wl,wm,nn]
   unfold LP1 at l0
   generalize (envL prog).loop (runC (envL prog) (l52x0 (envL prog))) = L0 at l0 ⊢
   refine zAq (fun r=>seqR (zAt 0 r) _) (l0 _ _ _ _ _ _ _ _ _ _ _ _ _ _ _ _ _ _ _ _ _ _ _ _ _ _ _ _ _ _ _ _ _ _ _ _ _ _ _ _ _ _ _ _ _ _ _ _ _ _ _ _ (by omega)) ?_
   rintro e t K ⟨rfl,fv,rfl,⟨rfl,ho⟩ | ⟨rfl,f4,ho⟩⟩
   ·simp -implicitDefEqProofs (maxSteps:=5000000) only [go_sem,simprocAttr,zAb]
    subst hQ
    rw [decide_eq_true ho]
    refine ⟨rfl,?_⟩
    simp -implicitDefEqProofs (maxSteps:=5000000) only [go_sem,simprocAttr]
   ·simp -implicitDefEqProofs (maxSteps:=5000000) only [go_sem,simprocAttr,zAb]
    subst hQ
    rw [decide_eq_false ho]
    refine ⟨rfl,?_⟩
    simp -implicitDefEqProofs (maxSteps:=5000000) only [go_sem,simprocAttr,f4]
  obtain ⟨e',t,K,hr,rfl,hf⟩:=key
  rw [c52,hr,hf]; exact zBo rfl
 ·have nn : ((L.length : Int) != (M.length : Int)) = true:=by simp; omega
  rw [decide_eq_false (fun e=>he (by rw [e]))]
  rw [c52]
  unfold b52
  simp -implicitDefEqProofs (maxSteps:=5000000) only [go_sem,simprocAttr,itr,itq,wl,wm,nn]
end
end Go.Proofs.Ythgflkfhjnbheaa.G14
end
section
namespace Go.Proofs.Ythgflkfhjnbheaa.G14
open Go Go.Proofs.Ythgflkfhjnbheaa.Eng
structure ChV (H : zAc) (v : AV) (L : List SnS) : Prop where
 cell : zA0 v = some [v] ∧ v.isCell = true
 len : zD3 v = some (.int .i64 L.length)
 row : ∀ (i : Nat) (s : SnS),L[i]? = some s → ∃ b q cs vc vt,zBj 3 v (.int .i64 (i : Int)) = some (.ptr b q) ∧ cellsOf H b = some cs ∧ (cs.drop q).take 3 = [.int .i64 s.id,vc,vt] ∧ q + 3 ≤ cs.length ∧ BS H vc s.ch ∧ IsP H vt s.tb
theorem zTe {H : zAc} {v : AV} {L : List SnS} (g : IsC H v L) : ChV H v L :=
 ⟨g.cell,g.len,fun i s h=>by obtain ⟨b,cs,vc,vt,_,h1,h2,_,_,_,h3,h4,h5,h6⟩:=g.idx h; exact ⟨b,_,cs,vc,vt,h1,h2,h3,h4,h5,h6⟩⟩
theorem fromCV {H : zAc} {v : AV} {L : List SnS} (g : ChV H v L) (i : Int) : (envL prog).call 76 [v,.int .i64 i] H = some (.fn 93 [.ptr (H.length + 1) 0,.ptr H.length 0],H ++ [.rw [v],.rw [.int .i64 i]]):=by
 have hc:=g.cell
 rw [c76]
 unfold b76
 simp -implicitDefEqProofs (maxSteps:=5000000) only [go_sem,simprocAttr,itr,itq,hc.1]
section
variable {H0 : zAc} {v : AV} {L : List SnS} (g0 : ChV H0 v L) {p q y : Nat} {P : Nat → zAc → Prop} {Q : zAc → Prop} (fl : L.length ≤ 100)
 (hP : ∀ i K,P i K → K[p]? = some (.rw [.int .i64 (i : Int)]) ∧ cellsOf K q = some [v] ∧ Adds H0 K)
 (hy : ∀ i K s vc vt,P i K → L[i]? = some s → BS H0 vc s.ch → IsP H0 vt s.tb → ∃ K',((envL prog).yield y [.int .i64 (i : Int),.agg [.int .i64 s.id,vc,vt]] K = some (.bool true,K') ∧ K'[p]? = some (.rw [.int .i64 (i : Int)]) ∧ P (i + 1) (K'.set p (.rw [.int .i64 ((i + 1 : Nat) : Int)]))) ∨ ((envL prog).yield y [.int .i64 (i : Int),.agg [.int .i64 s.id,vc,vt]] K = some (.bool false,K') ∧ Q K'))
include g0 fl hP hy
set_option maxHeartbeats 4000000 in
theorem fromL (x3 x4 x5 : AV) : ∀ (k i : Nat) (K : zAc) (j6 j7 j8 j9 j10 j11 j12 j13 j14 j15 j16 j17 j18 j19 : AV),P i K → L.length - i ≤ k →
  Outs (LP1 l93x0 [.yld y,.ptr p 0,.ptr q 0,x3,x4,x5,j6,j7,j8,j9,j10,j11,j12,j13,j14,j15,j16,j17,j18,j19] K) fun e t K'=>(e = .exit 0 ∧ ∃ j,L.length ≤ j ∧ i ≤ j ∧ (i ≤ L.length → j = L.length) ∧ P j K') ∨ (e = .ret ∧ Q K'):=by
 intro k
 obtain ⟨L0,hL0⟩ : ∃ L,L = LP1 l93x0:=⟨_,rfl⟩
 have lo:=zAp hL0
 rw [← hL0]
 induction k with
 | zero =>
  intro i K j6 j7 j8 j9 j10 j11 j12 j13 j14 j15 j16 j17 j18 j19 pK hi
  obtain ⟨c0,c1,a0⟩:=hP i K pK
  have c0:=zAl c0
  have wl:=g0.len
  have hd : decide ((i : Int) < (L.length : Int)) = false:=decide_eq_false (by omega)
  rw [lo]
  unfold l93x0
  simp -implicitDefEqProofs (maxSteps:=5000000) only [go_sem,simprocAttr,c0,c1,wl,hd,zAg,zAb]
  exact .inl ⟨i,by omega,Nat.le_refl _,fun _=>by omega,pK⟩
 | succ k ih =>
  intro i K j6 j7 j8 j9 j10 j11 j12 j13 j14 j15 j16 j17 j18 j19 pK hi
  obtain ⟨c0,c1,a0⟩:=hP i K pK
  have c0:=zAl c0
  have wl:=g0.len
  by_cases hlt : i < L.length
  ·have hd : decide ((i : Int) < (L.length : Int)) = true:=decide_eq_true (by omega)
   have e2 : IntKind.i64.wrap ((i : Int) + 1) = ((i + 1 : Nat) : Int):=by rw [zAk (by omega) (by omega)]; omega
   have hx:=List.getElem?_eq_getElem hlt
   generalize L[i] = s at *
   obtain ⟨bb,q0,cs,vc,vt,ix,hc0,ht,hle,hbs,hip⟩:=g0.row _ _ hx
   have hc:=a0.cells hc0
   obtain ⟨K',⟨ey,p',pn⟩ | ⟨ey,qn⟩⟩:=hy i K s vc vt pK hx hbs hip
   ·have cp:=zAl p'
    have wr : zA3 K' p 0 [.int .i64 ((i + 1 : Nat) : Int)] = some (K'.set p (.rw [.int .i64 ((i + 1 : Nat) : Int)])):=by
     rw [zA2 p',if_pos ⟨by simp,rfl⟩,zBw]; rfl
    have key:=ih (i + 1) (K'.set p (.rw [.int .i64 ((i + 1 : Nat) : Int)]))
    rw [lo]
    unfold l93x0
    simp -implicitDefEqProofs (maxSteps:=5000000) only [go_sem,simprocAttr,itr,zC4,c0,c1,wl,hd,ix,hc,ht,hle,ey,cp,e2,wr]
    refine (key _ _ _ _ _ _ _ _ _ _ _ _ _ _ pn (by omega)).mono fun e t K h=>?_
    rcases h with ⟨he,j,h1,h2,h3,h4⟩ | h
    ·exact .inl ⟨he,j,h1,by omega,fun _=>h3 (by omega),h4⟩
    ·exact .inr h
   ·rw [lo]
    unfold l93x0
    simp -implicitDefEqProofs (maxSteps:=5000000) only [go_sem,simprocAttr,itr,zC4,c0,c1,wl,hd,ix,hc,ht,hle,ey,zAb]
    exact .inr qn
  ·have hd : decide ((i : Int) < (L.length : Int)) = false:=decide_eq_false (by omega)
   rw [lo]
   unfold l93x0
   simp -implicitDefEqProofs (maxSteps:=5000000) only [go_sem,simprocAttr,c0,c1,wl,hd,zAg,zAb]
   exact .inl ⟨i,by omega,Nat.le_refl _,fun _=>by omega,pK⟩
theorem fromAllV {i : Nat} {K : zAc} (pK : P i K) : ∃ K',(envL prog).call 93 [.yld y,.ptr p 0,.ptr q 0] K = trim K (some (.tup [],K')) ∧ ((∃ j,L.length ≤ j ∧ i ≤ j ∧ (i ≤ L.length → j = L.length) ∧ P j K') ∨ Q K'):=by
 obtain ⟨c0,c1,a0⟩:=hP i K pK
 have c0:=zAl c0
 have l0:=fromL g0 fl hP hy (k:=L.length) (i:=i) (K:=K)
 have key : Outs (runC (envL prog) (b93 (envL prog)) ([.yld y,.ptr p 0,.ptr q 0] ++ List.replicate (20 - [AV.yld y,.ptr p 0,.ptr q 0].length) .undef) K) fun e' t K'=>((∃ j,L.length ≤ j ∧ i ≤ j ∧ (i ≤ L.length → j = L.length) ∧ P j K') ∨ Q K') ∧ fin [] (some (e',t,K')) = some (.tup [],K'):=by
  unfold b93
  generalize hQ : (fun (e' : Ex) (t : T) (K' : zAc)=>((∃ j,L.length ≤ j ∧ i ≤ j ∧ (i ≤ L.length → j = L.length) ∧ P j K') ∨ Q K') ∧ fin [] (some (e',t,K')) = some (AV.tup [],K')) = Q1
  have dn : decide ((i : Int) < 0) = false:=decide_eq_false (by omega)
  simp -implicitDefEqProofs (maxSteps:=5000000) only [go_sem,simprocAttr,itr,itq,zAi,c0,dn]
  unfold LP1 at l0
  generalize (envL prog).loop (runC (envL prog) (l93x0 (envL prog))) = L0 at l0 ⊢
  refine zAq (fun r=>zAt 0 r) (l0 _ _ _ _ _ _ _ _ _ _ _ _ _ _ _ _ _ pK (by omega)) ?_
  rintro e t K' (⟨rfl,h⟩ | ⟨rfl,h⟩)
  ·simp -implicitDefEqProofs (maxSteps:=5000000) only [go_sem,simprocAttr,zAb]
   subst hQ
   exact ⟨.inl h,rfl⟩
  ·simp -implicitDefEqProofs (maxSteps:=5000000) only [go_sem,simprocAttr,zAb]
   subst hQ
   exact ⟨.inr h,rfl⟩
 obtain ⟨e',t,K',hr,hh,hf⟩:=key
 exact ⟨K',by rw [c93,hr,hf],hh⟩
end
theorem fromC {H : zAc} {v : AV} {L : List SnS} (g : IsC H v L) (i : Int) : (envL prog).call 76 [v,.int .i64 i] H = some (.fn 93 [.ptr (H.length + 1) 0,.ptr H.length 0],H ++ [.rw [v],.rw [.int .i64 i]]):=fromCV (zTe g) i
section
variable {H0 : zAc} {v : AV} {L : List SnS} (g0 : IsC H0 v L) {p q y : Nat} {P : Nat → zAc → Prop} {Q : zAc → Prop} (fl : L.length ≤ 100)
 (hP : ∀ i K,P i K → K[p]? = some (.rw [.int .i64 (i : Int)]) ∧ cellsOf K q = some [v] ∧ Adds H0 K)
 (hy : ∀ i K s vc vt,P i K → L[i]? = some s → BS H0 vc s.ch → IsP H0 vt s.tb → ∃ K',((envL prog).yield y [.int .i64 (i : Int),.agg [.int .i64 s.id,vc,vt]] K = some (.bool true,K') ∧ K'[p]? = some (.rw [.int .i64 (i : Int)]) ∧ P (i + 1) (K'.set p (.rw [.int .i64 ((i + 1 : Nat) : Int)]))) ∨ ((envL prog).yield y [.int .i64 (i : Int),.agg [.int .i64 s.id,vc,vt]] K = some (.bool false,K') ∧ Q K'))
include g0 fl hP hy
theorem fromAll {i : Nat} {K : zAc} (pK : P i K) : ∃ K',(envL prog).call 93 [.yld y,.ptr p 0,.ptr q 0] K = trim K (some (.tup [],K')) ∧ ((∃ j,L.length ≤ j ∧ i ≤ j ∧ (i ≤ L.length → j = L.length) ∧ P j K') ∨ Q K'):=fromAllV (zTe g0) fl hP hy pK
end
end Go.Proofs.Ythgflkfhjnbheaa.G14
end
section
namespace Go.Proofs.Ythgflkfhjnbheaa.G14
open Go Go.Proofs.Ythgflkfhjnbheaa.Eng
theorem snAlloc {K : zAc} {s : SnS} {vc vt : AV} (hbs : BS K vc s.ch) (hip : IsP K vt s.tb) : zA3 (K ++ [ABlk.rw [AV.int .i64 0,.nilSl,.nilSl]]) K.length 0 [.int .i64 s.id,vc,vt] = some (K ++ [ABlk.rw [.int .i64 s.id,vc,vt]]):=by
 rw [zC1,if_pos ⟨by simp,by have:=hbs.cell.2; have:=hip.cell.2; simp only [List.all_cons,List.all_nil,Bool.and_true, *]; rfl⟩]; rfl
section
variable {H : zAc} {v : AV} {L : List SnS} (g : ChV H v L) (fi : Fits L) (b : Int)
include g fi
end
end Go.Proofs.Ythgflkfhjnbheaa.G14
end
section
namespace Go.Proofs.Ythgflkfhjnbheaa.G14
open Go Go.Proofs.Ythgflkfhjnbheaa.Eng
section
variable {H : zAc} {v : AV} {L : List SnS} (g : IsC H v L) (fi : Fits L) (j : Int)
include g fi
end
end Go.Proofs.Ythgflkfhjnbheaa.G14
end
section
namespace Go.Proofs.Ythgflkfhjnbheaa.G14
open Go Go.Proofs.Ythgflkfhjnbheaa.Eng
structure zN9 (H K : zAc) (s : SnS) (vc vt : AV) : Prop where
 a : Adds H K
 bc : BS K vc s.ch
 pt : IsP K vt s.tb
 gc : ∀ b,slb vc = some b → H.length ≤ b
 gt : ∀ b,slb vt = some b → H.length ≤ b
section
variable {H : zAc} {s : SnS} {vc vt : AV} (bc : BS H vc s.ch) (pt : IsP H vt s.tb) (ft : s.Fit)
include bc pt ft
end
end Go.Proofs.Ythgflkfhjnbheaa.G14
end
section
namespace Go.Proofs.Ythgflkfhjnbheaa.G14
open Go Go.Proofs.Ythgflkfhjnbheaa.Eng
section
variable {H : zAc} {v : AV} {L : List SnS} (g : IsC H v L) (fi : Fits L)
include g fi
end
end Go.Proofs.Ythgflkfhjnbheaa.G14
end
section
namespace Go.Proofs.Ythgflkfhjnbheaa.G14
open Go Go.Proofs.Ythgflkfhjnbheaa.Eng
def joinS (a b : SnS) : SnS:=⟨a.id,Bt.orS a.ch b.ch,(zRk a.tb b.tb a.tb []).1⟩
def dropN (L : List SnS) : Nat → List SnS
 | 0=>L.drop 1
 | k + 1=>match L[k]?,L[k + 1]? with
  | some a,some b=>L.take k ++ joinS a b :: L.drop (k + 2)
  | _,_=>L
def dropS (L : List SnS) (i : Int) : List SnS:=if i < 0 ∨ (L.length : Int) ≤ i then L else dropN L i.toNat
def cutS (L : List SnS) (i : Int) : List SnS:=if i < 0 ∨ (L.length : Int) ≤ i then L else
 match L[i.toNat]? with
 | some s=>L.take i.toNat ++ [⟨s.id,List.replicate s.ch.length 0,[]⟩]
 | none=>L
end Go.Proofs.Ythgflkfhjnbheaa.G14
end
section
namespace Go.Proofs.Ythgflkfhjnbheaa.G14
open Go Go.Proofs.Ythgflkfhjnbheaa.Eng
theorem snR_pat {H : zAc} {r : List AV} {s : SnS} (g : SnR H r s) : ∃ vc vt,r = [.int .i64 s.id,vc,vt] ∧ BS H vc s.ch ∧ IsP H vt s.tb:=g
theorem zUg {H : zAc} {rows : List (List AV)} {L : List SnS} (g : ChR H rows L) : ∀ r ∈ rows,r.all AV.isCell = true:=fun r hr=>by obtain ⟨s,_,q⟩:=g.row hr; exact q.cell
section
variable {H : zAc} {v : AV} {L : List SnS} (g : IsC H v L) (fi : Fits L)
include g fi
end
end Go.Proofs.Ythgflkfhjnbheaa.G14
end
section
namespace Go.Proofs.Ythgflkfhjnbheaa.G14
open Go Go.Proofs.Ythgflkfhjnbheaa.Eng
section
variable {H : zAc} {v : AV} {L : List SnS} (g : IsC H v L) (fi : Fits L)
include g fi
end
end Go.Proofs.Ythgflkfhjnbheaa.G14
end
section
namespace Go.Proofs.Ythgflkfhjnbheaa.G14
open Go Go.Proofs.Ythgflkfhjnbheaa.Eng
section
variable {H : zAc} {v : AV} {L : List SnS} (g : IsC H v L) (fi : Fits L)
include g fi
end
end Go.Proofs.Ythgflkfhjnbheaa.G14
end
section
namespace Go.Proofs.Ythgflkfhjnbheaa.G14
open Go Go.Proofs.Ythgflkfhjnbheaa.Eng
def oneS (s : SnS) (bl ar : Int) (last : Bool) : Bool:=decide (1 ≤ s.id) && (decide (s.id ≤ 1000000) && (Bt.goodS s.ch bl && (zEc s.tb bl ar && (s.tb.all (fun p=>Bt.hasS s.ch p.1) && (last || ((s.tb.length : Int) == Bt.sumO s.ch))))))
section
variable {H : zAc} {s : SnS} {vc vt : AV} (bc : BS H vc s.ch) (pt : IsP H vt s.tb) (ft : s.Fit) {q : Nat} (hq : cellsOf H q = some [.int .i64 s.id,vc,vt]) (hp : ∀ p ∈ s.tb,p.1 ≤ 9223372036854775807)
include bc pt ft hq hp
set_option maxHeartbeats 4000000 in
theorem oneL (x0 x1 x2 x3 x5 x6 x7 x9 x11 x12 x13 x14 x15 x16 x17 x18 x19 x20 x21 x22 x23 x24 x25 x26 x27 x28 x29 x30 x31 x32 x33 x34 x48 x49 x50 x51 x52 x53 x54 x55 x56 x57 : AV) : ∀ (k i : Nat) (K : zAc) (j10 j38 j39 j40 j41 j42 j43 j44 j45 j46 j47 : AV),Adds H K → i + k = s.tb.length →
  Outs (LP1 l77x0 [x0,x1,x2,x3,.ptr q 0,x5,x6,x7,.bool false,x9,j10,x11,x12,x13,x14,x15,x16,x17,x18,x19,x20,x21,x22,x23,x24,x25,x26,x27,x28,x29,x30,x31,x32,x33,x34,vt,.int .i64 (s.tb.length : Int),.int .i64 (i : Int),j38,j39,j40,j41,j42,j43,j44,j45,j46,j47,x48,x49,x50,x51,x52,x53,x54,x55,x56,x57] K) fun e t K'=>Adds H K' ∧ ∃ fv : Nat → AV,t = [x0,x1,x2,x3,.ptr q 0,x5,x6,x7,(fv 8),x9,(fv 10),x11,x12,x13,x14,x15,x16,x17,x18,x19,x20,x21,x22,x23,x24,x25,x26,x27,x28,x29,x30,x31,x32,x33,x34,vt,.int .i64 (s.tb.length : Int),(fv 37),(fv 38),(fv 39),(fv 40),(fv 41),(fv 42),(fv 43),(fv 44),(fv 45),(fv 46),(fv 47),x48,x49,x50,x51,x52,x53,x54,x55,x56,x57] ∧ ((e = .exit 0 ∧ (s.tb.drop i).all (fun p=>Bt.hasS s.ch p.1) = true) ∨ (e = .ret ∧ fv 8 = .bool false ∧ (s.tb.drop i).all (fun p=>Bt.hasS s.ch p.1) = false)):=by
 intro k
 obtain ⟨L0,hL0⟩ : ∃ L,L = LP1 l77x0:=⟨_,rfl⟩
 have lo:=zAp hL0
 have lt1:=ft.lt
 rw [← hL0]
 induction k with
 | zero =>
  intro i K j10 j38 j39 j40 j41 j42 j43 j44 j45 j46 j47 aK hi
  obtain rfl : i = s.tb.length:=by omega
  have hd : decide ((s.tb.length : Int) < (s.tb.length : Int)) = false:=by simp
  rw [lo,List.drop_length]
  unfold l77x0
  simp -implicitDefEqProofs (maxSteps:=5000000) only [go_sem,simprocAttr,hd,zAg,zAb]
  exact ⟨aK,exF2 rfl (.inl rfl)⟩
 | succ k ih =>
  intro i K j10 j38 j39 j40 j41 j42 j43 j44 j45 j46 j47 aK hi
  have hlt : i < s.tb.length:=by omega
  have hd : decide ((i : Int) < (s.tb.length : Int)) = true:=decide_eq_true (by omega)
  have e2 : IntKind.i64.wrap ((i : Int) + 1) = ((i + 1 : Nat) : Int):=by rw [zAk (by omega) (by omega)]; omega
  have hx:=List.getElem?_eq_getElem hlt
  have hb:=hp _ (List.getElem_mem hlt)
  rw [List.drop_eq_getElem_cons hlt,List.all_cons]
  generalize s.tb[i] = p at *
  obtain ⟨bb,cs,sb,ix,hc0,h1,h2,ht,hle⟩:=pt.idx hx
  have hc:=aK.cells hc0
  unfold prC at ht
  obtain ⟨K1,hK1⟩ : ∃ K1,K1 = K ++ [ABlk.rw [.int .i64 p.1,.int .i64 p.2]]:=⟨_,rfl⟩
  have A1 : Adds K K1:=⟨_,hK1⟩
  have a1:=aK.trans A1
  have cp : cellsOf K1 K.length = some [.int .i64 p.1,.int .i64 p.2]:=by rw [hK1]; unfold cellsOf; simp
  have cq:=a1.cells hq
  have eh:=Bt.hasC (a1.bs bc) p.1 hb
  have hK1:=hK1.symm
  have key:=ih (i + 1) K1
  rw [lo]
  unfold l77x0
  rcases hh : Bt.hasS s.ch p.1 with _ | _ <;> rw [hh] at eh
  ·simp -implicitDefEqProofs (maxSteps:=5000000) only [go_sem,simprocAttr,itr,itq,hd,ix,hc,ht,hle,hK1,cq,cp,eh,zAb]
   exact ⟨a1,exF2 rfl (.inr rfl)⟩
  ·simp -implicitDefEqProofs (maxSteps:=5000000) only [go_sem,simprocAttr,itr,itq,hd,ix,hc,ht,hle,hK1,cq,cp,eh,e2]
   exact key _ _ _ _ _ _ _ _ _ _ _ a1 (by omega)
end
section
variable {H : zAc} {s : SnS} {vc vt : AV} (bc : BS H vc s.ch) (pt : IsP H vt s.tb) (ft : s.Fit) {bl : Int} (hbl : bl ≤ 9223372036854775807) (ar : Int)
include bc pt ft hbl
set_option maxHeartbeats 4000000 in
theorem oneC (last : Bool) : (envL prog).call 77 [.agg [.int .i64 s.id,vc,vt],.int .i64 bl,.int .i64 ar,.bool last] H = some (.bool (oneS s bl ar last),H):=by
 obtain ⟨K,hK⟩ : ∃ K,K = H ++ [ABlk.rw [.int .i64 s.id,vc,vt]]:=⟨_,rfl⟩
 have A : Adds H K:=⟨_,hK⟩
 have cc:=bc.cell
 have ct:=pt.cell
 have cq : cellsOf K H.length = some [.int .i64 s.id,vc,vt]:=by rw [hK]; unfold cellsOf; simp
 have eg:=Bt.goodC (A.bs bc) (by have:=ft.lc; omega) bl
 have et:=goodC (pt.adds A) (by have:=ft.lt; omega) bl ar
 have wt:=pt.len
 have hK:=hK.symm
 have key : Outs (runC (envL prog) (b77 (envL prog)) ([.agg [.int .i64 s.id,vc,vt],.int .i64 bl,.int .i64 ar,.bool last] ++ List.replicate (58 - [AV.agg [.int .i64 s.id,vc,vt],.int .i64 bl,.int .i64 ar,.bool last].length) .undef) H) fun e' t K=>Adds H K ∧ fin [.tmp 8] (some (e',t,K)) = some (.bool (oneS s bl ar last),K):=by
  unfold b77
  generalize hQ : (fun (e' : Ex) (t : T) (K : zAc)=>Adds H K ∧ fin [.tmp 8] (some (e',t,K)) = some (AV.bool (oneS s bl ar last),K)) = Q
  by_cases h1 : s.id < 1
  ·have d1:=decide_eq_true h1
   have hs : oneS s bl ar last = false:=by unfold oneS; rw [decide_eq_false (by omega)]; rfl
   simp -implicitDefEqProofs (maxSteps:=5000000) only [go_sem,simprocAttr,itr,itq,zAe,cc.2,ct.2,hK,cq,d1,zAb]
   subst hQ
   rw [hs]
   refine ⟨A,?_⟩
   simp -implicitDefEqProofs (maxSteps:=5000000) only [go_sem,simprocAttr]
  have d1:=decide_eq_false h1
  by_cases h2 : s.id > 1000000
  ·have d2:=decide_eq_true h2
   have hs : oneS s bl ar last = false:=by unfold oneS; rw [decide_eq_true (by omega),decide_eq_false (by omega)]; rfl
   simp -implicitDefEqProofs (maxSteps:=5000000) only [go_sem,simprocAttr,itr,itq,zAe,cc.2,ct.2,hK,cq,d1,d2,zAb]
   subst hQ
   rw [hs]
   refine ⟨A,?_⟩
   simp -implicitDefEqProofs (maxSteps:=5000000) only [go_sem,simprocAttr]
  have d2:=decide_eq_false h2
  have o1 : oneS s bl ar last = (Bt.goodS s.ch bl && (zEc s.tb bl ar && (s.tb.all (fun p=>Bt.hasS s.ch p.1) && (last || ((s.tb.length : Int) == Bt.sumO s.ch))))):=by
   unfold oneS; rw [decide_eq_true (by omega),decide_eq_true (by omega)]; rfl
  rcases hg : Bt.goodS s.ch bl with _ | _ <;> rw [hg] at eg o1
  ·simp -implicitDefEqProofs (maxSteps:=5000000) only [go_sem,simprocAttr,itr,itq,zAe,cc.2,ct.2,hK,cq,d1,d2,eg,zAb]
   subst hQ
   rw [o1]
   refine ⟨A,?_⟩
   simp -implicitDefEqProofs (maxSteps:=5000000) only [go_sem,simprocAttr]
  rcases hg2 : zEc s.tb bl ar with _ | _ <;> rw [hg2] at et o1
  ·simp -implicitDefEqProofs (maxSteps:=5000000) only [go_sem,simprocAttr,itr,itq,zAe,cc.2,ct.2,hK,cq,d1,d2,eg,et,zAb]
   subst hQ
   rw [o1]
   refine ⟨A,?_⟩
   simp -implicitDefEqProofs (maxSteps:=5000000) only [go_sem,simprocAttr]
  have G:=zGg.1 hg2
  have l0:=oneL (A.bs bc) (pt.adds A) ft cq (fun p hp=>by have:=(G.rng p hp).1; omega) (k:=s.tb.length) (i:=0) (K:=K)
  rw [show ((0 : Nat) : Int) = 0 from rfl,List.drop_zero] at l0
  simp -implicitDefEqProofs (maxSteps:=5000000) only [go_sem,simprocAttr,itr,itq,zAi,zAe,cc.2,ct.2,hK,cq,d1,d2,eg,et,wt]
  unfold LP1 at l0
  generalize (envL prog).loop (runC (envL prog) (l77x0 (envL prog))) = L0 at l0 ⊢
  refine zAq (fun r=>seqR (zAt 0 r) _) (l0 _ _ _ _ _ _ _ _ _ _ _ _ _ _ _ _ _ _ _ _ _ _ _ _ _ _ _ _ _ _ _ _ _ _ _ _ _ _ _ _ _ _ _ _ _ _ _ _ _ _ _ _ _ (Adds.refl K) (by omega)) ?_
  rintro e t K2 ⟨a2,fv,rfl,⟨rfl,ho⟩ | ⟨rfl,f8,ho⟩⟩
  ·rw [ho] at o1
   have cq2:=a2.cells cq
   have ec:=Bt.countC ((A.trans a2).bs bc) ft.u8 (by have:=ft.lc; omega)
   cases last with
   | true =>
    simp -implicitDefEqProofs (maxSteps:=5000000) only [go_sem,simprocAttr,itr,itq,zAb]
    subst hQ
    rw [o1]
    refine ⟨A.trans a2,?_⟩
    simp -implicitDefEqProofs (maxSteps:=5000000) only [go_sem,simprocAttr]
   | false =>
    obtain ⟨x,hx⟩ : ∃ x,((s.tb.length : Int) == Bt.sumO s.ch) = x:=⟨_,rfl⟩
    rw [hx] at o1
    simp -implicitDefEqProofs (maxSteps:=5000000) only [go_sem,simprocAttr,itr,itq,cq2,wt,ec,hx,zAb]
    subst hQ
    rw [o1]
    refine ⟨A.trans a2,?_⟩
    simp -implicitDefEqProofs (maxSteps:=5000000) only [go_sem,simprocAttr]
  ·rw [ho] at o1
   simp -implicitDefEqProofs (maxSteps:=5000000) only [go_sem,simprocAttr,itr,itq,zAb]
   subst hQ
   rw [o1]
   refine ⟨A.trans a2,?_⟩
   simp -implicitDefEqProofs (maxSteps:=5000000) only [go_sem,simprocAttr,f8]
 obtain ⟨e',t,K',hr,aK,hf⟩:=key
 rw [c77,hr,hf]; exact aK.trimS rfl
end
end Go.Proofs.Ythgflkfhjnbheaa.G14
end
section
namespace Go.Proofs.Ythgflkfhjnbheaa.G14
open Go Go.Proofs.Ythgflkfhjnbheaa.Eng
def atsF : List PrS → List Int → Bool
 | [],_=>true
 | p :: l,ats=>!ats.contains p.2 && atsF l (ats ++ [p.2])
def pvOk (pv : Option Int) (id : Int) : Bool:=match pv with | none=>true | some q=>decide (q < id)
def zCz (bl ar : Int) : List SnS → Option Int → List Int → Bool
 | [],_,_=>true
 | s :: L,pv,ats=>oneS s bl ar L.isEmpty && (pvOk pv s.id && (atsF s.tb ats && zCz bl ar L (some s.id) (ats ++ s.tb.map (·.2))))
def zFc (L : List SnS) (bl ar : Int) : Bool:=decide (L.length ≤ 8) && zCz bl ar L none []
def pvAt (L : List SnS) (i : Nat) : Option Int:=if i = 0 then none else (L[i - 1]?).map (·.id)
noncomputable abbrev GooL (s : LoopState) (e : Ex) (t : T) : ABlk:=.loop ⟨s,e,t,[17,18],zG0,zGz⟩
structure GooY (H : zAc) (v : AV) (bl ar : Int) (ats : List Int) (s : LoopState) (e : Ex) (t : T) (w : AV) (K : zAc) : Prop where
 old : ∀ b,b < H.length → K[b]? = H[b]?
 len : H.length + 8 ≤ K.length
 vb : K[H.length]? = some (.rw [v])
 bb : K[H.length + 1]? = some (.rw [.int .i64 bl])
 ab : K[H.length + 2]? = some (.rw [.int .i64 ar])
 rb : K[H.length + 3]? = some (.rw [.bool false])
 wb : K[H.length + 4]? = some (.rw [w])
 lb : K[H.length + 5]? = some (.rw [v])
 lp : K[H.length + 7]? = some (GooL s e t)
 fs : FS K (H.length + 8) w ats
theorem GooY.step {H K K' : zAc} {v : AV} {bl ar : Int} {ats ats' : List Int} {s s' : LoopState} {e e' : Ex} {t : T} {w w' : AV} (y : GooY H v bl ar ats s e t w K) (a : ∀ b,b < H.length + 8 → b ≠ H.length + 4 → b ≠ H.length + 6 → b ≠ H.length + 7 → K'[b]? = K[b]?) (l : H.length + 8 ≤ K'.length) (wb : K'[H.length + 4]? = some (.rw [w'])) (lp : K'[H.length + 7]? = some (GooL s' e' t)) (fs : FS K' (H.length + 8) w' ats') : GooY H v bl ar ats' s' e' t w' K' :=
 ⟨fun b hb=>by rw [a b (by omega) (by omega) (by omega) (by omega)]; exact y.old b hb,l,by rw [a _ (by omega) (by omega) (by omega) (by omega)]; exact y.vb,by rw [a _ (by omega) (by omega) (by omega) (by omega)]; exact y.bb,by rw [a _ (by omega) (by omega) (by omega) (by omega)]; exact y.ab,by rw [a _ (by omega) (by omega) (by omega) (by omega)]; exact y.rb,wb,by rw [a _ (by omega) (by omega) (by omega) (by omega)]; exact y.lb,lp,fs⟩
structure GooP (H : zAc) (v : AV) (L : List SnS) (bl ar : Int) (ans : Bool) (t : T) (i : Nat) (K : zAc) : Prop where
 ex : ∃ w ats,GooY H v bl ar ats .ready .normal t w K ∧ ans = zCz bl ar (L.drop i) (pvAt L i) ats ∧ ats.length ≤ 1000 * i
 ib : K[H.length + 6]? = some (.rw [.int .i64 (i : Int)])
theorem FS.out {K : zAc} {B : Nat} {v : AV} {zs : List Int} (g : FS K B v zs) : ∀ b,slb v = some b → B ≤ b ∧ b < K.length:=GR.out g
theorem FS.frT {K K' : zAc} {F : Nat → Prop} {B : Nat} {v : AV} {zs : List Int} (g : FS K B v zs) (a : Fr K K' F) (n : ∀ b,slb v = some b → ¬ F b) : FS K' B v zs:=GR.frS g a n
section
variable {H : zAc} {v : AV} {bl ar : Int} {s : SnS} {vt : AV} (pt : IsP H vt s.tb) (ft : s.Fit)
include pt ft
set_option maxHeartbeats 8000000 in
theorem gooL {t0 : T} {i0 : Int} : ∀ (k i : Nat) (K : zAc) (w : AV) (ats : List Int) (t : T),t.length = 61 → getT t 6 = .ptr (H.length + 3) 0 → getT t 7 = .ptr (H.length + 4) 0 → getT t 45 = vt → getT t 46 = .int .i64 (s.tb.length : Int) → getT t 47 = .int .i64 (i : Int) →
  GooY H v bl ar ats .busy .normal t0 w K → K[H.length + 6]? = some (.rw [.int .i64 i0]) → ats.length ≤ 10000 + i → i + k = s.tb.length →
  Outs (LP1 l46x0 t K) fun e t' K'=>K'[H.length + 6]? = some (.rw [.int .i64 i0]) ∧ K.length ≤ K'.length ∧ ∃ w' ats',GooY H v bl ar ats' .busy .normal t0 w' K' ∧ ((e = .exit 2 ∧ atsF (s.tb.drop i) ats = true ∧ ats' = ats ++ (s.tb.drop i).map (·.2)) ∨ (e = .ret ∧ atsF (s.tb.drop i) ats = false)):=by
 intro k
 obtain ⟨L0,hL0⟩ : ∃ L,L = LP1 l46x0:=⟨_,rfl⟩
 have lo:=zAp hL0
 have lt1:=ft.lt
 rw [← hL0]
 induction k with
 | zero =>
  intro i K w ats t ht t6 t7 t45 t46 t47 y ib al hi
  obtain rfl : i = s.tb.length:=by omega
  have hd : decide ((s.tb.length : Int) < (s.tb.length : Int)) = false:=by simp
  rw [lo,List.drop_length]
  unfold l46x0
  simp -implicitDefEqProofs (maxSteps:=5000000) only [go_sem,simprocAttr,zBg,ht,t45,t46,t47,List.length_set,Nat.reduceLT,hd,zAg,zAb]
  exact ⟨ib,w,ats,y,.inl ⟨rfl,by simp⟩⟩
 | succ k ih =>
  intro i K w ats t ht t6 t7 t45 t46 t47 y ib al hi
  have hlt : i < s.tb.length:=by omega
  have hd : decide ((i : Int) < (s.tb.length : Int)) = true:=decide_eq_true (by omega)
  have e2 : IntKind.i64.wrap ((i : Int) + 1) = ((i + 1 : Nat) : Int):=by rw [zAk (by omega) (by omega)]; omega
  have hx:=List.getElem?_eq_getElem hlt
  rw [List.drop_eq_getElem_cons hlt,atsF,List.map_cons]
  generalize s.tb[i] = p at *
  have aK : Adds H K:=Adds.of_get (by have:=y.len; omega) y.old
  have kl:=y.len
  obtain ⟨bb,cs,sb,ix,hc0,h1,h2,hh,hle⟩:=pt.idx hx
  have hc:=aK.cells hc0
  unfold prC at hh
  obtain ⟨K1,hK1⟩ : ∃ K1,K1 = K ++ [ABlk.rw [.int .i64 p.1,.int .i64 p.2]]:=⟨_,rfl⟩
  have A1 : Adds K K1:=⟨_,hK1⟩
  have l1 : K1.length = K.length + 1:=by rw [hK1]; simp
  have cp : cellsOf K1 K.length = some [.int .i64 p.1,.int .i64 p.2]:=by rw [hK1]; unfold cellsOf; simp
  have w1:=A1.at y.wb
  have cw:=zAl w1
  have f1 : FS K1 (H.length + 8) w ats:=y.fs.frT (Fr.adds A1 (fun _=>False)) fun _ _ h=>h
  have ec:=zMk f1 (by omega) p.2
  have hK1:=hK1.symm
  have key:=ih (i + 1)
  have at1 : ∀ z,z < K.length → K1[z]? = K[z]?:=fun z hz=>by rw [← hK1,List.getElem?_append_left hz]
  rcases hh2 : ats.contains p.2 with _ | _
  ·rw [hh2] at ec
   obtain ⟨K2,hK2⟩ : ∃ K2,K2 = K1 ++ [ABlk.rw [.int .i64 p.2]]:=⟨_,rfl⟩
   have A2 : Adds K1 K2:=⟨_,hK2⟩
   have l2 : K2.length = K1.length + 1:=by rw [hK2]; simp
   have c2 : cellsOf K2 K1.length = some [.int .i64 p.2]:=by rw [hK2]; unfold cellsOf; simp
   obtain ⟨w',K3,ep,f3,fr3,sb3,l3⟩:=FS.push (f1.frT (Fr.adds A2 (fun _=>False)) fun _ _ h=>h) c2 (by omega) (by omega)
   have wg:=f1.out
   have at3 : ∀ z,z < H.length + 8 → K3[z]? = K[z]?:=fun z hz=>by
    rw [fr3.2 z (by omega) (fun h=>by have:=(wg z h).1; omega),hK2,List.getElem?_append_left (by omega),at1 z (by omega)]
   have w3 : K3[H.length + 4]? = some (.rw [w]):=by rw [at3 _ (by omega)]; exact y.wb
   have cw' : zA0 w' = some [w'] ∧ w'.isCell = true:=by
    rcases f3 with ⟨_,rfl⟩ | ⟨_,_,_,rfl,_⟩ <;> exact ⟨rfl,rfl⟩
   have wr:=zFy (y:=w') w3 cw'.2
   obtain ⟨K4,hK4⟩ : ∃ K4,K4 = K3.set (H.length + 4) (ABlk.rw [w']):=⟨_,rfl⟩
   rw [← hK4] at wr
   have at4 : ∀ z,z < H.length + 8 → z ≠ H.length + 4 → K4[z]? = K[z]?:=fun z hz h4=>by rw [hK4,zAn _ _ _ _ h4]; exact at3 z hz
   have l4 : K4.length = K.length + 3:=by rw [hK4,List.length_set,l3]; omega
   have y4 : GooY H v bl ar (ats ++ [p.2]) .busy .normal t0 w' K4:=y.step (fun z hz h4 _ _=>at4 z hz h4) (by omega) (by rw [hK4]; exact zBe _ _ _ (by omega)) (by rw [at4 _ (by omega) (by omega)]; exact y.lp) (f3.frT (by rw [hK4]; exact Fr.set _ _ (F:=fun z=>z = H.length + 4) rfl) fun z hz h=>by have:=(FS.out f3 z hz).1; omega)
   have hK2:=hK2.symm
   have cwK2:=zAl (A2.at w1)
   have cp2:=A2.cells cp
   rw [lo]
   unfold l46x0
   simp -implicitDefEqProofs (maxSteps:=5000000) only [go_sem,simprocAttr,itr,itq,zBg,ht,t6,t7,t45,t46,t47,List.length_set,Nat.reduceLT,hd,ix,hc,hh,hle,hK1,cw,cp,ec,hK2,ep,cw'.1,wr,e2]
   refine Outs.mono (key K4 w' (ats ++ [p.2]) _ (by simp [ht]) (by simp [zBg,ht,t6]) (by simp [zBg,ht,t7]) (by simp [zBg,ht,t45]) (by simp [zBg,ht,t46]) (by simp [zBg,ht]) y4 (by rw [at4 _ (by omega) (by omega)]; exact ib) (by rw [List.length_append,List.length_singleton]; omega) (by omega)) fun e t' K' ⟨q1,q2,w2,ats2,q3,q4⟩=>⟨q1,by omega,w2,ats2,q3,?_⟩
   rcases q4 with ⟨rfl,q4,q5⟩ | ⟨rfl,q4⟩
   ·exact .inl ⟨rfl,q4,by rw [q5,List.append_assoc]; rfl⟩
   ·exact .inr ⟨rfl,q4⟩
  ·rw [hh2] at ec
   have r1:=A1.at y.rb
   have wr:=zFy (y:=.bool false) r1 rfl
   obtain ⟨K4,hK4⟩ : ∃ K4,K4 = K1.set (H.length + 3) (ABlk.rw [.bool false]):=⟨_,rfl⟩
   rw [← hK4] at wr
   have at4 : ∀ z,z < K.length → K4[z]? = K[z]?:=fun z hz=>by
    rw [hK4]
    by_cases h3 : z = H.length + 3
    ·subst h3; rw [zBe _ _ _ (by omega)]; exact y.rb.symm
    ·rw [zAn _ _ _ _ h3]; exact at1 z hz
   have l4 : K4.length = K.length + 1:=by rw [hK4,List.length_set,l1]
   have a4 : Adds K K4:=Adds.of_get (by omega) at4
   have y4 : GooY H v bl ar ats .busy .normal t0 w K4:=y.step (fun z hz _ _ _=>at4 z (by omega)) (by omega) (by rw [at4 _ (by omega)]; exact y.wb) (by rw [at4 _ (by omega)]; exact y.lp) (y.fs.frT (Fr.adds a4 (fun _=>False)) fun _ _ h=>h)
   rw [lo]
   unfold l46x0
   simp -implicitDefEqProofs (maxSteps:=5000000) only [go_sem,simprocAttr,itr,itq,zBg,ht,t6,t7,t45,t46,t47,List.length_set,Nat.reduceLT,hd,ix,hc,hh,hle,hK1,cw,cp,ec,wr,zAb]
   exact ⟨by rw [at4 _ (by omega)]; exact ib,by omega,w,ats,y4,.inr trivial⟩
end
theorem zF8 {L : List SnS} {i : Nat} {s : SnS} (h : L[i]? = some s) : pvAt L (i + 1) = some s.id:=by
 unfold pvAt; rw [if_neg (by omega),Nat.add_sub_cancel,h]; rfl
section
variable {H : zAc} {v : AV} {L : List SnS} (g : IsC H v L) (fi : Fits L) (h8 : L.length ≤ 8) {bl : Int} (hbl : bl ≤ 9223372036854775807) (ar : Int)
include g fi h8 hbl
set_option maxHeartbeats 8000000 in
theorem gooRound {ans : Bool} {t : T} (ht : t.length = 61) (t3 : getT t 3 = .ptr H.length 0) (t4 : getT t 4 = .ptr (H.length + 1) 0) (t5 : getT t 5 = .ptr (H.length + 2) 0) (t6 : getT t 6 = .ptr (H.length + 3) 0) (t7 : getT t 7 = .ptr (H.length + 4) 0) {i : Nat} {K : zAc} {s : SnS} {vc vt : AV} (y : GooP H v L bl ar ans t i K) (hx : L[i]? = some s) (hbs : BS H vc s.ch) (hip : IsP H vt s.tb) :
  ∃ K',((envL prog).yield (H.length + 7) [.int .i64 (i : Int),.agg [.int .i64 s.id,vc,vt]] K = some (.bool true,K') ∧ K'[H.length + 6]? = some (.rw [.int .i64 (i : Int)]) ∧ GooP H v L bl ar ans t (i + 1) (K'.set (H.length + 6) (.rw [.int .i64 ((i + 1 : Nat) : Int)]))) ∨ ((envL prog).yield (H.length + 7) [.int .i64 (i : Int),.agg [.int .i64 s.id,vc,vt]] K = some (.bool false,K') ∧ ans = false ∧ ∃ w ats,GooY H v bl ar ats .done .ret t w K'):=by
 obtain ⟨⟨w,ats,y,inv,al⟩,ib⟩:=y
 have kl:=y.len
 have ft:=zCl fi hx
 have lt:=(List.getElem?_eq_some_iff.1 hx).1
 rw [List.drop_eq_getElem_cons lt,Option.some.inj ((List.getElem?_eq_getElem lt).symm.trans hx),zCz] at inv
 have aK : Adds H K:=Adds.of_get (by omega) y.old
 have bK:=aK.bs hbs
 have pK:=hip.adds aK
 have w0:=snAlloc bK pK
 obtain ⟨Kb,hKb⟩ : ∃ Kb,Kb = (K ++ [ABlk.rw [.int .i64 s.id,vc,vt]]).set (H.length + 7) (GooL .busy .normal t):=⟨_,rfl⟩
 have lb : Kb.length = K.length + 1:=by rw [hKb]; exact zKz
 have fb : ∀ b,b < K.length → b ≠ H.length + 7 → Kb[b]? = K[b]?:=fun b hb hn=>by rw [hKb]; exact zN1 hb hn
 have b6 : Kb[K.length]? = some (.rw [.int .i64 s.id,vc,vt]):=by rw [hKb]; exact zPi (by omega)
 have frb : Fr K Kb (fun b=>b = H.length + 7):=by rw [hKb]; exact zUr
 have yb : GooY H v bl ar ats .busy .normal t w Kb:=y.step (fun b hb _ _ h7=>fb b (by omega) h7) (by omega) (by rw [fb _ (by omega) (by omega)]; exact y.wb) (by rw [hKb]; exact zUq (by omega)) (y.fs.frT frb fun z hz h=>by have:=(FS.out y.fs z hz).1; omega)
 have ib2 : Kb[H.length + 6]? = some (.rw [.int .i64 (i : Int)]):=by rw [fb _ (by omega) (by omega)]; exact ib
 have aKb : Adds H Kb:=Adds.of_get (by omega) yb.old
 have c6:=zAl b6
 have c3:=zAl yb.vb
 have c4:=zAl yb.bb
 have c5:=zAl yb.ab
 have wl:=g.len
 have e1 : IntKind.i64.wrap ((L.length : Int) - 1) = (L.length : Int) - 1:=zAk (by omega) (by omega)
 have hlast : ((i : Int) == (L.length : Int) - 1) = (L.drop (i + 1)).isEmpty:=by
  by_cases h : i + 1 = L.length
  ·rw [List.drop_eq_nil_of_le (by omega),show (L.length : Int) - 1 = (i : Int) by omega]; simp
  ·have : (L.drop (i + 1)).isEmpty = false:=by
    cases hq : L.drop (i + 1) with
    | nil=>have:=congrArg List.length hq; rw [List.length_drop] at this; simp at this; omega
    | cons _ _=>rfl
   rw [this,beq_eq_false_iff_ne]; omega
 have eo:=oneC (aKb.bs hbs) (hip.adds aKb) ft hbl ar (L.drop (i + 1)).isEmpty
 have r1:=yb.rb
 have wr:=zFy (y:=.bool false) r1 rfl
 have Kbs : Kb.set (H.length + 3) (.rw [.bool false]) = Kb:=by
  apply List.ext_getElem?
  intro z
  by_cases h3 : z = H.length + 3
  ·subst h3; rw [zBe _ _ _ (by omega)]; exact r1.symm
  ·rw [zAn _ _ _ _ h3]
 rw [Kbs] at wr
 have wt:=hip.len
 have il : IntKind.i64.wrap ((i : Int) - 1) = (i : Int) - 1:=zAk (by omega) (by omega)
 obtain ⟨e,K2,K4,r,ey,h4⟩:=zLo (P:=prog) (l:=H.length + 7) (args:=[.int .i64 (i : Int),.agg [.int .i64 s.id,vc,vt]]) (K:=K) (eaq46x0 _) (ebq46x0 _) y.lp rfl (t1:=(((t.set 17 (.int .i64 (i : Int))).set 18 (.agg [.int .i64 s.id,vc,vt])).set 8 (.int .i64 (i : Int))).set 9 (.ptr K.length 0)) (cs:=[.int .i64 s.id,vc,vt]) (by
   unfold aq46x0
   simp -implicitDefEqProofs (maxSteps:=5000000) only [go_sem,simprocAttr,zBm,zBg,ht,List.length_set,Nat.reduceLT,zAx,zAe,w0])
  (R:=fun e K2=>K2[H.length + 6]? = some (.rw [.int .i64 (i : Int)]) ∧ K.length + 1 ≤ K2.length ∧ ∃ w' ats',GooY H v bl ar ats' .busy .normal t w' K2 ∧ ((e = .normal ∧ ans = zCz bl ar (L.drop (i + 1)) (some s.id) ats' ∧ ats' = ats ++ s.tb.map (·.2)) ∨ (e = .ret ∧ ans = false))) (by
   rw [← hKb]
   unfold bq46x0
   generalize hR : (fun (e : Ex) (_ : T) (K2 : zAc)=>K2[H.length + 6]? = some (ABlk.rw [AV.int .i64 (i : Int)]) ∧ K.length + 1 ≤ K2.length ∧ ∃ w' ats',GooY H v bl ar ats' .busy .normal t w' K2 ∧ ((e = .normal ∧ ans = zCz bl ar (L.drop (i + 1)) (some s.id) ats' ∧ ats' = ats ++ s.tb.map (·.2)) ∨ (e = .ret ∧ ans = false))) = Q
   have stay : ans = false → Q .ret [] Kb:=fun h=>by rw [← hR]; exact ⟨ib2,by omega,w,ats,yb,.inr ⟨rfl,h⟩⟩
   rcases h1 : oneS s bl ar (L.drop (i + 1)).isEmpty with _ | _
   ·rw [h1] at eo inv
    simp -implicitDefEqProofs (maxSteps:=5000000) only [go_sem,simprocAttr,itr,itq,zBg,ht,t3,t4,t5,t6,t7,List.length_set,Nat.reduceLT,c3,c4,c5,c6,wl,e1,hlast,eo,wr,zAb]
    have:=stay inv
    rw [← hR] at this ⊢
    exact this
   rw [h1] at eo inv
   have go : pvOk (pvAt L i) s.id = true → ans = (atsF s.tb ats && zCz bl ar (L.drop (i + 1)) (some s.id) (ats ++ s.tb.map (·.2))):=fun h=>by rw [inv,h]; rfl
   have loop : ans = (atsF s.tb ats && zCz bl ar (L.drop (i + 1)) (some s.id) (ats ++ s.tb.map (·.2))) → ∀ T1 : T,T1.length = 61 → getT T1 6 = .ptr (H.length + 3) 0 → getT T1 7 = .ptr (H.length + 4) 0 → getT T1 45 = vt → getT T1 46 = .int .i64 (s.tb.length : Int) → getT T1 47 = .int .i64 0 → Outs (LP1 l46x0 T1 Kb) fun e t' K'=>Q (match e with | .exit 2=>.normal | e=>e) t' K' ∧ (e = .exit 2 ∨ e = .ret):=fun hans T1 q0 q1 q2 q3 q4 q5=>by
    refine (gooL hip ft (t0:=t) (i0:=(i : Int)) s.tb.length 0 Kb w ats T1 q0 q1 q2 q3 q4 q5 yb ib2 (by omega) (by omega)).mono fun e t' K' ⟨z1,z2,w',ats',z3,z4⟩=>?_
    rw [← hR]
    rw [List.drop_zero] at z4
    rcases z4 with ⟨rfl,z4,z5⟩ | ⟨rfl,z4⟩
    ·exact ⟨⟨z1,by omega,w',ats',z3,.inl ⟨rfl,by rw [hans,z4,z5]; rfl,z5⟩⟩,.inl rfl⟩
    ·exact ⟨⟨z1,by omega,w',ats',z3,.inr ⟨rfl,by rw [hans,z4]; rfl⟩⟩,.inr rfl⟩
   cases i with
   | zero =>
    have lp:=loop (go rfl)
    have dz : decide ((0 : Int) > 0) = false:=rfl
    rw [show ((0 : Nat) : Int) = 0 from rfl] at hlast
    simp -implicitDefEqProofs (maxSteps:=5000000) only [go_sem,simprocAttr,itr,itq,zAi,zBg,ht,t3,t4,t5,t6,t7,List.length_set,Nat.reduceLT,c3,c4,c5,c6,wl,e1,hlast,eo,dz,wt]
    unfold LP1 at lp
    generalize (envL prog).loop (runC (envL prog) (l46x0 (envL prog))) = LL at lp ⊢
    refine zAq (fun x=>zAt 1 (zAt 2 x)) (lp _ (by simp [ht]) (by simp [zBg,ht,t6]) (by simp [zBg,ht,t7]) (by simp [zBg,ht]) (by simp [zBg,ht]) (by simp [zBg,ht])) ?_
    rintro e t' K' ⟨q1,rfl | rfl⟩
    ·simp -implicitDefEqProofs (maxSteps:=5000000) only [go_sem,simprocAttr,zAb]
     exact q1
    ·simp -implicitDefEqProofs (maxSteps:=5000000) only [go_sem,simprocAttr,zAb]
     exact q1
   | succ n =>
    have hn : n < L.length:=by omega
    have hy:=List.getElem?_eq_getElem hn
    have hpv : pvAt L (n + 1) = some L[n].id:=zF8 hy
    obtain ⟨bb,cs,uc,ut,sb,ix,hc0,h1',h2,h3,hh,hle,_⟩:=g.idx hy
    have hc:=aKb.cells hc0
    have dz : decide (((n + 1 : Nat) : Int) > 0) = true:=decide_eq_true (by omega)
    have il2 : IntKind.i64.wrap (((n + 1 : Nat) : Int) - 1) = (n : Int):=by rw [zAk (by omega) (by omega)]; omega
    by_cases hle2 : s.id ≤ L[n].id
    ·have dl:=decide_eq_true hle2
     have hpf : pvOk (some L[n].id) s.id = false:=decide_eq_false (by omega)
     have ha : ans = false:=by rw [inv,hpv,hpf]; rfl
     simp -implicitDefEqProofs (maxSteps:=5000000) only [go_sem,simprocAttr,itr,itq,zBg,ht,t3,t4,t5,t6,t7,List.length_set,Nat.reduceLT,c3,c4,c5,c6,wl,e1,hlast,eo,dz,il2,ix,hc,h1',dl,wr,zAb]
     have:=stay ha
     rw [← hR] at this ⊢
     exact this
    ·have dl:=decide_eq_false hle2
     have lp:=loop (go (by rw [hpv]; unfold pvOk; exact decide_eq_true (by omega)))
     simp -implicitDefEqProofs (maxSteps:=5000000) only [go_sem,simprocAttr,itr,itq,zAi,zBg,ht,t3,t4,t5,t6,t7,List.length_set,Nat.reduceLT,c3,c4,c5,c6,wl,e1,hlast,eo,dz,il2,ix,hc,h1',dl,wt]
     unfold LP1 at lp
     generalize (envL prog).loop (runC (envL prog) (l46x0 (envL prog))) = LL at lp ⊢
     refine zAq (fun x=>zAt 1 (zAt 2 x)) (lp _ (by simp [ht]) (by simp [zBg,ht,t6]) (by simp [zBg,ht,t7]) (by simp [zBg,ht]) (by simp [zBg,ht]) (by simp [zBg,ht])) ?_
     rintro e t' K' ⟨q1,rfl | rfl⟩
     ·simp -implicitDefEqProofs (maxSteps:=5000000) only [go_sem,simprocAttr,zAb]
      exact q1
     ·simp -implicitDefEqProofs (maxSteps:=5000000) only [go_sem,simprocAttr,zAb]
      exact q1) (by
   rintro e K2 ⟨_,_,w',ats',y',_⟩
   exact y'.lp)
 obtain ⟨i2,l2,w',ats',y',h⟩:=r
 have wlt:=fun b hb=>(FS.out y.fs b hb).2
 have hK1 : ∀ k,K[H.length + 4]? = some k → ∀ a ∈ k.vals,∀ x,slb a = some x → x < K.length:=fun k hk a ha x hx=>by
  rw [y.wb] at hk; injection hk with hk; subst hk
  rw [List.mem_singleton.1 ha] at hx; exact wlt x hx
 have fin : ∀ {st : LoopState},(K4 = K2.set (H.length + 7) (GooL st e t) ∨ (zBu K (.bool e.isNormal) (K2.set (H.length + 7) (GooL st e t)) ∧ K4 = (K2.set (H.length + 7) (GooL st e t)).take K.length)) → GooY H v bl ar ats' st e t w' K4 ∧ K4[H.length + 6]? = some (.rw [.int .i64 (i : Int)]):=fun {st} h4=>by
  have l4:=zRd h4 (by rw [List.length_set]; omega)
  have a4:=fun {z} (hz : z < K.length)=>two_at h4 hz
  have f3 : FS (K2.set (H.length + 7) (GooL st e t)) (H.length + 8) w' ats':=y'.fs.frT (Fr.set _ _ (F:=fun z=>z = H.length + 7) rfl) fun z hz h=>by have:=(FS.out y'.fs z hz).1; omega
  have f4 : FS K4 (H.length + 8) w' ats':=two_gr h4 f3 (b:=H.length + 4) (vs:=[w']) (by omega) (by rw [zAn _ _ _ _ (by omega)]; exact y'.wb) (by simp) hK1
  exact ⟨y'.step (fun b hb _ _ h7=>by rw [a4 (by omega),zAn _ _ _ _ h7]) (by omega) (by rw [a4 (by omega),zAn _ _ _ _ (by omega)]; exact y'.wb) (by rw [a4 (by omega),zBe _ _ _ (by omega)]) f4,by rw [a4 (by omega),zAn _ _ _ _ (by omega)]; exact i2⟩
 rcases h with ⟨rfl,ha,he⟩ | ⟨rfl,ha⟩
 ·rw [show Ex.isNormal .normal = true from rfl] at ey h4
  simp only [if_true] at h4
  obtain ⟨y4,i4⟩:=fin h4
  refine ⟨K4,.inl ⟨ey,i4,⟨⟨w',ats',y4.step (fun b hb _ h6 _=>by rw [zAn _ _ _ _ h6]) (by rw [List.length_set]; exact y4.len) (by rw [zAn _ _ _ _ (by omega)]; exact y4.wb) (by rw [zAn _ _ _ _ (by omega)]; exact y4.lp) (y4.fs.frT (Fr.set _ _ (F:=fun z=>z = H.length + 6) rfl) fun z hz h=>by have:=(FS.out y4.fs z hz).1; omega),by rw [zF8 hx]; exact ha,by rw [he,List.length_append,List.length_map]; have:=ft.lt; omega⟩,zBe _ _ _ (by have:=y4.len; omega)⟩⟩⟩
 ·rw [show Ex.isNormal .ret = false from rfl] at ey h4
  simp only [Bool.false_eq_true,if_false] at h4
  obtain ⟨y4,i4⟩:=fin h4
  exact ⟨K4,.inr ⟨ey,ha,w',ats',y4⟩⟩
end
end Go.Proofs.Ythgflkfhjnbheaa.G14
end
section
namespace Go.Proofs.Ythgflkfhjnbheaa.G14
open Go Go.Proofs.Ythgflkfhjnbheaa.Eng
section
variable {H : zAc} {v : AV} {L : List SnS} (g : IsC H v L) (fi : Fits L) {bl : Int} (hbl : bl ≤ 9223372036854775807) (ar : Int)
include g fi hbl
set_option maxHeartbeats 4000000 in
theorem gooRange (h8 : L.length ≤ 8) {T : T} (ht : T.length = 61) (t3 : getT T 3 = .ptr H.length 0) (t4 : getT T 4 = .ptr (H.length + 1) 0) (t5 : getT T 5 = .ptr (H.length + 2) 0) (t6 : getT T 6 = .ptr (H.length + 3) 0) (t7 : getT T 7 = .ptr (H.length + 4) 0) (tf : getT T 16 = .fn 93 [.ptr (H.length + 6) 0,.ptr (H.length + 5) 0]) :
  Outs (runC (envL prog) (.range (X 16) [17,18] zG0 zGz) T (H ++ [ABlk.rw [v],.rw [.int .i64 bl],.rw [.int .i64 ar],.rw [.bool false],.rw [.nilSl],.rw [v],.rw [.int .i64 0]])) fun e t K=>t = T ∧ ((e = .normal ∧ zCz bl ar L none [] = true) ∨ (e = .ret ∧ zCz bl ar L none [] = false)) ∧ ∃ w ats,GooY H v bl ar ats .exhausted e T w K:=by
 obtain ⟨G,hG⟩ : ∃ G,G = H ++ [ABlk.rw [v],.rw [.int .i64 bl],.rw [.int .i64 ar],.rw [.bool false],.rw [.nilSl],.rw [v],.rw [.int .i64 0]]:=⟨_,rfl⟩
 obtain ⟨K0,hK0⟩ : ∃ K0,K0 = G ++ [GooL .ready .normal T]:=⟨_,rfl⟩
 have lG : G.length = H.length + 7:=by rw [hG]; simp
 have y0 : GooY H v bl ar [] .ready .normal T .nilSl K0:=⟨fun z hz=>by rw [hK0,hG,List.getElem?_append_left (by simp; omega),List.getElem?_append_left hz],by rw [hK0,List.length_append,lG]; simp,by rw [hK0,hG]; simp,by rw [hK0,hG]; simp,by rw [hK0,hG]; simp,by rw [hK0,hG]; simp,by rw [hK0,hG]; simp,by rw [hK0,hG]; simp,by rw [hK0,← lG]; simp,.inl ⟨rfl,rfl⟩⟩
 have ib0 : K0[H.length + 6]? = some (.rw [.int .i64 ((0 : Nat) : Int)]):=by rw [hK0,hG]; simp
 rw [← hG]
 have cf : ∀ K,zIu (envL prog) (X 16 T) [.yld G.length] K = (envL prog).call 93 [.yld (H.length + 7),.ptr (H.length + 6) 0,.ptr (H.length + 5) 0] K:=fun K=>by
  rw [lG,X_ap,tf]; rfl
 have hP : ∀ i K,GooP H v L bl ar (zCz bl ar L none []) T i K → K[H.length + 6]? = some (.rw [.int .i64 (i : Int)]) ∧ cellsOf K (H.length + 5) = some [v] ∧ Adds H K:=fun i K y=>by
  obtain ⟨⟨w,ats,y,_⟩,ib⟩:=y
  exact ⟨ib,zAl y.lb,Adds.of_get (by have:=y.len; omega) y.old⟩
 obtain ⟨K1,ec,h1⟩:=fromAll g (v:=v) (L:=L) (p:=H.length + 6) (q:=H.length + 5) (y:=H.length + 7) (P:=GooP H v L bl ar (zCz bl ar L none []) T) (Q:=fun K=>zCz bl ar L none [] = false ∧ ∃ w ats,GooY H v bl ar ats .done .ret T w K) fi.1 hP (fun i K s vc vt y hx hbs hip=>gooRound g fi h8 hbl ar ht t3 t4 t5 t6 t7 y hx hbs hip) (i:=0) (K:=K0) ⟨⟨_,_,y0,rfl,by simp⟩,ib0⟩
 have l0 : K0.length = H.length + 8:=by rw [hK0,List.length_append,lG]; rfl
 obtain ⟨K4,et,h4⟩:=zJx K0 (.tup []) K1
 rw [et] at ec
 have hK1 : ∀ k,K0[H.length + 4]? = some k → ∀ a ∈ k.vals,∀ x,slb a = some x → x < K0.length:=fun k hk a ha x hx=>by
  rw [y0.wb] at hk; injection hk with hk; subst hk
  rw [List.mem_singleton.1 ha] at hx; cases hx
 have fin : ∀ {e : Ex} {st : LoopState} {w : AV} {ats : List Int},GooY H v bl ar ats st e T w K1 → st ≠ .busy → runC (envL prog) (.range (X 16) [17,18] zG0 zGz) T G = some (e,T,K4.set (H.length + 7) (GooL .exhausted e T)) ∧ GooY H v bl ar ats .exhausted e T w (K4.set (H.length + 7) (GooL .exhausted e T)):=by
  intro e st w ats y hs
  have hl:=y.len
  have a4:=fun {z} (hz : z < K0.length)=>two_at h4 hz
  have l4:=zRd h4 (by omega)
  have f4 : FS K4 (H.length + 8) w ats:=two_gr h4 y.fs (by omega) y.wb (by simp) hK1
  have:=zLu (E:=envL prog) (f:=X 16) (ps:=[17,18]) (ka:=zG0) (kb:=zGz) (t:=T) (h:=G) (K:=K4) (e:=e) (st:=st) (v:=.tup []) (by rw [cf]; rw [hK0] at ec; exact ec) (by rw [lG,a4 (by omega)]; exact y.lp) hs
  rw [lG] at this
  exact ⟨this,y.step (fun b hb _ _ h7=>by rw [zAn _ _ _ _ h7,a4 (by omega)]) (by rw [List.length_set]; omega) (by rw [zAn _ _ _ _ (by omega),a4 (by omega)]; exact y.wb) (zBe _ _ _ (by omega)) (f4.frT (Fr.set _ _ (F:=fun z=>z = H.length + 7) rfl) fun z hz h=>by have:=(FS.out y.fs z hz).1; omega)⟩
 rcases h1 with ⟨j,hj,_,_,⟨w,ats,y,inv,_⟩,_⟩ | ⟨ha,w,ats,y⟩
 ·obtain ⟨e1,e2⟩:=fin y (by decide)
  rw [e1]
  exact ⟨_,_,_,rfl,rfl,.inl ⟨rfl,by rw [inv,List.drop_eq_nil_of_le hj]; rfl⟩,w,ats,e2⟩
 ·obtain ⟨e1,e2⟩:=fin y (by decide)
  rw [e1]
  exact ⟨_,_,_,rfl,rfl,.inr ⟨rfl,ha⟩,w,ats,e2⟩
theorem cgoodC : (envL prog).call 46 [v,.int .i64 bl,.int .i64 ar] H = some (.bool (zFc L bl ar),H):=by
 have hr:=fun h8 T=>gooRange g fi hbl ar h8 (T:=T)
 have ef:=fromC (g.adds (⟨[ABlk.rw [v],.rw [.int .i64 bl],.rw [.int .i64 ar],.rw [.bool false],.rw [.nilSl]],rfl⟩ : Adds H _)) 0
 have hc:=g.cell
 have wl:=g.len
 have key : Outs (runC (envL prog) (b46 (envL prog)) ([v,.int .i64 bl,.int .i64 ar] ++ List.replicate (61 - [v,AV.int .i64 bl,.int .i64 ar].length) .undef) H) fun e' t K=>Adds H K ∧ fin [.cell 6 1 false] (some (e',t,K)) = some (.bool (zFc L bl ar),K):=by
  unfold b46
  generalize hQ : (fun (e' : Ex) (t : T) (K : zAc)=>Adds H K ∧ fin [.cell 6 1 false] (some (e',t,K)) = some (AV.bool (zFc L bl ar),K)) = Q
  by_cases h8 : (L.length : Int) > 8
  ·have d8:=decide_eq_true h8
   have hs : zFc L bl ar = false:=by unfold zFc; rw [decide_eq_false (by omega)]; rfl
   simp -implicitDefEqProofs (maxSteps:=5000000) only [go_sem,simprocAttr,itr,itq,hc.1,wl,d8,zAb]
   subst hQ
   rw [hs]
   refine ⟨⟨_,rfl⟩,?_⟩
   simp -implicitDefEqProofs (maxSteps:=5000000) only [go_sem,simprocAttr,itr,itq]
  have d8:=decide_eq_false h8
  have hs : zFc L bl ar = zCz bl ar L none []:=by unfold zFc; rw [decide_eq_true (by omega)]; rfl
  simp -implicitDefEqProofs (maxSteps:=5000000) only [go_sem,simprocAttr,itr,hc.1,wl,d8,ef]
  refine zAq (fun r=>seqR (zAt 0 r) _) (hr (by omega) _ rfl rfl rfl rfl rfl rfl rfl) ?_
  rintro e t K ⟨rfl,h,w,ats,y⟩
  have aK : Adds H K:=Adds.of_get (by have:=y.len; omega) y.old
  have hl:=y.len
  rcases h with ⟨rfl,ha⟩ | ⟨rfl,ha⟩
  ·have wr:=zFy (y:=.bool true) y.rb rfl
   obtain ⟨Kd,hKd⟩ : ∃ Kd,Kd = K.set (H.length + 3) (ABlk.rw [.bool true]):=⟨_,rfl⟩
   rw [← hKd] at wr
   have d1:=zAl (show Kd[H.length + 3]? = some (.rw [.bool true]) by rw [hKd]; exact zBe _ _ _ (by omega))
   have aD : Adds H Kd:=Adds.of_get (by rw [hKd,List.length_set]; omega) fun z hz=>by rw [hKd,zAn _ _ _ _ (by omega)]; exact y.old z hz
   simp -implicitDefEqProofs (maxSteps:=5000000) only [go_sem,simprocAttr,itr,itq,wr,zAb]
   subst hQ
   rw [hs,ha]
   refine ⟨aD,?_⟩
   simp -implicitDefEqProofs (maxSteps:=5000000) only [go_sem,simprocAttr,itr,itq,d1]
  ·have d1:=zAl y.rb
   simp -implicitDefEqProofs (maxSteps:=5000000) only [go_sem,simprocAttr,itr,itq,zAb]
   subst hQ
   rw [hs,ha]
   refine ⟨aK,?_⟩
   simp -implicitDefEqProofs (maxSteps:=5000000) only [go_sem,simprocAttr,itr,itq,d1]
 obtain ⟨e',t,K,hr,aK,hf⟩:=key
 rw [c46,hr,hf]; exact aK.trimS rfl
end
end Go.Proofs.Ythgflkfhjnbheaa.G14
end
section
namespace Go.Proofs.Ythgflkfhjnbheaa.G14
open Go Go.Proofs.Ythgflkfhjnbheaa.Eng
section
variable {H : zAc} {v : AV} {L : List SnS} (g : IsC H v L) (fi : Fits L)
include g fi
theorem closS (n : Int) (q : Nat) (s : SnS) (vc vt : AV) (bc : BS H vc s.ch) (pt : IsP H vt s.tb) (hq : cellsOf H q = some [.int .i64 n]) : (envL prog).call 99 [.agg [.int .i64 s.id,vc,vt],.ptr q 0] H = some (.bool (s.id == n),H):=by
 have c1 : ∀ X,cellsOf (H ++ X) q = some [.int .i64 n]:=fun X=>zBp hq
 have cc:=bc.cell
 have ct:=pt.cell
 rw [c99]
 unfold b99
 simp -implicitDefEqProofs (maxSteps:=5000000) only [go_sem,simprocAttr,itr,itq,zAe,cc.2,ct.2,c1]
set_option maxHeartbeats 4000000 in
theorem cidL (n : Int) {q : Nat} (hq : cellsOf H q = some [.int .i64 n]) (x2 x3 x6 : AV) : ∀ (k i : Nat) (j5 j9 j10 j11 j12 j13 j14 j15 j16 j17 j18 : AV),i + k = L.length →
  Outs (LP1 l98x0 [v,.fn 99 [.ptr q 0],x2,x3,.int .i64 0,j5,x6,.int .i64 (L.length : Int),.int .i64 (i : Int),j9,j10,j11,j12,j13,j14,j15,j16,j17,j18] H) fun e t K=>K = H ∧ ∃ fv : Nat → AV,t = [v,.fn 99 [.ptr q 0],x2,x3,(fv 4),(fv 5),x6,.int .i64 (L.length : Int),(fv 8),(fv 9),(fv 10),(fv 11),(fv 12),(fv 13),(fv 14),(fv 15),(fv 16),(fv 17),(fv 18)] ∧ ((e = .exit 0 ∧ cidF n i (L.drop i) = -1) ∨ (e = .ret ∧ fv 4 = .int .i64 (cidF n i (L.drop i)))):=by
 intro k
 obtain ⟨L0,hL0⟩ : ∃ L,L = LP1 l98x0:=⟨_,rfl⟩
 have lo:=zAp hL0
 have fl:=fi.1
 rw [← hL0]
 induction k with
 | zero =>
  intro i j5 j9 j10 j11 j12 j13 j14 j15 j16 j17 j18 hi
  obtain rfl : i = L.length:=by omega
  have hd : decide ((L.length : Int) < (L.length : Int)) = false:=by simp
  rw [List.drop_length,lo]
  unfold l98x0
  simp -implicitDefEqProofs (maxSteps:=5000000) only [go_sem,simprocAttr,hd,zAg,zAb]
  exact exF2 rfl (.inl rfl)
 | succ k ih =>
  intro i j5 j9 j10 j11 j12 j13 j14 j15 j16 j17 j18 hi
  have hlt : i < L.length:=by omega
  have hd : decide ((i : Int) < (L.length : Int)) = true:=decide_eq_true (by omega)
  have e2 : IntKind.i64.wrap ((i : Int) + 1) = ((i + 1 : Nat) : Int):=by rw [zAk (by omega) (by omega)]; omega
  have hx:=List.getElem?_eq_getElem hlt
  rw [List.drop_eq_getElem_cons hlt]
  generalize L[i] = s at *
  obtain ⟨bb,cs,vc,vt,sb,ix,hc,h1,h2,h3,ht,hle,hbs,hip⟩:=g.idx hx
  have ec:=closS g fi n q s vc vt hbs hip hq
  rw [lo]
  unfold l98x0
  by_cases h : s.id = n
  ·have hb : (s.id == n) = true:=by simp [h]
   rw [cidF,if_pos h]
   simp -implicitDefEqProofs (maxSteps:=5000000) only [go_sem,simprocAttr,itr,itq,hd,ix,hc,ht,hle,ec,hb,zAj,zAb]
   exact exF2 rfl (.inr rfl)
  ·have hb : (s.id == n) = false:=by simp [h]
   rw [cidF,if_neg h]
   simp -implicitDefEqProofs (maxSteps:=5000000) only [go_sem,simprocAttr,itr,itq,hd,ix,hc,ht,hle,ec,hb,e2]
   exact ih (i + 1) _ _ _ _ _ _ _ _ _ _ _ (by omega)
theorem cidFC (n : Int) {q : Nat} (hq : cellsOf H q = some [.int .i64 n]) : (envL prog).call 98 [v,.fn 99 [.ptr q 0]] H = some (.int .i64 (cidF n 0 L),H):=by
 have l0:=cidL g fi n hq (k:=L.length) (i:=0)
 rw [show ((0 : Nat) : Int) = 0 from rfl,List.drop_zero] at l0
 have wl:=g.len
 have key : Outs (runC (envL prog) (b98 (envL prog)) ([v,.fn 99 [.ptr q 0]] ++ List.replicate (19 - [v,AV.fn 99 [.ptr q 0]].length) .undef) H) fun e' t K=>K = H ∧ fin [.tmp 4] (some (e',t,K)) = some (.int .i64 (cidF n 0 L),K):=by
  unfold b98
  generalize hQ : (fun (e' : Ex) (t : T) (K : zAc)=>K = H ∧ fin [.tmp 4] (some (e',t,K)) = some (AV.int .i64 (cidF n 0 L),K)) = Q
  simp -implicitDefEqProofs (maxSteps:=5000000) only [go_sem,simprocAttr,itr,itq,zAi,wl]
  unfold LP1 at l0
  generalize (envL prog).loop (runC (envL prog) (l98x0 (envL prog))) = L0 at l0 ⊢
  refine zAq (fun r=>seqR (zAt 0 r) _) (l0 _ _ _ _ _ _ _ _ _ _ _ _ _ _ (by omega)) ?_
  rintro e t K ⟨rfl,fv,rfl,⟨rfl,ho⟩ | ⟨rfl,f4⟩⟩
  ·simp -implicitDefEqProofs (maxSteps:=5000000) only [go_sem,simprocAttr,zAb]
   subst hQ
   rw [ho]
   refine ⟨rfl,?_⟩
   simp -implicitDefEqProofs (maxSteps:=5000000) only [go_sem,simprocAttr]
  ·simp -implicitDefEqProofs (maxSteps:=5000000) only [go_sem,simprocAttr,zAb]
   subst hQ
   refine ⟨rfl,?_⟩
   simp -implicitDefEqProofs (maxSteps:=5000000) only [go_sem,simprocAttr,f4]
 obtain ⟨e',t,K,hr,rfl,hf⟩:=key
 rw [c98,hr,hf]; exact zBo rfl
theorem cindexC (n : Int) : (envL prog).call 79 [v,.int .i64 n] H = some (.int .i64 (cidF n 0 L),H):=by
 have ec:=cidFC (g.adds (⟨[.rw [.int .i64 n]],rfl⟩ : Adds H (H ++ [.rw [.int .i64 n]]))) fi n (q:=H.length) (by unfold cellsOf; simp)
 rw [c79]
 unfold b79
 simp -implicitDefEqProofs (maxSteps:=5000000) only [go_sem,simprocAttr,itr,itq,ec]
set_option maxHeartbeats 4000000 in
theorem rcidL (n : Int) (x2 x3 : AV) : ∀ (k i : Nat) (j6 j7 j8 j9 j10 j11 j12 j13 j14 j15 j16 j17 j18 j19 : AV),i + k = L.length →
  Outs (LP1 l86x0 [v,.int .i64 n,x2,x3,.int .i64 0,.int .i64 (i : Int),j6,j7,j8,j9,j10,j11,j12,j13,j14,j15,j16,j17,j18,j19] H) fun e t K=>K = H ∧ ∃ fv : Nat → AV,t = [v,.int .i64 n,x2,x3,(fv 4),(fv 5),(fv 6),(fv 7),(fv 8),(fv 9),(fv 10),(fv 11),(fv 12),(fv 13),(fv 14),(fv 15),(fv 16),(fv 17),(fv 18),(fv 19)] ∧ ((e = .exit 0 ∧ cidF n i (L.drop i) = -1) ∨ (e = .ret ∧ fv 4 = .int .i64 (cidF n i (L.drop i)))):=by
 intro k
 obtain ⟨L0,hL0⟩ : ∃ L,L = LP1 l86x0:=⟨_,rfl⟩
 have lo:=zAp hL0
 have fl:=fi.1
 have wl:=g.len
 rw [← hL0]
 induction k with
 | zero =>
  intro i j6 j7 j8 j9 j10 j11 j12 j13 j14 j15 j16 j17 j18 j19 hi
  obtain rfl : i = L.length:=by omega
  have hd : decide ((L.length : Int) < (L.length : Int)) = false:=by simp
  rw [List.drop_length,lo]
  unfold l86x0
  simp -implicitDefEqProofs (maxSteps:=5000000) only [go_sem,simprocAttr,wl,hd,zAg,zAb]
  exact exF2 rfl (.inl rfl)
 | succ k ih =>
  intro i j6 j7 j8 j9 j10 j11 j12 j13 j14 j15 j16 j17 j18 j19 hi
  have hlt : i < L.length:=by omega
  have hd : decide ((i : Int) < (L.length : Int)) = true:=decide_eq_true (by omega)
  have e2 : IntKind.i64.wrap ((i : Int) + 1) = ((i + 1 : Nat) : Int):=by rw [zAk (by omega) (by omega)]; omega
  have hx:=List.getElem?_eq_getElem hlt
  rw [List.drop_eq_getElem_cons hlt]
  generalize L[i] = s at *
  obtain ⟨bb,cs,vc,vt,sb,ix,hc,h1,h2,h3,ht,hle,hbs,hip⟩:=g.idx hx
  rw [lo]
  unfold l86x0
  by_cases h : s.id = n
  ·have hb : (s.id == n) = true:=by simp [h]
   rw [cidF,if_pos h]
   simp -implicitDefEqProofs (maxSteps:=5000000) only [go_sem,simprocAttr,itr,itq,wl,hd,ix,hc,h1,hb,zAj,zAb]
   exact exF2 rfl (.inr rfl)
  ·have hb : (s.id == n) = false:=by simp [h]
   rw [cidF,if_neg h]
   simp -implicitDefEqProofs (maxSteps:=5000000) only [go_sem,simprocAttr,itr,itq,wl,hd,ix,hc,h1,hb,e2]
   exact ih (i + 1) _ _ _ _ _ _ _ _ _ _ _ _ _ _ (by omega)
theorem rcindexC (n : Int) : (envL prog).call 86 [v,.int .i64 n] H = some (.int .i64 (cidF n 0 L),H):=by
 have l0:=rcidL g fi n (k:=L.length) (i:=0)
 rw [show ((0 : Nat) : Int) = 0 from rfl,List.drop_zero] at l0
 have key : Outs (runC (envL prog) (b86 (envL prog)) ([v,.int .i64 n] ++ List.replicate (20 - [v,AV.int .i64 n].length) .undef) H) fun e' t K=>K = H ∧ fin [.tmp 4] (some (e',t,K)) = some (.int .i64 (cidF n 0 L),K):=by
  unfold b86
  generalize hQ : (fun (e' : Ex) (t : T) (K : zAc)=>K = H ∧ fin [.tmp 4] (some (e',t,K)) = some (AV.int .i64 (cidF n 0 L),K)) = Q
  simp -implicitDefEqProofs (maxSteps:=5000000) only [go_sem,simprocAttr,itr,itq,zAi]
  unfold LP1 at l0
  generalize (envL prog).loop (runC (envL prog) (l86x0 (envL prog))) = L0 at l0 ⊢
  refine zAq (fun r=>seqR (zAt 0 r) _) (l0 _ _ _ _ _ _ _ _ _ _ _ _ _ _ _ _ (by omega)) ?_
  rintro e t K ⟨rfl,fv,rfl,⟨rfl,ho⟩ | ⟨rfl,f4⟩⟩
  ·simp -implicitDefEqProofs (maxSteps:=5000000) only [go_sem,simprocAttr,zAb]
   subst hQ
   rw [ho]
   refine ⟨rfl,?_⟩
   simp -implicitDefEqProofs (maxSteps:=5000000) only [go_sem,simprocAttr]
  ·simp -implicitDefEqProofs (maxSteps:=5000000) only [go_sem,simprocAttr,zAb]
   subst hQ
   refine ⟨rfl,?_⟩
   simp -implicitDefEqProofs (maxSteps:=5000000) only [go_sem,simprocAttr,f4]
 obtain ⟨e',t,K,hr,rfl,hf⟩:=key
 rw [c86,hr,hf]; exact zBo rfl
end
def zTu (L : List SnS) : Bool:=L.all (fun s=>decide (s.ch.length ≤ 40) && decide (s.tb.length ≤ 80)) && decide (L.length ≤ 12)
section
variable {H : zAc} {v : AV} {L : List SnS} (g : IsC H v L) (fb : L.length ≤ 9223372036854775807 ∧ ∀ s ∈ L,s.ch.length ≤ 9223372036854775807 ∧ s.tb.length ≤ 9223372036854775807)
include g fb
end
end Go.Proofs.Ythgflkfhjnbheaa.G14
end
section
namespace Go.Proofs.Ythgflkfhjnbheaa.G14
open Go Go.Proofs.Ythgflkfhjnbheaa.Eng
section
variable {H : zAc} {v : AV} {L : List SnS} (g : IsC H v L) (fi : Fits L)
include g fi
end
end Go.Proofs.Ythgflkfhjnbheaa.G14
end
section
namespace Go.Proofs.Ythgflkfhjnbheaa.G14
open Go Go.Proofs.Ythgflkfhjnbheaa.Eng
theorem zJ0 : ∀ {B A : List Int},A.Pairwise (· < ·) → B.Pairwise (· < ·) → (∀ x ∈ A,x ∈ B) → A.length ≤ B.length ∧ (A.length = B.length → A = B)
 | [],A,_,_,h=>by
  cases A with
  | nil=>exact ⟨Nat.le_refl _,fun _=>rfl⟩
  | cons a A=>exact absurd (h a (by simp)) (by simp)
 | b :: B,[],_,_,_=>⟨by simp,fun h=>by simp at h⟩
 | b :: B,a :: A,ha,hb,h=>by
  obtain ⟨a1,a2⟩:=List.pairwise_cons.1 ha
  obtain ⟨b1,b2⟩:=List.pairwise_cons.1 hb
  rcases List.mem_cons.1 (h a (by simp)) with rfl | hab
  ·have ih:=zJ0 a2 b2 fun x hx=>by
    rcases List.mem_cons.1 (h x (by simp [hx])) with rfl | q
    ·exact absurd (a1 _ hx) (by omega)
    ·exact q
   exact ⟨by simp only [List.length_cons]; omega,fun e=>by rw [ih.2 (by simpa using e)]⟩
  ·have lt:=b1 a hab
   have ih:=zJ0 ha b2 fun x hx=>by
    rcases List.mem_cons.1 (h x hx) with rfl | q
    ·rcases List.mem_cons.1 hx with rfl | hx
     ·exact hab
     ·exact absurd (a1 _ hx) (by omega)
    ·exact q
   exact ⟨by simp only [List.length_cons] at *; omega,fun e=>by simp only [List.length_cons] at *; omega⟩
theorem zUw {zs : List Int} : ∀ {i : Nat} {z : Int},0 ≤ z → z < i → Bt.hasS zs z = true → z ∈ Bt.allU zs i
 | 0,z,h0,h1,_=>by omega
 | i + 1,z,h0,h1,h=>by
  simp only [Bt.allU]
  by_cases e : z = i
  ·subst e; rw [if_pos h]; simp
  ·have:=zUw (i:=i) h0 (by omega) h
   split
   ·exact List.mem_append_left _ this
   ·exact this
theorem zKd {zs : List Int} {z : Int} : z ∈ Bt.allS zs ↔ Bt.hasS zs z = true:=by
 constructor
 ·intro h; exact (Bt.allU_mem h).2.2
 ·intro h
  by_cases h0 : z < 0
  ·rw [Bt.hasS_neg _ h0] at h; cases h
  ·obtain ⟨n,rfl⟩ : ∃ n : Nat,z = n:=⟨z.toNat,by omega⟩
   by_cases hn : 8 * zs.length ≤ n
   ·rw [Bt.hasS_high hn] at h; cases h
   ·exact zUw (by omega) (by omega) h
theorem zO2 {l : List PrS} {zs : List Int} (up : asc l) (hu : IsU8 zs) (hs : l.all (fun p=>Bt.hasS zs p.1) = true) : ((l.length : Int) == Bt.sumO zs) = (Bt.allS zs).all (fun c=>decide (0 ≤ idxS l c)):=by
 rw [Bt.count_all hu,Bool.eq_iff_iff,beq_iff_eq,List.all_eq_true]
 have sub : ∀ x ∈ l.map (·.1),x ∈ Bt.allS zs:=fun x hx=>by
  obtain ⟨p,hp,rfl⟩:=List.mem_map.1 hx
  exact zKd.2 (List.all_eq_true.1 hs p hp)
 have q:=zJ0 up (Bt.allU_sorted zs _) sub
 rw [List.length_map] at q
 constructor
 ·intro h c hc
  rw [decide_eq_true_eq,zTh]
  have e:=q.2 (by show _ = (Bt.allS zs).length; omega)
  have hc : c ∈ Bt.allU zs (8 * zs.length):=hc
  rw [← e] at hc
  obtain ⟨p,hp,rfl⟩:=List.mem_map.1 hc
  exact ⟨p,hp,rfl⟩
 ·intro h
  have q2:=zJ0 (Bt.allU_sorted zs (8 * zs.length)) up fun x hx=>by
   have:=h x hx
   rw [decide_eq_true_eq,zTh] at this
   obtain ⟨p,hp,rfl⟩:=this
   exact List.mem_map.2 ⟨p,hp,rfl⟩
  rw [List.length_map] at q2
  have : (Bt.allS zs).length = (Bt.allU zs (8 * zs.length)).length:=rfl
  omega
theorem zUt : ∀ {l : List PrS} {ats : List Int},(∀ p ∈ l,∀ q ∈ l,p.2 = q.2 → p = q) → asc l → atsF l ats = l.all (fun p=>!ats.contains p.2)
 | [],_,_,_=>rfl
 | p :: l,ats,inj,up=>by
  obtain ⟨u1,u2⟩:=zHy.1 up
  rw [atsF,List.all_cons,zUt (fun x hx y hy=>inj x (by simp [hx]) y (by simp [hy])) u2]
  congr 1
  rw [Bool.eq_iff_iff,List.all_eq_true,List.all_eq_true]
  have hn : ∀ q ∈ l,(ats ++ [p.2]).contains q.2 = ats.contains q.2:=fun q hq=>by
   rw [Bool.eq_iff_iff,List.contains_iff_mem,List.contains_iff_mem,List.mem_append,List.mem_singleton]
   constructor
   ·rintro (h | h)
    ·exact h
    ·have:=inj q (by simp [hq]) p (by simp) h
     have lt:=u1 q hq
     rw [this] at lt; omega
   ·exact .inl
  constructor
  ·intro h q hq; rw [← hn q hq]; exact h q hq
  ·intro h q hq; rw [hn q hq]; exact h q hq
def zFi (bl ar : Int) : List SnS → Option Int → List Int → Bool
 | [],_,_=>true
 | s :: L,pv,ats=>decide (1 ≤ s.id) && (decide (s.id ≤ 1000000) && (pvOk pv s.id && (Bt.goodS s.ch bl && (zEc s.tb bl ar && (s.tb.all (fun p=>Bt.hasS s.ch p.1 && !ats.contains p.2) && ((L.isEmpty || (Bt.allS s.ch).all (fun c=>decide (0 ≤ idxS s.tb c))) && zFi bl ar L (some s.id) (ats ++ s.tb.map (·.2))))))))
theorem zHq (bl ar : Int) : ∀ (L : List SnS) (pv : Option Int) (ats : List Int),(∀ s ∈ L,IsU8 s.ch) → zFi bl ar L pv ats = zCz bl ar L pv ats
 | [],_,_,_=>rfl
 | s :: L,pv,ats,hu=>by
  rw [zFi,zCz,oneS,zHq bl ar L _ _ fun s hs=>hu s (by simp [hs])]
  generalize zCz bl ar L (some s.id) (ats ++ s.tb.map (·.2)) = R
  generalize decide (1 ≤ s.id) = b1
  generalize decide (s.id ≤ 1000000) = b2
  generalize pvOk pv s.id = b3
  generalize Bt.goodS s.ch bl = b4
  rcases hg : zEc s.tb bl ar with _ | _
  ·cases b1 <;> cases b2 <;> cases b3 <;> cases b4 <;> rfl
  have G:=zGg.1 hg
  rw [zUt G.inj G.up]
  have e : s.tb.all (fun p=>Bt.hasS s.ch p.1 && !ats.contains p.2) = (s.tb.all (fun p=>Bt.hasS s.ch p.1) && s.tb.all (fun p=>!ats.contains p.2)):=by
   induction s.tb with
   | nil=>rfl
   | cons p l ih =>
    rw [List.all_cons,List.all_cons,List.all_cons,ih]
    cases Bt.hasS s.ch p.1 <;> cases ats.contains p.2 <;> cases l.all (fun p=>Bt.hasS s.ch p.1) <;> rfl
  rw [e]
  rcases hh : s.tb.all (fun p=>Bt.hasS s.ch p.1) with _ | _
  ·cases b1 <;> cases b2 <;> cases b3 <;> cases b4 <;> rfl
  rw [zO2 G.up (hu s (by simp)) hh]
  generalize s.tb.all (fun p=>!ats.contains p.2) = b5
  generalize (Bt.allS s.ch).all (fun c=>decide (0 ≤ idxS s.tb c)) = b6
  generalize L.isEmpty = b7
  cases b1 <;> cases b2 <;> cases b3 <;> cases b4 <;> cases b5 <;> cases b6 <;> cases b7 <;> rfl
end Go.Proofs.Ythgflkfhjnbheaa.G14
end
section
namespace Go.Proofs.Ythgflkfhjnbheaa.G14
open Go Go.Proofs.Ythgflkfhjnbheaa.Eng
section
variable {K : zAc} {B : Nat} {w : AV} {ats : List Int} (fs : FS K B w ats) (al : ats.length ≤ 100000) {s : SnS} {q : Nat} {vc vt : AV} (hq : cellsOf K q = some [.int .i64 s.id,vc,vt]) (bc : BS K vc s.ch) (pt : IsP K vt s.tb) (ft : s.Fit)
include fs al hq pt ft
set_option maxHeartbeats 4000000 in
theorem rgooL0 {k0 : Nat} {p : PrS} (hp : s.tb[k0]? = some p) (x0 x1 x2 x3 x4 x5 x8 x12 x13 x14 x15 x16 x17 x18 x19 x20 x21 x22 x23 x24 x25 x26 x27 x28 x29 x30 x31 x32 x33 x34 x35 x36 x37 x38 x39 x40 x41 x42 x43 x44 x45 x46 x47 x48 x49 x50 x51 x52 x53 x54 x55 x56 x57 x58 x59 x60 x61 x62 x63 x64 x65 x66 x67 x68 x69 x70 x71 x72 x73 x74 x75 x76 x77 x78 x79 x80 x81 x82 x100 x101 x102 x103 x104 x105 x106 x107 x108 x109 x110 x111 x112 x113 x114 x115 x116 x117 x118 x119 x120 x121 x122 x123 x124 x125 x126 x127 x128 x129 x130 x131 x132 x133 x134 x135 x136 x137 x138 x139 : AV) : ∀ (k j : Nat) (j83 j84 j85 j86 j87 j88 j89 j90 j91 j92 j93 j94 j95 j96 j97 j98 j99 : AV),j + k = ats.length →
  Outs (LP1 l49x0 [x0,x1,x2,x3,x4,x5,.bool false,w,x8,.ptr q 0,.int .i64 (k0 : Int),.int .i64 (j : Int),x12,x13,x14,x15,x16,x17,x18,x19,x20,x21,x22,x23,x24,x25,x26,x27,x28,x29,x30,x31,x32,x33,x34,x35,x36,x37,x38,x39,x40,x41,x42,x43,x44,x45,x46,x47,x48,x49,x50,x51,x52,x53,x54,x55,x56,x57,x58,x59,x60,x61,x62,x63,x64,x65,x66,x67,x68,x69,x70,x71,x72,x73,x74,x75,x76,x77,x78,x79,x80,x81,x82,j83,j84,j85,j86,j87,j88,j89,j90,j91,j92,j93,j94,j95,j96,j97,j98,j99,x100,x101,x102,x103,x104,x105,x106,x107,x108,x109,x110,x111,x112,x113,x114,x115,x116,x117,x118,x119,x120,x121,x122,x123,x124,x125,x126,x127,x128,x129,x130,x131,x132,x133,x134,x135,x136,x137,x138,x139] K) fun e t K'=>K' = K ∧ ∃ fv : Nat → AV,t = [x0,x1,x2,x3,x4,x5,(fv 6),w,x8,.ptr q 0,.int .i64 (k0 : Int),(fv 11),x12,x13,x14,x15,x16,x17,x18,x19,x20,x21,x22,x23,x24,x25,x26,x27,x28,x29,x30,x31,x32,x33,x34,x35,x36,x37,x38,x39,x40,x41,x42,x43,x44,x45,x46,x47,x48,x49,x50,x51,x52,x53,x54,x55,x56,x57,x58,x59,x60,x61,x62,x63,x64,x65,x66,x67,x68,x69,x70,x71,x72,x73,x74,x75,x76,x77,x78,x79,x80,x81,x82,(fv 83),(fv 84),(fv 85),(fv 86),(fv 87),(fv 88),(fv 89),(fv 90),(fv 91),(fv 92),(fv 93),(fv 94),(fv 95),(fv 96),(fv 97),(fv 98),(fv 99),x100,x101,x102,x103,x104,x105,x106,x107,x108,x109,x110,x111,x112,x113,x114,x115,x116,x117,x118,x119,x120,x121,x122,x123,x124,x125,x126,x127,x128,x129,x130,x131,x132,x133,x134,x135,x136,x137,x138,x139] ∧ fv 6 = .bool false ∧ ((e = .exit 4 ∧ (ats.drop j).contains p.2 = false) ∨ (e = .ret ∧ (ats.drop j).contains p.2 = true)):=by
 intro k
 obtain ⟨L0,hL0⟩ : ∃ L,L = LP1 l49x0:=⟨_,rfl⟩
 have lo:=zAp hL0
 have wl:=fs.len
 rw [← hL0]
 induction k with
 | zero =>
  intro j j83 j84 j85 j86 j87 j88 j89 j90 j91 j92 j93 j94 j95 j96 j97 j98 j99 hj
  obtain rfl : j = ats.length:=by omega
  have hd : decide ((ats.length : Int) < (ats.length : Int)) = false:=by simp
  rw [List.drop_length,lo]
  unfold l49x0
  simp -implicitDefEqProofs (maxSteps:=5000000) only [go_sem,simprocAttr,wl,hd,zAg,zAb]
  exact exF2 rfl ⟨rfl,.inl (by first | rfl | trivial)⟩
 | succ k ih =>
  intro j j83 j84 j85 j86 j87 j88 j89 j90 j91 j92 j93 j94 j95 j96 j97 j98 j99 hj
  have hlt : j < ats.length:=by omega
  have hd : decide ((j : Int) < (ats.length : Int)) = true:=decide_eq_true (by omega)
  have e2 : IntKind.i64.wrap ((j : Int) + 1) = ((j + 1 : Nat) : Int):=by rw [zAk (by omega) (by omega)]; omega
  have hx:=List.getElem?_eq_getElem hlt
  rw [List.drop_eq_getElem_cons hlt,List.contains_cons]
  generalize ats[j] = a at *
  obtain ⟨b1,c1,_,ix,hc,h1,_⟩:=fs.read hx
  obtain ⟨b2,c2,_,ix2,hc2,_,r2,_,_⟩:=pt.idx hp
  rw [lo]
  unfold l49x0
  by_cases h : a = p.2
  ·have hb : (a == p.2) = true:=by simp [h]
   have hb' : (p.2 == a) = true:=by simp [h]
   simp -implicitDefEqProofs (maxSteps:=5000000) only [go_sem,simprocAttr,itr,itq,wl,hd,ix,hc,h1,hq,ix2,hc2,r2,hb,hb',zAj,zAb]
   exact exF2 rfl ⟨rfl,.inr (by first | rfl | trivial)⟩
  ·have hb : (a == p.2) = false:=by simp [h]
   have hb' : (p.2 == a) = false:=by simp [Ne.symm h]
   simp -implicitDefEqProofs (maxSteps:=5000000) only [go_sem,simprocAttr,itr,itq,wl,hd,ix,hc,h1,hq,ix2,hc2,r2,hb,hb',e2]
   exact ih (j + 1) _ _ _ _ _ _ _ _ _ _ _ _ _ _ _ _ _ (by omega)
include bc
set_option maxHeartbeats 4000000 in
theorem rgooL1 (hb : ∀ p ∈ s.tb,p.1 ≤ 9223372036854775807) (x0 x1 x2 x3 x4 x5 x8 x12 x13 x14 x15 x16 x17 x18 x19 x20 x21 x22 x23 x24 x25 x26 x27 x28 x29 x30 x31 x32 x33 x34 x35 x36 x37 x38 x39 x40 x41 x42 x43 x44 x45 x46 x47 x48 x49 x50 x51 x52 x53 x54 x55 x56 x57 x58 x59 x60 x61 x62 x63 x64 x65 x100 x101 x102 x103 x104 x105 x106 x107 x108 x109 x110 x111 x112 x113 x114 x115 x116 x117 x118 x119 x120 x121 x122 x123 x124 x125 x126 x127 x128 x129 x130 x131 x132 x133 x134 x135 x136 x137 x138 x139 : AV) : ∀ (k i : Nat) (j11 j66 j67 j68 j69 j70 j71 j72 j73 j74 j75 j76 j77 j78 j79 j80 j81 j82 j83 j84 j85 j86 j87 j88 j89 j90 j91 j92 j93 j94 j95 j96 j97 j98 j99 : AV),i + k = s.tb.length →
  Outs (LP1 l49x1 [x0,x1,x2,x3,x4,x5,.bool false,w,x8,.ptr q 0,.int .i64 (i : Int),j11,x12,x13,x14,x15,x16,x17,x18,x19,x20,x21,x22,x23,x24,x25,x26,x27,x28,x29,x30,x31,x32,x33,x34,x35,x36,x37,x38,x39,x40,x41,x42,x43,x44,x45,x46,x47,x48,x49,x50,x51,x52,x53,x54,x55,x56,x57,x58,x59,x60,x61,x62,x63,x64,x65,j66,j67,j68,j69,j70,j71,j72,j73,j74,j75,j76,j77,j78,j79,j80,j81,j82,j83,j84,j85,j86,j87,j88,j89,j90,j91,j92,j93,j94,j95,j96,j97,j98,j99,x100,x101,x102,x103,x104,x105,x106,x107,x108,x109,x110,x111,x112,x113,x114,x115,x116,x117,x118,x119,x120,x121,x122,x123,x124,x125,x126,x127,x128,x129,x130,x131,x132,x133,x134,x135,x136,x137,x138,x139] K) fun e t K'=>K' = K ∧ ∃ fv : Nat → AV,t = [x0,x1,x2,x3,x4,x5,(fv 6),w,x8,.ptr q 0,(fv 10),(fv 11),x12,x13,x14,x15,x16,x17,x18,x19,x20,x21,x22,x23,x24,x25,x26,x27,x28,x29,x30,x31,x32,x33,x34,x35,x36,x37,x38,x39,x40,x41,x42,x43,x44,x45,x46,x47,x48,x49,x50,x51,x52,x53,x54,x55,x56,x57,x58,x59,x60,x61,x62,x63,x64,x65,(fv 66),(fv 67),(fv 68),(fv 69),(fv 70),(fv 71),(fv 72),(fv 73),(fv 74),(fv 75),(fv 76),(fv 77),(fv 78),(fv 79),(fv 80),(fv 81),(fv 82),(fv 83),(fv 84),(fv 85),(fv 86),(fv 87),(fv 88),(fv 89),(fv 90),(fv 91),(fv 92),(fv 93),(fv 94),(fv 95),(fv 96),(fv 97),(fv 98),(fv 99),x100,x101,x102,x103,x104,x105,x106,x107,x108,x109,x110,x111,x112,x113,x114,x115,x116,x117,x118,x119,x120,x121,x122,x123,x124,x125,x126,x127,x128,x129,x130,x131,x132,x133,x134,x135,x136,x137,x138,x139] ∧ fv 6 = .bool false ∧ ((e = .exit 2 ∧ (s.tb.drop i).all (fun p=>Bt.hasS s.ch p.1 && !ats.contains p.2) = true) ∨ (e = .ret ∧ (s.tb.drop i).all (fun p=>Bt.hasS s.ch p.1 && !ats.contains p.2) = false)):=by
 intro k
 obtain ⟨L0,hL0⟩ : ∃ L,L = LP1 l49x1:=⟨_,rfl⟩
 have lo:=zAp hL0
 have wl:=pt.len
 have lt1:=ft.lt
 rw [← hL0]
 induction k with
 | zero =>
  intro i j11 j66 j67 j68 j69 j70 j71 j72 j73 j74 j75 j76 j77 j78 j79 j80 j81 j82 j83 j84 j85 j86 j87 j88 j89 j90 j91 j92 j93 j94 j95 j96 j97 j98 j99 hi
  obtain rfl : i = s.tb.length:=by omega
  have hd : decide ((s.tb.length : Int) < (s.tb.length : Int)) = false:=by simp
  rw [List.drop_length,lo]
  unfold l49x1
  simp -implicitDefEqProofs (maxSteps:=5000000) only [go_sem,simprocAttr,itr,itq,hq,wl,hd,zAg,zAb]
  exact exF2 rfl ⟨rfl,.inl (by first | rfl | trivial)⟩
 | succ k ih =>
  intro i j11 j66 j67 j68 j69 j70 j71 j72 j73 j74 j75 j76 j77 j78 j79 j80 j81 j82 j83 j84 j85 j86 j87 j88 j89 j90 j91 j92 j93 j94 j95 j96 j97 j98 j99 hi
  have hlt : i < s.tb.length:=by omega
  have hd : decide ((i : Int) < (s.tb.length : Int)) = true:=decide_eq_true (by omega)
  have e2 : IntKind.i64.wrap ((i : Int) + 1) = ((i + 1 : Nat) : Int):=by rw [zAk (by omega) (by omega)]; omega
  have hx:=List.getElem?_eq_getElem hlt
  have hpb:=hb _ (List.getElem_mem hlt)
  rw [List.drop_eq_getElem_cons hlt,List.all_cons]
  generalize s.tb[i] = p at *
  obtain ⟨b2,c2,_,ix2,hc2,r1,r2,_,_⟩:=pt.idx hx
  have eh:=Bt.hasR bc p.1 hpb
  have l0:=rgooL0 fs al hq pt ft hx (k:=ats.length) (j:=0)
  rw [show ((0 : Nat) : Int) = 0 from rfl,List.drop_zero] at l0
  rw [lo]
  unfold l49x1
  rcases hh : Bt.hasS s.ch p.1 with _ | _ <;> rw [hh] at eh
  ·simp -implicitDefEqProofs (maxSteps:=5000000) only [go_sem,simprocAttr,itr,itq,hq,wl,hd,ix2,hc2,r1,eh,zAj,zAb]
   exact exF2 rfl ⟨rfl,.inr (by first | rfl | trivial)⟩
  ·simp -implicitDefEqProofs (maxSteps:=5000000) only [go_sem,simprocAttr,itr,itq,zAi,hq,wl,hd,ix2,hc2,r1,eh]
   unfold LP1 at l0
   generalize (envL prog).loop (runC (envL prog) (l49x0 (envL prog))) = LL at l0 ⊢
   refine zAq (fun r=>seqR (seqR (zAt 3 (zAt 4 r)) _) _) (l0 _ _ _ _ _ _ _ _ _ _ _ _ _ _ _ _ _ _ _ _ _ _ _ _ _ _ _ _ _ _ _ _ _ _ _ _ _ _ _ _ _ _ _ _ _ _ _ _ _ _ _ _ _ _ _ _ _ _ _ _ _ _ _ _ _ _ _ _ _ _ _ _ _ _ _ _ _ _ _ _ _ _ _ _ _ _ _ _ _ _ _ _ _ _ _ _ _ _ _ _ _ _ _ _ _ _ _ _ _ _ _ _ _ _ _ _ _ _ _ _ _ _ _ _ _ _ _ _ _ _ _ _ _ _ _ (by omega)) ?_
   rintro e t K' ⟨rfl,fv,rfl,f6,⟨rfl,ho⟩ | ⟨rfl,ho⟩⟩
   ·rw [ho]
    simp -implicitDefEqProofs (maxSteps:=5000000) only [go_sem,simprocAttr,itr,itq,f6,e2]
    exact ih (i + 1) _ _ _ _ _ _ _ _ _ _ _ _ _ _ _ _ _ _ _ _ _ _ _ _ _ _ _ _ _ _ _ _ _ _ _ (by omega)
   ·rw [ho]
    simp -implicitDefEqProofs (maxSteps:=5000000) only [go_sem,simprocAttr,itr,itq,zAj,zAb]
    exact exF2 rfl ⟨f6,.inr (by first | rfl | trivial)⟩
end
section
variable {H : zAc} {s : SnS} {q : Nat} {vc vt : AV} (pt : IsP H vt s.tb) (ft : s.Fit)
include pt ft
set_option maxHeartbeats 4000000 in
theorem rgooL2 (x0 x1 x2 x3 x4 x5 x6 x8 x10 x11 x13 x14 x15 x16 x17 x18 x19 x20 x21 x22 x23 x24 x25 x26 x27 x28 x29 x30 x31 x32 x33 x34 x35 x36 x37 x38 x39 x40 x41 x42 x43 x44 x45 x46 x47 x48 x49 x50 x51 x52 x53 x54 x55 x56 x57 x58 x59 x60 x61 x62 x63 x64 x65 x66 x67 x68 x69 x70 x71 x72 x73 x74 x75 x76 x77 x78 x79 x80 x81 x82 x83 x84 x85 x86 x87 x88 x89 x90 x91 x92 x93 x94 x95 x96 x97 x98 x99 x116 x117 x118 x119 x120 x121 x122 x123 x124 x125 x126 x127 x128 x129 x130 x131 x132 x133 x134 x135 x136 x137 x138 x139 : AV) : ∀ (k i : Nat) (K : zAc) (w : AV) (ats : List Int) (j100 j101 j102 j103 j104 j105 j106 j107 j108 j109 j110 j111 j112 j113 j114 j115 : AV),Adds H K → FS K H.length w ats → cellsOf K q = some [.int .i64 s.id,vc,vt] → (∀ b,slb w = some b → b ≠ q) → ats.length ≤ 100000 + i → i + k = s.tb.length →
  Outs (LP1 l49x2 [x0,x1,x2,x3,x4,x5,x6,w,x8,.ptr q 0,x10,x11,.int .i64 (i : Int),x13,x14,x15,x16,x17,x18,x19,x20,x21,x22,x23,x24,x25,x26,x27,x28,x29,x30,x31,x32,x33,x34,x35,x36,x37,x38,x39,x40,x41,x42,x43,x44,x45,x46,x47,x48,x49,x50,x51,x52,x53,x54,x55,x56,x57,x58,x59,x60,x61,x62,x63,x64,x65,x66,x67,x68,x69,x70,x71,x72,x73,x74,x75,x76,x77,x78,x79,x80,x81,x82,x83,x84,x85,x86,x87,x88,x89,x90,x91,x92,x93,x94,x95,x96,x97,x98,x99,j100,j101,j102,j103,j104,j105,j106,j107,j108,j109,j110,j111,j112,j113,j114,j115,x116,x117,x118,x119,x120,x121,x122,x123,x124,x125,x126,x127,x128,x129,x130,x131,x132,x133,x134,x135,x136,x137,x138,x139] K) fun e t K'=>e = .exit 6 ∧ Adds H K' ∧ cellsOf K' q = some [.int .i64 s.id,vc,vt] ∧ ∃ fv : Nat → AV,t = [x0,x1,x2,x3,x4,x5,x6,(fv 7),x8,.ptr q 0,x10,x11,(fv 12),x13,x14,x15,x16,x17,x18,x19,x20,x21,x22,x23,x24,x25,x26,x27,x28,x29,x30,x31,x32,x33,x34,x35,x36,x37,x38,x39,x40,x41,x42,x43,x44,x45,x46,x47,x48,x49,x50,x51,x52,x53,x54,x55,x56,x57,x58,x59,x60,x61,x62,x63,x64,x65,x66,x67,x68,x69,x70,x71,x72,x73,x74,x75,x76,x77,x78,x79,x80,x81,x82,x83,x84,x85,x86,x87,x88,x89,x90,x91,x92,x93,x94,x95,x96,x97,x98,x99,(fv 100),(fv 101),(fv 102),(fv 103),(fv 104),(fv 105),(fv 106),(fv 107),(fv 108),(fv 109),(fv 110),(fv 111),(fv 112),(fv 113),(fv 114),(fv 115),x116,x117,x118,x119,x120,x121,x122,x123,x124,x125,x126,x127,x128,x129,x130,x131,x132,x133,x134,x135,x136,x137,x138,x139] ∧ FS K' H.length (fv 7) (ats ++ (s.tb.drop i).map (·.2)):=by
 intro k
 obtain ⟨L0,hL0⟩ : ∃ L,L = LP1 l49x2:=⟨_,rfl⟩
 have lo:=zAp hL0
 have wl:=pt.len
 have lt1:=ft.lt
 rw [← hL0]
 induction k with
 | zero =>
  intro i K w ats j100 j101 j102 j103 j104 j105 j106 j107 j108 j109 j110 j111 j112 j113 j114 j115 aK fs hq hne al hi
  obtain rfl : i = s.tb.length:=by omega
  have hd : decide ((s.tb.length : Int) < (s.tb.length : Int)) = false:=by simp
  rw [List.drop_length,lo]
  unfold l49x2
  simp -implicitDefEqProofs (maxSteps:=5000000) only [go_sem,simprocAttr,itr,itq,hq,wl,hd,zAg,zAb]
  exact ⟨aK,exF2 rfl fs⟩
 | succ k ih =>
  intro i K w ats j100 j101 j102 j103 j104 j105 j106 j107 j108 j109 j110 j111 j112 j113 j114 j115 aK fs hq hne al hi
  have hlt : i < s.tb.length:=by omega
  have hd : decide ((i : Int) < (s.tb.length : Int)) = true:=decide_eq_true (by omega)
  have e2 : IntKind.i64.wrap ((i : Int) + 1) = ((i + 1 : Nat) : Int):=by rw [zAk (by omega) (by omega)]; omega
  have hx:=List.getElem?_eq_getElem hlt
  rw [List.drop_eq_getElem_cons hlt,List.map_cons]
  generalize s.tb[i] = p at *
  obtain ⟨b2,c2,_,ix2,hc0,r1,r2,_,_⟩:=pt.idx hx
  have hc2:=aK.cells hc0
  obtain ⟨K2,hK2⟩ : ∃ K2,K2 = K ++ [ABlk.rw [.int .i64 p.2]]:=⟨_,rfl⟩
  have A2 : Adds K K2:=⟨_,hK2⟩
  have cs2 : cellsOf K2 K.length = some [.int .i64 p.2]:=by rw [hK2]; unfold cellsOf; simp
  obtain ⟨w',K3,ep,f3,fr3,sb3,l3⟩:=FS.push (fs.frT (Fr.adds A2 (fun _=>False)) fun _ _ h=>h) cs2 (by omega) (by have:=aK.len; have:=A2.len; omega)
  have a3 : Adds H K3:=fr3.old (aK.trans A2) fun b hb h=>by have:=(FS.out fs b h).1; omega
  have q3 : cellsOf K3 q = some [.int .i64 s.id,vc,vt]:=fr3.cells (A2.cells hq) fun h=>hne q h rfl
  have hK2:=hK2.symm
  have key:=ih (i + 1) K3 w' (ats ++ [p.2])
  rw [List.append_assoc,List.singleton_append] at key
  have lq : q < K.length:=zCc hq
  rw [lo]
  unfold l49x2
  simp -implicitDefEqProofs (maxSteps:=5000000) only [go_sem,simprocAttr,itr,itq,hq,wl,hd,ix2,hc2,r2,hK2,ep,e2]
  exact key _ _ _ _ _ _ _ _ _ _ _ _ _ _ _ _ a3 f3 q3 (fun b h=>by rw [sb3] at h; injection h with h; have:=A2.len; omega) (by rw [List.length_append,List.length_singleton]; omega) (by omega)
end
section
variable {K : zAc} {v : AV} {n i0 : Nat} (wv : zD3 v = some (.int .i64 (n : Int))) (hn : n ≤ 1000) (hi0 : i0 < n) {cl : AV} {cs : List Int} (hcl : IS K cl cs) (cn : cs.length ≤ 100000) {s : SnS} {q : Nat} {vc vt : AV} (hq : cellsOf K q = some [.int .i64 s.id,vc,vt]) (pt : IsP K vt s.tb) (ft : s.Fit)
include wv hn hi0 hcl cn hq pt ft
set_option maxHeartbeats 4000000 in
theorem rgooL3 (x1 x2 x3 x4 x5 x7 x10 x11 x12 x15 x16 x17 x18 x19 x20 x21 x22 x23 x24 x25 x26 x27 x28 x29 x30 x31 x32 x33 x34 x35 x36 x37 x38 x39 x40 x41 x42 x43 x44 x45 x46 x47 x48 x49 x50 x51 x52 x53 x54 x55 x56 x57 x58 x59 x60 x61 x62 x63 x64 x65 x66 x67 x68 x69 x70 x71 x72 x73 x74 x75 x76 x77 x78 x79 x80 x81 x82 x83 x84 x85 x86 x87 x88 x89 x90 x91 x92 x93 x94 x95 x96 x97 x98 x99 x100 x101 x102 x103 x104 x105 x106 x107 x108 x109 x110 x111 x112 x113 x114 x115 x116 x117 x118 : AV) : ∀ (k j : Nat) (j119 j120 j121 j122 j123 j124 j125 j126 j127 j128 j129 j130 j131 j132 j133 j134 j135 j136 j137 j138 j139 : AV),j + k = cs.length →
  Outs (LP1 l49x3 [v,x1,x2,x3,x4,x5,.bool false,x7,.int .i64 (i0 : Int),.ptr q 0,x10,x11,x12,cl,.int .i64 (j : Int),x15,x16,x17,x18,x19,x20,x21,x22,x23,x24,x25,x26,x27,x28,x29,x30,x31,x32,x33,x34,x35,x36,x37,x38,x39,x40,x41,x42,x43,x44,x45,x46,x47,x48,x49,x50,x51,x52,x53,x54,x55,x56,x57,x58,x59,x60,x61,x62,x63,x64,x65,x66,x67,x68,x69,x70,x71,x72,x73,x74,x75,x76,x77,x78,x79,x80,x81,x82,x83,x84,x85,x86,x87,x88,x89,x90,x91,x92,x93,x94,x95,x96,x97,x98,x99,x100,x101,x102,x103,x104,x105,x106,x107,x108,x109,x110,x111,x112,x113,x114,x115,x116,x117,x118,j119,j120,j121,j122,j123,j124,j125,j126,j127,j128,j129,j130,j131,j132,j133,j134,j135,j136,j137,j138,j139] K) fun e t K'=>K' = K ∧ ∃ fv : Nat → AV,t = [v,x1,x2,x3,x4,x5,(fv 6),x7,.int .i64 (i0 : Int),.ptr q 0,x10,x11,x12,cl,(fv 14),x15,x16,x17,x18,x19,x20,x21,x22,x23,x24,x25,x26,x27,x28,x29,x30,x31,x32,x33,x34,x35,x36,x37,x38,x39,x40,x41,x42,x43,x44,x45,x46,x47,x48,x49,x50,x51,x52,x53,x54,x55,x56,x57,x58,x59,x60,x61,x62,x63,x64,x65,x66,x67,x68,x69,x70,x71,x72,x73,x74,x75,x76,x77,x78,x79,x80,x81,x82,x83,x84,x85,x86,x87,x88,x89,x90,x91,x92,x93,x94,x95,x96,x97,x98,x99,x100,x101,x102,x103,x104,x105,x106,x107,x108,x109,x110,x111,x112,x113,x114,x115,x116,x117,x118,(fv 119),(fv 120),(fv 121),(fv 122),(fv 123),(fv 124),(fv 125),(fv 126),(fv 127),(fv 128),(fv 129),(fv 130),(fv 131),(fv 132),(fv 133),(fv 134),(fv 135),(fv 136),(fv 137),(fv 138),(fv 139)] ∧ fv 6 = .bool false ∧ ((e = .exit 8 ∧ (decide (n ≤ i0 + 1) || (cs.drop j).all (fun c=>decide (0 ≤ idxS s.tb c))) = true) ∨ (e = .ret ∧ (decide (n ≤ i0 + 1) || (cs.drop j).all (fun c=>decide (0 ≤ idxS s.tb c))) = false)):=by
 intro k
 obtain ⟨L0,hL0⟩ : ∃ L,L = LP1 l49x3:=⟨_,rfl⟩
 have lo:=zAp hL0
 have wl:=hcl.len
 have lt1:=ft.lt
 have e1 : IntKind.i64.wrap ((i0 : Int) + 1) = ((i0 + 1 : Nat) : Int):=by rw [zAk (by omega) (by omega)]; omega
 rw [← hL0]
 induction k with
 | zero =>
  intro j j119 j120 j121 j122 j123 j124 j125 j126 j127 j128 j129 j130 j131 j132 j133 j134 j135 j136 j137 j138 j139 hj
  obtain rfl : j = cs.length:=by omega
  have hd : decide ((cs.length : Int) < (cs.length : Int)) = false:=by simp
  rw [List.drop_length,List.all_nil,Bool.or_true,lo]
  unfold l49x3
  simp -implicitDefEqProofs (maxSteps:=5000000) only [go_sem,simprocAttr,itr,itq,wl,hd,zAg,zAb]
  exact exF2 rfl ⟨rfl,.inl (by first | rfl | trivial)⟩
 | succ k ih =>
  intro j j119 j120 j121 j122 j123 j124 j125 j126 j127 j128 j129 j130 j131 j132 j133 j134 j135 j136 j137 j138 j139 hj
  have hlt : j < cs.length:=by omega
  have hd : decide ((j : Int) < (cs.length : Int)) = true:=decide_eq_true (by omega)
  have e2 : IntKind.i64.wrap ((j : Int) + 1) = ((j + 1 : Nat) : Int):=by rw [zAk (by omega) (by omega)]; omega
  have hx:=List.getElem?_eq_getElem hlt
  rw [lo]
  unfold l49x3
  by_cases hl : n ≤ i0 + 1
  ·have dl : decide (((i0 + 1 : Nat) : Int) < (n : Int)) = false:=decide_eq_false (by omega)
   rw [decide_eq_true hl,Bool.true_or]
   simp -implicitDefEqProofs (maxSteps:=5000000) only [go_sem,simprocAttr,itr,itq,wl,hd,e1,wv,dl,zAg,zAb]
   exact exF2 rfl ⟨rfl,.inl (by first | rfl | trivial)⟩
  ·have dl : decide (((i0 + 1 : Nat) : Int) < (n : Int)) = true:=decide_eq_true (by omega)
   simp -zeta only [decide_eq_false hl,Bool.false_or] at ih
   rw [decide_eq_false hl,Bool.false_or]
   rw [List.drop_eq_getElem_cons hlt,List.all_cons]
   generalize cs[j] = c at *
   obtain ⟨a,ix,ld⟩:=hcl.idx hx .i64
   have ef:=rfindC pt (by omega) c
   by_cases h : idxS s.tb c < 0
   ·have dn:=decide_eq_true h
    rw [decide_eq_false (show ¬ 0 ≤ idxS s.tb c by omega)]
    simp -implicitDefEqProofs (maxSteps:=5000000) only [go_sem,simprocAttr,itr,itq,wl,hd,e1,wv,dl,hq,ix,ld,ef,dn,zAj,zAb]
    exact exF2 rfl ⟨rfl,.inr (by first | rfl | trivial)⟩
   ·have dn:=decide_eq_false h
    rw [decide_eq_true (show 0 ≤ idxS s.tb c by omega),Bool.true_and]
    simp -implicitDefEqProofs (maxSteps:=5000000) only [go_sem,simprocAttr,itr,itq,wl,hd,e1,wv,dl,hq,ix,ld,ef,dn,e2]
    exact ih (j + 1) _ _ _ _ _ _ _ _ _ _ _ _ _ _ _ _ _ _ _ _ _ (by omega)
end
end Go.Proofs.Ythgflkfhjnbheaa.G14
end
section
namespace Go.Proofs.Ythgflkfhjnbheaa.G14
open Go Go.Proofs.Ythgflkfhjnbheaa.Eng
theorem zTd {H : zAc} {v : AV} {L : List SnS} (g : IsC H v L) {i : Nat} {s : SnS} (h : L[i]? = some s) :
  ∃ b cs vc vt,zBj 3 v (.int .i64 (i : Int)) = some (.ptr b (i * 3)) ∧ cellsOf H b = some cs ∧ cs[i * 3]? = some (.int .i64 s.id) ∧ (cs.drop (i * 3)).take 3 = [.int .i64 s.id,vc,vt] ∧ i * 3 + 3 ≤ cs.length ∧ BS H vc s.ch ∧ IsP H vt s.tb:=by
 obtain ⟨b,cs,vc,vt,sb,ix,hc,h1,h2,h3,ht,hle,hb,hp⟩:=g.idx h
 exact ⟨b,cs,vc,vt,ix,hc,h1,ht,hle,hb,hp⟩
section
variable {H : zAc} {v : AV} {L : List SnS} (g : IsC H v L) {bl : Int} (ar : Int) (fi : ∀ s ∈ L,s.tb.length ≤ 9223372036854775807 ∧ (Bt.goodS s.ch bl = true → zEc s.tb bl ar = true → s.Fit)) (h8 : L.length ≤ 8) (hbl : bl ≤ 9223372036854775807)
include g fi h8 hbl
set_option maxHeartbeats 8000000 in
theorem rgooL4 (x3 x4 x5 x15 x16 x17 : AV) : ∀ (k i : Nat) (K : zAc) (w : AV) (ats : List Int) (j9 j10 j11 j12 j13 j14 j18 j19 j20 j21 j22 j23 j24 j25 j26 j27 j28 j29 j30 j31 j32 j33 j34 j35 j36 j37 j38 j39 j40 j41 j42 j43 j44 j45 j46 j47 j48 j49 j50 j51 j52 j53 j54 j55 j56 j57 j58 j59 j60 j61 j62 j63 j64 j65 j66 j67 j68 j69 j70 j71 j72 j73 j74 j75 j76 j77 j78 j79 j80 j81 j82 j83 j84 j85 j86 j87 j88 j89 j90 j91 j92 j93 j94 j95 j96 j97 j98 j99 j100 j101 j102 j103 j104 j105 j106 j107 j108 j109 j110 j111 j112 j113 j114 j115 j116 j117 j118 j119 j120 j121 j122 j123 j124 j125 j126 j127 j128 j129 j130 j131 j132 j133 j134 j135 j136 j137 j138 j139 : AV),Adds H K → FS K H.length w ats → ats.length ≤ 1000 * i → i + k = L.length →
  Outs (LP1 l49x4 [v,.int .i64 bl,.int .i64 ar,x3,x4,x5,.bool false,w,.int .i64 (i : Int),j9,j10,j11,j12,j13,j14,x15,x16,x17,j18,j19,j20,j21,j22,j23,j24,j25,j26,j27,j28,j29,j30,j31,j32,j33,j34,j35,j36,j37,j38,j39,j40,j41,j42,j43,j44,j45,j46,j47,j48,j49,j50,j51,j52,j53,j54,j55,j56,j57,j58,j59,j60,j61,j62,j63,j64,j65,j66,j67,j68,j69,j70,j71,j72,j73,j74,j75,j76,j77,j78,j79,j80,j81,j82,j83,j84,j85,j86,j87,j88,j89,j90,j91,j92,j93,j94,j95,j96,j97,j98,j99,j100,j101,j102,j103,j104,j105,j106,j107,j108,j109,j110,j111,j112,j113,j114,j115,j116,j117,j118,j119,j120,j121,j122,j123,j124,j125,j126,j127,j128,j129,j130,j131,j132,j133,j134,j135,j136,j137,j138,j139] K) fun e t K'=>Adds H K' ∧ ∃ fv : Nat → AV,t = [v,.int .i64 bl,.int .i64 ar,x3,x4,x5,(fv 6),(fv 7),(fv 8),(fv 9),(fv 10),(fv 11),(fv 12),(fv 13),(fv 14),x15,x16,x17,(fv 18),(fv 19),(fv 20),(fv 21),(fv 22),(fv 23),(fv 24),(fv 25),(fv 26),(fv 27),(fv 28),(fv 29),(fv 30),(fv 31),(fv 32),(fv 33),(fv 34),(fv 35),(fv 36),(fv 37),(fv 38),(fv 39),(fv 40),(fv 41),(fv 42),(fv 43),(fv 44),(fv 45),(fv 46),(fv 47),(fv 48),(fv 49),(fv 50),(fv 51),(fv 52),(fv 53),(fv 54),(fv 55),(fv 56),(fv 57),(fv 58),(fv 59),(fv 60),(fv 61),(fv 62),(fv 63),(fv 64),(fv 65),(fv 66),(fv 67),(fv 68),(fv 69),(fv 70),(fv 71),(fv 72),(fv 73),(fv 74),(fv 75),(fv 76),(fv 77),(fv 78),(fv 79),(fv 80),(fv 81),(fv 82),(fv 83),(fv 84),(fv 85),(fv 86),(fv 87),(fv 88),(fv 89),(fv 90),(fv 91),(fv 92),(fv 93),(fv 94),(fv 95),(fv 96),(fv 97),(fv 98),(fv 99),(fv 100),(fv 101),(fv 102),(fv 103),(fv 104),(fv 105),(fv 106),(fv 107),(fv 108),(fv 109),(fv 110),(fv 111),(fv 112),(fv 113),(fv 114),(fv 115),(fv 116),(fv 117),(fv 118),(fv 119),(fv 120),(fv 121),(fv 122),(fv 123),(fv 124),(fv 125),(fv 126),(fv 127),(fv 128),(fv 129),(fv 130),(fv 131),(fv 132),(fv 133),(fv 134),(fv 135),(fv 136),(fv 137),(fv 138),(fv 139)] ∧ fv 6 = .bool false ∧ ((e = .exit 0 ∧ zFi bl ar (L.drop i) (pvAt L i) ats = true) ∨ (e = .ret ∧ zFi bl ar (L.drop i) (pvAt L i) ats = false)):=by
 intro k
 obtain ⟨L0,hL0⟩ : ∃ L,L = LP1 l49x4:=⟨_,rfl⟩
 have lo:=zAp hL0
 have wl:=g.len
 rw [← hL0]
 induction k with
 | zero =>
  intro i K w ats j9 j10 j11 j12 j13 j14 j18 j19 j20 j21 j22 j23 j24 j25 j26 j27 j28 j29 j30 j31 j32 j33 j34 j35 j36 j37 j38 j39 j40 j41 j42 j43 j44 j45 j46 j47 j48 j49 j50 j51 j52 j53 j54 j55 j56 j57 j58 j59 j60 j61 j62 j63 j64 j65 j66 j67 j68 j69 j70 j71 j72 j73 j74 j75 j76 j77 j78 j79 j80 j81 j82 j83 j84 j85 j86 j87 j88 j89 j90 j91 j92 j93 j94 j95 j96 j97 j98 j99 j100 j101 j102 j103 j104 j105 j106 j107 j108 j109 j110 j111 j112 j113 j114 j115 j116 j117 j118 j119 j120 j121 j122 j123 j124 j125 j126 j127 j128 j129 j130 j131 j132 j133 j134 j135 j136 j137 j138 j139 aK fs al hi
  obtain rfl : i = L.length:=by omega
  have hd : decide ((L.length : Int) < (L.length : Int)) = false:=by simp
  rw [List.drop_length,lo]
  unfold l49x4
  simp -implicitDefEqProofs (maxSteps:=5000000) only [go_sem,simprocAttr,itr,itq,wl,hd,zAg,zAb]
  exact ⟨aK,exF2 rfl ⟨rfl,.inl (by first | rfl | trivial)⟩⟩
 | succ k ih =>
  intro i K w ats j9 j10 j11 j12 j13 j14 j18 j19 j20 j21 j22 j23 j24 j25 j26 j27 j28 j29 j30 j31 j32 j33 j34 j35 j36 j37 j38 j39 j40 j41 j42 j43 j44 j45 j46 j47 j48 j49 j50 j51 j52 j53 j54 j55 j56 j57 j58 j59 j60 j61 j62 j63 j64 j65 j66 j67 j68 j69 j70 j71 j72 j73 j74 j75 j76 j77 j78 j79 j80 j81 j82 j83 j84 j85 j86 j87 j88 j89 j90 j91 j92 j93 j94 j95 j96 j97 j98 j99 j100 j101 j102 j103 j104 j105 j106 j107 j108 j109 j110 j111 j112 j113 j114 j115 j116 j117 j118 j119 j120 j121 j122 j123 j124 j125 j126 j127 j128 j129 j130 j131 j132 j133 j134 j135 j136 j137 j138 j139 aK fs al hi
  have hlt : i < L.length:=by omega
  have hd : decide ((i : Int) < (L.length : Int)) = true:=decide_eq_true (by omega)
  have e2 : IntKind.i64.wrap ((i : Int) + 1) = ((i + 1 : Nat) : Int):=by rw [zAk (by omega) (by omega)]; omega
  have hx:=List.getElem?_eq_getElem hlt
  have fo:=fi _ (List.mem_of_getElem? hx)
  have hpv:=zF8 hx
  have hem : (L.drop (i + 1)).isEmpty = decide (L.length ≤ i + 1):=by
   by_cases h : L.length ≤ i + 1
   ·rw [decide_eq_true h,List.drop_eq_nil_of_le h]; rfl
   ·rw [decide_eq_false h]
    cases hq : L.drop (i + 1) with
    | nil=>have:=congrArg List.length hq; rw [List.length_drop] at this; simp at this; omega
    | cons _ _=>rfl
  rw [List.drop_eq_getElem_cons hlt]
  generalize L[i] = s at *
  obtain ⟨bb,cs,vc,vt,ix,hc0,h1,ht,hle,bc,pt⟩:=zTd g hx
  have hc:=aK.cells hc0
  have hcA:=fun {X} (a : Adds K X)=>a.cells hc
  obtain ⟨K1,hK1⟩ : ∃ K1,K1 = K ++ [ABlk.rw [.int .i64 s.id,vc,vt]]:=⟨_,rfl⟩
  have A1 : Adds K K1:=⟨_,hK1⟩
  have a1:=aK.trans A1
  have hc1:=hcA A1
  have cc:=bc.cell
  have ct:=pt.cell
  have cq : cellsOf K1 K.length = some [.int .i64 s.id,vc,vt]:=by rw [hK1]; unfold cellsOf; simp
  have bc1:=a1.bs bc
  have pt1:=pt.adds a1
  have eg:=Bt.goodR' bc1 bl
  have et:=rgoodC pt1 fo.1 bl ar
  have fs1 : FS K1 H.length w ats:=fs.frT (Fr.adds A1 (fun _=>False)) fun _ _ h=>h
  have hne : ∀ b,slb w = some b → b ≠ K.length:=fun b hb h=>by have:=(FS.out fs b hb).2; omega
  have hK1:=hK1.symm
  have wt:=pt.len
  rw [zFi,hem]
  have out : ∀ {x : Bool},x = false → (Adds H K1):=fun _=>a1
  have w1 : IntKind.i64.wrap ((i : Int) - 1) = (i : Int) - 1:=zAk (by omega) (by omega)
  rw [lo]
  unfold l49x4
  by_cases c1 : s.id < 1
  ·have d1:=decide_eq_true c1
   rw [decide_eq_false (show ¬ 1 ≤ s.id by omega),Bool.false_and]
   simp -implicitDefEqProofs (maxSteps:=5000000) only [go_sem,simprocAttr,itr,itq,wl,hd,ix,hc,ht,hle,zAe,cc.2,ct.2,hK1,cq,d1,zAj,zAb]
   exact ⟨a1,exF2 rfl ⟨rfl,.inr (by first | rfl | trivial)⟩⟩
  have d1:=decide_eq_false c1
  rw [decide_eq_true (show 1 ≤ s.id by omega),Bool.true_and]
  by_cases c2 : s.id > 1000000
  ·have d2:=decide_eq_true c2
   rw [decide_eq_false (show ¬ s.id ≤ 1000000 by omega),Bool.false_and]
   simp -implicitDefEqProofs (maxSteps:=5000000) only [go_sem,simprocAttr,itr,itq,wl,hd,ix,hc,ht,hle,zAe,cc.2,ct.2,hK1,cq,d1,d2,zAj,zAb]
   exact ⟨a1,exF2 rfl ⟨rfl,.inr (by first | rfl | trivial)⟩⟩
  have d2:=decide_eq_false c2
  rw [decide_eq_true (show s.id ≤ 1000000 by omega),Bool.true_and]
  have pvc : (i = 0 ∧ pvOk (pvAt L i) s.id = true) ∨ (∃ n x b2 c2,i = n + 1 ∧ zBj 3 v (.int .i64 (n : Int)) = some (.ptr b2 (n * 3)) ∧ cellsOf K1 b2 = some c2 ∧ c2[n * 3]? = some (.int .i64 x) ∧ pvOk (pvAt L i) s.id = decide (x < s.id)):=by
   cases i with
   | zero=>exact .inl ⟨rfl,rfl⟩
   | succ n =>
    have hn : n < L.length:=by omega
    have hy:=List.getElem?_eq_getElem hn
    obtain ⟨b2,c2,_,_,ix2,hcy,r1,_⟩:=zTd g hy
    exact .inr ⟨n,L[n].id,b2,c2,rfl,ix2,a1.cells hcy,r1,by rw [zF8 hy]; rfl⟩
  rcases pvc with ⟨hi0,pv0⟩ | ⟨n,x,b2,c2',hin,ix2,hc2,r2,pv1⟩
  ·rw [pv0,Bool.true_and]
   have dz : decide ((i : Int) > 0) = false:=decide_eq_false (by omega)
   rcases hg : Bt.goodS s.ch bl with _ | _ <;> rw [hg] at eg
   ·simp -implicitDefEqProofs (maxSteps:=5000000) only [go_sem,simprocAttr,itr,itq,wl,hd,ix,hc,ht,hle,zAe,cc.2,ct.2,hK1,cq,d1,d2,dz,eg,zAj,zAb]
    exact ⟨a1,exF2 rfl ⟨rfl,.inr (by first | rfl | trivial)⟩⟩
   rcases hg2 : zEc s.tb bl ar with _ | _ <;> rw [hg2] at et
   ·simp -implicitDefEqProofs (maxSteps:=5000000) only [go_sem,simprocAttr,itr,itq,wl,hd,ix,hc,ht,hle,zAe,cc.2,ct.2,hK1,cq,d1,d2,dz,eg,et,zAj,zAb]
    exact ⟨a1,exF2 rfl ⟨rfl,.inr (by first | rfl | trivial)⟩⟩
   have G:=zGg.1 hg2
   have ft:=fo.2 hg hg2
   have l1:=rgooL1 fs1 (by omega) cq bc1 pt1 ft (fun p hp=>by have:=(G.rng p hp).1; omega) (k:=s.tb.length) (i:=0)
   rw [show ((0 : Nat) : Int) = 0 from rfl,List.drop_zero] at l1
   rw [Bool.true_and,Bool.true_and]
   simp -implicitDefEqProofs (maxSteps:=5000000) only [go_sem,simprocAttr,itr,itq,zAi,wl,hd,ix,hc,ht,hle,zAe,cc.2,ct.2,hK1,cq,d1,d2,dz,eg,et]
   unfold LP1 at l1
   generalize (envL prog).loop (runC (envL prog) (l49x1 (envL prog))) = LL1 at l1 ⊢
   refine zAq (fun r=>seqR (seqR (zAt 1 (seqR (zAt 2 r) _)) _) _) (l1 _ _ _ _ _ _ _ _ _ _ _ _ _ _ _ _ _ _ _ _ _ _ _ _ _ _ _ _ _ _ _ _ _ _ _ _ _ _ _ _ _ _ _ _ _ _ _ _ _ _ _ _ _ _ _ _ _ _ _ _ _ _ _ _ _ _ _ _ _ _ _ _ _ _ _ _ _ _ _ _ _ _ _ _ _ _ _ _ _ _ _ _ _ _ _ _ _ _ _ _ _ _ _ _ _ _ _ _ _ _ _ _ _ _ _ _ _ _ _ _ _ _ _ _ _ _ _ _ _ _ _ _ _ _ _ _ (by omega)) ?_
   rintro e t K' ⟨rfl,fv,rfl,f6,⟨rfl,ho⟩ | ⟨rfl,ho⟩⟩
   ·rw [ho,Bool.true_and]
    have l2:=rgooL2 (H:=H) (q:=K.length) (vc:=vc) pt ft (k:=s.tb.length) (i:=0) (K:=K') (w:=w) (ats:=ats)
    rw [show ((0 : Nat) : Int) = 0 from rfl,List.drop_zero] at l2
    simp -implicitDefEqProofs (maxSteps:=5000000) only [go_sem,simprocAttr,itr,itq,zAi,f6]
    unfold LP1 at l2
    generalize (envL prog).loop (runC (envL prog) (l49x2 (envL prog))) = LL2 at l2 ⊢
    refine zAq (fun r=>seqR (seqR (zAt 1 (seqR (zAt 6 r) _)) _) _) (l2 _ _ _ _ _ _ _ _ _ _ _ _ _ _ _ _ _ _ _ _ _ _ _ _ _ _ _ _ _ _ _ _ _ _ _ _ _ _ _ _ _ _ _ _ _ _ _ _ _ _ _ _ _ _ _ _ _ _ _ _ _ _ _ _ _ _ _ _ _ _ _ _ _ _ _ _ _ _ _ _ _ _ _ _ _ _ _ _ _ _ _ _ _ _ _ _ _ _ _ _ _ _ _ _ _ _ _ _ _ _ _ _ _ _ _ _ _ _ _ _ _ _ _ _ _ _ _ _ _ _ _ _ _ _ _ _ _ a1 fs1 cq hne (by omega) (by omega)) ?_
    rintro e t K2 ⟨rfl,a2,cq2,fw,rfl,fs2⟩
    obtain ⟨cl,R,gr,ec⟩:=Bt.allR (a2.bs bc) (by have:=ft.lc; omega)
    obtain ⟨K3,hK3⟩ : ∃ K3,K3 = K2 ++ R:=⟨_,rfl⟩
    have A3 : Adds K2 K3:=⟨_,hK3⟩
    have isc : IS K3 cl (Bt.allS s.ch):=by rw [hK3]; exact Bt.Grown.is gr
    rw [← hK3] at ec
    have a3:=a2.trans A3
    have l3:=rgooL3 (n:=L.length) (i0:=i) wl (by omega) hlt isc (by have:=Bt.allS_len s.ch; have:=ft.lc; omega) (A3.cells cq2) (pt.adds a3) ft (k:=(Bt.allS s.ch).length) (j:=0)
    rw [show ((0 : Nat) : Int) = 0 from rfl,List.drop_zero] at l3
    simp -implicitDefEqProofs (maxSteps:=5000000) only [go_sem,simprocAttr,itr,itq,zAi,cq2,ec]
    unfold LP1 at l3
    generalize (envL prog).loop (runC (envL prog) (l49x3 (envL prog))) = LL3 at l3 ⊢
    refine zAq (fun r=>seqR (seqR (zAt 1 (zAt 8 r)) _) _) (l3 _ _ _ _ _ _ _ _ _ _ _ _ _ _ _ _ _ _ _ _ _ _ _ _ _ _ _ _ _ _ _ _ _ _ _ _ _ _ _ _ _ _ _ _ _ _ _ _ _ _ _ _ _ _ _ _ _ _ _ _ _ _ _ _ _ _ _ _ _ _ _ _ _ _ _ _ _ _ _ _ _ _ _ _ _ _ _ _ _ _ _ _ _ _ _ _ _ _ _ _ _ _ _ _ _ _ _ _ _ _ _ _ _ _ _ _ _ _ _ _ _ _ _ _ _ _ _ _ _ _ _ _ _ _ (by omega)) ?_
    rintro e t K4 ⟨rfl,fx,rfl,f6',⟨rfl,ho2⟩ | ⟨rfl,ho2⟩⟩
    ·rw [ho2,Bool.true_and]
     have key:=ih (i + 1) K4 (fw 7) (ats ++ s.tb.map (·.2))
     rw [hpv] at key
     simp -implicitDefEqProofs (maxSteps:=5000000) only [go_sem,simprocAttr,itr,itq,f6',e2]
     exact key _ _ _ _ _ _ _ _ _ _ _ _ _ _ _ _ _ _ _ _ _ _ _ _ _ _ _ _ _ _ _ _ _ _ _ _ _ _ _ _ _ _ _ _ _ _ _ _ _ _ _ _ _ _ _ _ _ _ _ _ _ _ _ _ _ _ _ _ _ _ _ _ _ _ _ _ _ _ _ _ _ _ _ _ _ _ _ _ _ _ _ _ _ _ _ _ _ _ _ _ _ _ _ _ _ _ _ _ _ _ _ _ _ _ _ _ _ _ _ _ _ _ _ _ _ _ _ _ a3 (fs2.frT (Fr.adds A3 (fun _=>False)) fun _ _ h=>h) (by rw [List.length_append,List.length_map]; have:=ft.lt; omega) (by omega)
    ·rw [ho2,Bool.false_and]
     simp -implicitDefEqProofs (maxSteps:=5000000) only [go_sem,simprocAttr,itr,itq,zAj,zAb]
     exact ⟨a3,exF2 rfl ⟨f6',.inr (by first | rfl | trivial)⟩⟩
   ·rw [ho,Bool.false_and]
    simp -implicitDefEqProofs (maxSteps:=5000000) only [go_sem,simprocAttr,itr,itq,zAj,zAb]
    exact ⟨a1,exF2 rfl ⟨f6,.inr (by first | rfl | trivial)⟩⟩
  ·have dz : decide ((i : Int) > 0) = true:=decide_eq_true (by omega)
   have il2 : IntKind.i64.wrap ((i : Int) - 1) = (n : Int):=by rw [w1]; omega
   rw [pv1]
   by_cases hle2 : s.id ≤ x
   ·have dl:=decide_eq_true hle2
    rw [decide_eq_false (show ¬ x < s.id by omega),Bool.false_and]
    simp -implicitDefEqProofs (maxSteps:=5000000) only [go_sem,simprocAttr,itr,itq,wl,hd,ix,hc,ht,hle,zAe,cc.2,ct.2,hK1,cq,d1,d2,dz,il2,ix2,hc2,r2,dl,zAj,zAb]
    exact ⟨a1,exF2 rfl ⟨rfl,.inr (by first | rfl | trivial)⟩⟩
   have dl:=decide_eq_false hle2
   rw [decide_eq_true (show x < s.id by omega),Bool.true_and]
   rcases hg : Bt.goodS s.ch bl with _ | _ <;> rw [hg] at eg
   ·simp -implicitDefEqProofs (maxSteps:=5000000) only [go_sem,simprocAttr,itr,itq,wl,hd,ix,hc,ht,hle,zAe,cc.2,ct.2,hK1,cq,d1,d2,dz,il2,ix2,hc2,r2,dl,eg,zAj,zAb]
    exact ⟨a1,exF2 rfl ⟨rfl,.inr (by first | rfl | trivial)⟩⟩
   rcases hg2 : zEc s.tb bl ar with _ | _ <;> rw [hg2] at et
   ·simp -implicitDefEqProofs (maxSteps:=5000000) only [go_sem,simprocAttr,itr,itq,wl,hd,ix,hc,ht,hle,zAe,cc.2,ct.2,hK1,cq,d1,d2,dz,il2,ix2,hc2,r2,dl,eg,et,zAj,zAb]
    exact ⟨a1,exF2 rfl ⟨rfl,.inr (by first | rfl | trivial)⟩⟩
   have G:=zGg.1 hg2
   have ft:=fo.2 hg hg2
   have l1:=rgooL1 fs1 (by omega) cq bc1 pt1 ft (fun p hp=>by have:=(G.rng p hp).1; omega) (k:=s.tb.length) (i:=0)
   rw [show ((0 : Nat) : Int) = 0 from rfl,List.drop_zero] at l1
   rw [Bool.true_and,Bool.true_and]
   simp -implicitDefEqProofs (maxSteps:=5000000) only [go_sem,simprocAttr,itr,itq,zAi,wl,hd,ix,hc,ht,hle,zAe,cc.2,ct.2,hK1,cq,d1,d2,dz,il2,ix2,hc2,r2,dl,eg,et]
   unfold LP1 at l1
   generalize (envL prog).loop (runC (envL prog) (l49x1 (envL prog))) = LL1 at l1 ⊢
   refine zAq (fun r=>seqR (seqR (zAt 1 (seqR (zAt 2 r) _)) _) _) (l1 _ _ _ _ _ _ _ _ _ _ _ _ _ _ _ _ _ _ _ _ _ _ _ _ _ _ _ _ _ _ _ _ _ _ _ _ _ _ _ _ _ _ _ _ _ _ _ _ _ _ _ _ _ _ _ _ _ _ _ _ _ _ _ _ _ _ _ _ _ _ _ _ _ _ _ _ _ _ _ _ _ _ _ _ _ _ _ _ _ _ _ _ _ _ _ _ _ _ _ _ _ _ _ _ _ _ _ _ _ _ _ _ _ _ _ _ _ _ _ _ _ _ _ _ _ _ _ _ _ _ _ _ _ _ _ _ (by omega)) ?_
   rintro e t K' ⟨rfl,fv,rfl,f6,⟨rfl,ho⟩ | ⟨rfl,ho⟩⟩
   ·rw [ho,Bool.true_and]
    have l2:=rgooL2 (H:=H) (q:=K.length) (vc:=vc) pt ft (k:=s.tb.length) (i:=0) (K:=K') (w:=w) (ats:=ats)
    rw [show ((0 : Nat) : Int) = 0 from rfl,List.drop_zero] at l2
    simp -implicitDefEqProofs (maxSteps:=5000000) only [go_sem,simprocAttr,itr,itq,zAi,f6]
    unfold LP1 at l2
    generalize (envL prog).loop (runC (envL prog) (l49x2 (envL prog))) = LL2 at l2 ⊢
    refine zAq (fun r=>seqR (seqR (zAt 1 (seqR (zAt 6 r) _)) _) _) (l2 _ _ _ _ _ _ _ _ _ _ _ _ _ _ _ _ _ _ _ _ _ _ _ _ _ _ _ _ _ _ _ _ _ _ _ _ _ _ _ _ _ _ _ _ _ _ _ _ _ _ _ _ _ _ _ _ _ _ _ _ _ _ _ _ _ _ _ _ _ _ _ _ _ _ _ _ _ _ _ _ _ _ _ _ _ _ _ _ _ _ _ _ _ _ _ _ _ _ _ _ _ _ _ _ _ _ _ _ _ _ _ _ _ _ _ _ _ _ _ _ _ _ _ _ _ _ _ _ _ _ _ _ _ _ _ _ _ a1 fs1 cq hne (by omega) (by omega)) ?_
    rintro e t K2 ⟨rfl,a2,cq2,fw,rfl,fs2⟩
    obtain ⟨cl,R,gr,ec⟩:=Bt.allR (a2.bs bc) (by have:=ft.lc; omega)
    obtain ⟨K3,hK3⟩ : ∃ K3,K3 = K2 ++ R:=⟨_,rfl⟩
    have A3 : Adds K2 K3:=⟨_,hK3⟩
    have isc : IS K3 cl (Bt.allS s.ch):=by rw [hK3]; exact Bt.Grown.is gr
    rw [← hK3] at ec
    have a3:=a2.trans A3
    have l3:=rgooL3 (n:=L.length) (i0:=i) wl (by omega) hlt isc (by have:=Bt.allS_len s.ch; have:=ft.lc; omega) (A3.cells cq2) (pt.adds a3) ft (k:=(Bt.allS s.ch).length) (j:=0)
    rw [show ((0 : Nat) : Int) = 0 from rfl,List.drop_zero] at l3
    simp -implicitDefEqProofs (maxSteps:=5000000) only [go_sem,simprocAttr,itr,itq,zAi,cq2,ec]
    unfold LP1 at l3
    generalize (envL prog).loop (runC (envL prog) (l49x3 (envL prog))) = LL3 at l3 ⊢
    refine zAq (fun r=>seqR (seqR (zAt 1 (zAt 8 r)) _) _) (l3 _ _ _ _ _ _ _ _ _ _ _ _ _ _ _ _ _ _ _ _ _ _ _ _ _ _ _ _ _ _ _ _ _ _ _ _ _ _ _ _ _ _ _ _ _ _ _ _ _ _ _ _ _ _ _ _ _ _ _ _ _ _ _ _ _ _ _ _ _ _ _ _ _ _ _ _ _ _ _ _ _ _ _ _ _ _ _ _ _ _ _ _ _ _ _ _ _ _ _ _ _ _ _ _ _ _ _ _ _ _ _ _ _ _ _ _ _ _ _ _ _ _ _ _ _ _ _ _ _ _ _ _ _ _ (by omega)) ?_
    rintro e t K4 ⟨rfl,fx,rfl,f6',⟨rfl,ho2⟩ | ⟨rfl,ho2⟩⟩
    ·rw [ho2,Bool.true_and]
     have key:=ih (i + 1) K4 (fw 7) (ats ++ s.tb.map (·.2))
     rw [hpv] at key
     simp -implicitDefEqProofs (maxSteps:=5000000) only [go_sem,simprocAttr,itr,itq,f6',e2]
     exact key _ _ _ _ _ _ _ _ _ _ _ _ _ _ _ _ _ _ _ _ _ _ _ _ _ _ _ _ _ _ _ _ _ _ _ _ _ _ _ _ _ _ _ _ _ _ _ _ _ _ _ _ _ _ _ _ _ _ _ _ _ _ _ _ _ _ _ _ _ _ _ _ _ _ _ _ _ _ _ _ _ _ _ _ _ _ _ _ _ _ _ _ _ _ _ _ _ _ _ _ _ _ _ _ _ _ _ _ _ _ _ _ _ _ _ _ _ _ _ _ _ _ _ _ _ _ _ _ a3 (fs2.frT (Fr.adds A3 (fun _=>False)) fun _ _ h=>h) (by rw [List.length_append,List.length_map]; have:=ft.lt; omega) (by omega)
    ·rw [ho2,Bool.false_and]
     simp -implicitDefEqProofs (maxSteps:=5000000) only [go_sem,simprocAttr,itr,itq,zAj,zAb]
     exact ⟨a3,exF2 rfl ⟨f6',.inr (by first | rfl | trivial)⟩⟩
   ·rw [ho,Bool.false_and]
    simp -implicitDefEqProofs (maxSteps:=5000000) only [go_sem,simprocAttr,itr,itq,zAj,zAb]
    exact ⟨a1,exF2 rfl ⟨f6,.inr (by first | rfl | trivial)⟩⟩
theorem rcgoodC : (envL prog).call 49 [v,.int .i64 bl,.int .i64 ar] H = some (.bool (zFi bl ar L none []),H):=by
 have wl:=g.len
 have d8 : decide ((L.length : Int) > 8) = false:=decide_eq_false (by omega)
 have l0:=rgooL4 g ar fi h8 hbl (k:=L.length) (i:=0) (K:=H) (w:=.nilSl) (ats:=[])
 rw [show ((0 : Nat) : Int) = 0 from rfl,List.drop_zero,show pvAt L 0 = none from rfl] at l0
 have key : Outs (runC (envL prog) (b49 (envL prog)) ([v,.int .i64 bl,.int .i64 ar] ++ List.replicate (140 - [v,AV.int .i64 bl,.int .i64 ar].length) .undef) H) fun e' t K=>Adds H K ∧ fin [.tmp 6] (some (e',t,K)) = some (.bool (zFi bl ar L none []),K):=by
  unfold b49
  generalize hQ : (fun (e' : Ex) (t : T) (K : zAc)=>Adds H K ∧ fin [.tmp 6] (some (e',t,K)) = some (AV.bool (zFi bl ar L none []),K)) = Q
  simp -implicitDefEqProofs (maxSteps:=5000000) only [go_sem,simprocAttr,itr,itq,zAi,wl,d8]
  unfold LP1 at l0
  generalize (envL prog).loop (runC (envL prog) (l49x4 (envL prog))) = L0 at l0 ⊢
  refine zAq (fun r=>seqR (zAt 0 r) _) (l0 _ _ _ _ _ _ _ _ _ _ _ _ _ _ _ _ _ _ _ _ _ _ _ _ _ _ _ _ _ _ _ _ _ _ _ _ _ _ _ _ _ _ _ _ _ _ _ _ _ _ _ _ _ _ _ _ _ _ _ _ _ _ _ _ _ _ _ _ _ _ _ _ _ _ _ _ _ _ _ _ _ _ _ _ _ _ _ _ _ _ _ _ _ _ _ _ _ _ _ _ _ _ _ _ _ _ _ _ _ _ _ _ _ _ _ _ _ _ _ _ _ _ _ _ _ _ _ _ _ _ _ _ _ _ (Adds.refl H) (.inl ⟨rfl,rfl⟩) (by simp) (by omega)) ?_
  rintro e t K ⟨aK,fv,rfl,f6,⟨rfl,ho⟩ | ⟨rfl,ho⟩⟩
  ·simp -implicitDefEqProofs (maxSteps:=5000000) only [go_sem,simprocAttr,zAb]
   subst hQ
   rw [ho]
   refine ⟨aK,?_⟩
   simp -implicitDefEqProofs (maxSteps:=5000000) only [go_sem,simprocAttr]
  ·simp -implicitDefEqProofs (maxSteps:=5000000) only [go_sem,simprocAttr,zAb]
   subst hQ
   rw [ho]
   refine ⟨aK,?_⟩
   simp -implicitDefEqProofs (maxSteps:=5000000) only [go_sem,simprocAttr,f6]
 obtain ⟨e',t,K,hr,aK,hf⟩:=key
 rw [c49,hr,hf]
 exact aK.trimS rfl
end
theorem rcgood {H : zAc} {v : AV} {L : List SnS} (g : IsC H v L) (fi : Fits L) {bl : Int} (hbl : bl ≤ 9223372036854775807) (ar : Int) : (envL prog).call 49 [v,.int .i64 bl,.int .i64 ar] H = some (.bool (zFc L bl ar),H):=by
 by_cases h8 : L.length ≤ 8
 ·rw [rcgoodC g ar (fun s hs=>⟨by have:=(fi.2 s hs).lt; omega,fun _ _=>fi.2 s hs⟩) h8 hbl,zHq bl ar L none [] fun s hs=>(fi.2 s hs).u8]
  unfold zFc; rw [decide_eq_true h8]; rfl
 ·have wl:=g.len
  have d8 : decide ((L.length : Int) > 8) = true:=decide_eq_true (by omega)
  have hs : zFc L bl ar = false:=by unfold zFc; rw [decide_eq_false h8]; rfl
  rw [hs,c49]
  unfold b49
  simp -implicitDefEqProofs (maxSteps:=5000000) only [go_sem,simprocAttr,itr,itq,wl,d8]
end Go.Proofs.Ythgflkfhjnbheaa.G14
end
section
namespace Go.Proofs.Ythgflkfhjnbheaa.G14
open Go Go.Proofs.Ythgflkfhjnbheaa.Eng
structure Fair (L : List SnS) : Prop where
 n : L.length ≤ 12
 u8 : ∀ s ∈ L,IsU8 s.ch
 lc : ∀ s ∈ L,s.ch.length ≤ 40
 lt : ∀ s ∈ L,s.tb.length ≤ 80
theorem zQh {L : List SnS} (h : zTu L = true) (hu : ∀ s ∈ L,IsU8 s.ch) : Fair L:=by
 unfold zTu at h
 rw [Bool.and_eq_true,List.all_eq_true,decide_eq_true_eq] at h
 have q:=fun s hs=>by
  have:=h.1 s hs
  rw [Bool.and_eq_true,decide_eq_true_eq,decide_eq_true_eq] at this
  exact this
 exact ⟨h.2,hu,fun s hs=>(q s hs).1,fun s hs=>(q s hs).2⟩
theorem Fair.fits {L : List SnS} (f : Fair L) : Fits L:=⟨by have:=f.n; omega,fun s hs=>⟨f.u8 s hs,by have:=f.lc s hs; omega,by have:=f.lt s hs; omega⟩⟩
end Go.Proofs.Ythgflkfhjnbheaa.G14
end
section
namespace Go.Proofs.Ythgflkfhjnbheaa.G14
open Go Go.Proofs.Ythgflkfhjnbheaa.Eng
structure OneC (bl ar : Int) (s : SnS) : Prop where
 u8 : IsU8 s.ch
 id : 1 ≤ s.id ∧ s.id ≤ 1000000
 ch : Bt.goodS s.ch bl = true
 tb : GoodL bl ar s.tb
 sub : ∀ p ∈ s.tb,Bt.hasS s.ch p.1 = true
def Full (s : SnS) : Prop:=∀ c,Bt.hasS s.ch c = true → 0 ≤ idxS s.tb c
def Apart (s u : SnS) : Prop:=∀ p ∈ s.tb,∀ q ∈ u.tb,p.2 ≠ q.2
structure GoodC (bl ar : Int) (L : List SnS) : Prop where
 one : ∀ s ∈ L,OneC bl ar s
 up : (L.map (·.id)).Pairwise (· < ·)
 ap : L.Pairwise Apart
 full : ∀ s ∈ L.dropLast,Full s
theorem full_all {s : SnS} : (Bt.allS s.ch).all (fun c=>decide (0 ≤ idxS s.tb c)) = true ↔ Full s:=by
 rw [List.all_eq_true]
 constructor
 ·intro h c hc; exact of_decide_eq_true (h c (zKd.2 hc))
 ·intro h c hc; exact decide_eq_true (h c (zKd.1 hc))
theorem zJo {bl ar : Int} : ∀ (L : List SnS) (pv : Option Int) (ats : List Int),(∀ s ∈ L,IsU8 s.ch) → (zCz bl ar L pv ats = true ↔ GoodC bl ar L ∧ (∀ q,pv = some q → ∀ s ∈ L,q < s.id) ∧ ∀ s ∈ L,∀ p ∈ s.tb,p.2 ∉ ats)
 | [],pv,ats,_=>by
  constructor
  ·intro _; exact ⟨⟨fun s h=>(by cases h),by simp,by simp,fun s h=>(by cases h)⟩,fun q _ s h=>(by cases h),fun s h=>(by cases h)⟩
  ·intro _; rfl
 | s :: L,pv,ats,hu=>by
  have ih:=zJo (bl:=bl) (ar:=ar) L (some s.id) (ats ++ s.tb.map (·.2)) fun s hs=>hu s (by simp [hs])
  rw [← zHq bl ar _ _ _ hu,zFi,zHq bl ar L _ _ fun s hs=>hu s (by simp [hs])]
  simp only [Bool.and_eq_true,decide_eq_true_eq,zGg]
  rw [ih]
  have hpv : pvOk pv s.id = true ↔ ∀ q,pv = some q → q < s.id:=by
   unfold pvOk
   cases pv with
   | none=>simp
   | some q=>simp
  have htb : s.tb.all (fun p=>Bt.hasS s.ch p.1 && !ats.contains p.2) = true ↔ (∀ p ∈ s.tb,Bt.hasS s.ch p.1 = true) ∧ ∀ p ∈ s.tb,p.2 ∉ ats:=by
   rw [List.all_eq_true]
   constructor
   ·intro h
    refine ⟨fun p hp=>?_,fun p hp=>?_⟩
    ·have:=h p hp; rw [Bool.and_eq_true] at this; exact this.1
    ·have:=h p hp; rw [Bool.and_eq_true,Bool.not_eq_true',← Bool.not_eq_true,List.contains_iff_mem] at this; exact this.2
   ·rintro ⟨h1,h2⟩ p hp
    rw [Bool.and_eq_true,Bool.not_eq_true',← Bool.not_eq_true,List.contains_iff_mem]
    exact ⟨h1 p hp,h2 p hp⟩
  rw [hpv,htb]
  have hfu : (L.isEmpty || (Bt.allS s.ch).all fun c=>decide (0 ≤ idxS s.tb c)) = true ↔ (L ≠ [] → Full s):=by
   rw [Bool.or_eq_true,full_all,List.isEmpty_iff]
   constructor
   ·rintro (h | h) h'
    ·exact absurd h h'
    ·exact h
   ·intro h
    by_cases e : L = []
    ·exact .inl e
    ·exact .inr (h e)
  rw [hfu]
  constructor
  ·rintro ⟨h1,h2,h3,h4,h5,⟨h6,h7⟩,h8,g,h9,h10⟩
   refine ⟨⟨fun x hx=>?_,?_,?_,fun x hx=>?_⟩,fun q hq x hx=>?_,fun x hx p hp=>?_⟩
   ·rcases List.mem_cons.1 hx with rfl | hx
    ·exact ⟨hu _ (by simp),⟨h1,h2⟩,h4,h5,h6⟩
    ·exact g.one x hx
   ·rw [List.map_cons,List.pairwise_cons]
    exact ⟨fun a ha=>by obtain ⟨u,hu,rfl⟩:=List.mem_map.1 ha; exact h9 _ rfl u hu,g.up⟩
   ·rw [List.pairwise_cons]
    exact ⟨fun u hu p hp q hq e=>h10 u hu q hq (by rw [← e]; exact List.mem_append_right _ (List.mem_map.2 ⟨p,hp,rfl⟩)),g.ap⟩
   ·cases L with
    | nil=>simp at hx
    | cons u L =>
     rw [List.dropLast_cons_of_ne_nil (by simp)] at hx
     rcases List.mem_cons.1 hx with rfl | hx
     ·exact h8 (by simp)
     ·exact g.full x hx
   ·rcases List.mem_cons.1 hx with rfl | hx
    ·exact h3 q hq
    ·have:=h3 q hq; have:=h9 _ rfl x hx; omega
   ·rcases List.mem_cons.1 hx with rfl | hx
    ·exact h7 p hp
    ·exact fun h=>h10 x hx p hp (List.mem_append_left _ h)
  ·rintro ⟨g,h1,h2⟩
   have o:=g.one s (by simp)
   have up:=g.up
   rw [List.map_cons,List.pairwise_cons] at up
   have ap:=g.ap
   rw [List.pairwise_cons] at ap
   refine ⟨o.id.1,o.id.2,fun q hq=>h1 q hq s (by simp),o.ch,o.tb,⟨o.sub,h2 s (by simp)⟩,fun hn=>g.full s (by rw [List.dropLast_cons_of_ne_nil hn]; simp),⟨fun x hx=>g.one x (by simp [hx]),up.2,ap.2,fun x hx=>?_⟩,fun q hq x hx=>?_,fun x hx p hp h=>?_⟩
   ·cases L with
    | nil=>simp at hx
    | cons u L=>exact g.full x (by rw [List.dropLast_cons_of_ne_nil (by simp)]; simp [hx])
   ·injection hq with hq; subst hq
    exact up.1 _ (List.mem_map.2 ⟨x,hx,rfl⟩)
   ·rcases List.mem_append.1 h with h | h
    ·exact h2 x (by simp [hx]) p hp h
    ·obtain ⟨q,hq,e⟩:=List.mem_map.1 h
     exact ap.1 x hx q hq p hp e
theorem zMp {bl ar : Int} {L : List SnS} (hu : ∀ s ∈ L,IsU8 s.ch) : zFc L bl ar = true ↔ L.length ≤ 8 ∧ GoodC bl ar L:=by
 unfold zFc
 rw [Bool.and_eq_true,decide_eq_true_eq,zJo L none [] hu]
 constructor
 ·rintro ⟨h,g,_⟩; exact ⟨h,g⟩
 ·rintro ⟨h,g⟩; exact ⟨h,g,fun q hq=>(by cases hq),fun s _ p _ hm=>(by cases hm)⟩
theorem zTn {zs : List Int} {k : Int} : Bt.goodS zs k = true ↔ zs.length = Bt.newN k ∧ ∀ j : Nat,Bt.hasS zs j = true → (j : Int) < k:=by
 unfold Bt.goodS
 rw [Bool.and_eq_true,decide_eq_true_eq,Bt.okF_iff]
 constructor
 ·rintro ⟨h1,h2⟩
  refine ⟨h1,fun j hj=>?_⟩
  by_cases hh : 8 * zs.length ≤ j
  ·rw [Bt.hasS_high hh] at hj; cases hj
  ·exact h2 j (by omega) (by omega) hj
 ·rintro ⟨h1,h2⟩; exact ⟨h1,fun j _ _ hj=>h2 j hj⟩
end Go.Proofs.Ythgflkfhjnbheaa.G14
end
section
namespace Go.Proofs.Ythgflkfhjnbheaa.G14.Gm
open Go Go.Proofs.Ythgflkfhjnbheaa.Eng
def btw (n a b : Int) : Bool:=decide (n ≥ a) && decide (n ≤ b)
theorem between (a b c : Int) (h : zAc) : (envL prog).call 65 [.int .i64 a,.int .i64 b,.int .i64 c] h = some (.bool (btw a b c),h):=by
 rw [c65]
 unfold b65 btw
 simp -implicitDefEqProofs (maxSteps:=5000000) only [go_sem,simprocAttr]
def geo (b s w a r : Int) : AV:=.agg [.int .i64 b,.int .i64 s,.int .i64 w,.int .i64 a,.int .i64 r]
def bytesW (b s w : Int) : Int:=IntKind.i64.wrap (IntKind.i64.wrap (IntKind.i64.wrap (10 + IntKind.i64.wrap (s * w)) + b) + IntKind.i64.wrap (8 * IntKind.i64.wrap (IntKind.i64.wrap (4 + IntKind.i64.wrap ((IntKind.i64.wrap (b + 7)).tdiv 8)) + b)))
theorem zPh (b s w a r : Int) (h : zAc) : (envL prog).call 62 [geo b s w a r] h = some (.int .i64 (bytesW b s w),h):=by
 rw [c62]
 unfold b62 geo bytesW
 simp -implicitDefEqProofs (maxSteps:=5000000) only [go_sem,simprocAttr]
theorem bytesR (b s w a r : Int) (h : zAc) : (envL prog).call 73 [geo b s w a r] h = some (.int .i64 (bytesW b s w),h):=by
 rw [c73]
 unfold b73 geo bytesW
 simp -implicitDefEqProofs (maxSteps:=5000000) only [go_sem,simprocAttr]
def zHg (n : Int) : Int:=bif decide (n < 1) then 0 else IntKind.i64.wrap (IntKind.i64.wrap ((IntKind.i64.wrap (n - 1)).tdiv 48) + 1)
theorem zT0 (n : Int) (h : zAc) : (envL prog).call 66 [.int .i64 n] h = some (.int .i64 (zHg n),h):=by
 rw [c66]
 unfold b66 zHg
 cases hn : decide (n < 1) <;> simp -implicitDefEqProofs (maxSteps:=5000000) only [go_sem,simprocAttr,hn]
theorem zO8 (n : Int) (h : zAc) : (envL prog).call 72 [.int .i64 n] h = some (.int .i64 (zHg n),h):=by
 rw [c72]
 unfold b72 zHg
 cases hn : decide (n < 1) <;> simp -implicitDefEqProofs (maxSteps:=5000000) only [go_sem,simprocAttr,hn]
def shapeB (b s w a : Int) : Bool:=btw b 1 64 && btw s 1 8 && btw w 1 4 && btw a 0 200
theorem shapeR (b s w a r : Int) (h : zAc) : (envL prog).call 71 [geo b s w a r] h = some (.bool (shapeB b s w a),h):=by
 rw [c71]
 unfold b71 geo shapeB btw
 simp -implicitDefEqProofs (maxSteps:=5000000) only [go_sem,simprocAttr,Bool.and_assoc]
def goodB (b s w a r : Int) : Bool:=shapeB b s w a && btw r (IntKind.i64.wrap (zHg (bytesW b s w) + 2)) 256
theorem goodL (b s w a r : Int) (h : zAc) : (envL prog).call 31 [geo b s w a r] h = some (.bool (goodB b s w a r),h):=by
 rw [c31]
 unfold b31 goodB shapeB
 have hb:=zPh b s w a r
 unfold geo at hb ⊢
 simp -implicitDefEqProofs (maxSteps:=5000000) only [go_sem,simprocAttr,between,hb,zT0]
 cases btw b 1 64 <;> cases btw s 1 8 <;> cases btw w 1 4 <;> cases btw a 0 200 <;> simp -implicitDefEqProofs (maxSteps:=5000000) only [go_sem,simprocAttr]
theorem goodR (b s w a r : Int) (h : zAc) : (envL prog).call 40 [geo b s w a r] h = some (.bool (goodB b s w a r),h):=by
 rw [c40]
 unfold b40 goodB btw
 have hs:=shapeR b s w a r
 have hb:=bytesR b s w a r
 unfold geo at hb hs ⊢
 simp -implicitDefEqProofs (maxSteps:=5000000) only [go_sem,simprocAttr,hs,hb,zO8,Bool.and_assoc]
 cases shapeB b s w a <;> simp -implicitDefEqProofs (maxSteps:=5000000) only [go_sem,simprocAttr,hs,hb,zO8]
def byB (b s w a r : Int) : Int:=bif goodB b s w a r then bytesW b s w else 0
theorem bytesG (b s w a r : Int) (h : zAc) : (envL prog).call 21 [geo b s w a r] h = some (.int .i64 (byB b s w a r),h):=by
 rw [c21]
 unfold b21 byB
 have h1:=goodL b s w a r
 have h2:=zPh b s w a r
 unfold geo at h1 h2 ⊢
 simp -implicitDefEqProofs (maxSteps:=5000000) only [go_sem,simprocAttr,h1,h2]
 cases goodB b s w a r <;> simp -implicitDefEqProofs (maxSteps:=5000000) only [go_sem,simprocAttr]
def at2 (r : Int) : Int:=IntKind.i64.wrap (2 + r)
def ofL (b s w a r : Int) : List AV:=bif goodB b s w a r then [.int .i64 (bytesW b s w),.int .i64 (zHg (bytesW b s w)),.int .i64 (IntKind.i64.wrap (s * w)),.int .i64 2,.int .i64 (at2 r),.int .i64 (IntKind.i64.wrap (at2 r + zHg (bytesW b s w))),.int .i64 (IntKind.i64.wrap (IntKind.i64.wrap (at2 r + zHg (bytesW b s w)) + IntKind.i64.wrap (s * w))),.int .i64 (IntKind.i64.wrap (b + a))]
 else [.int .i64 0,.int .i64 0,.int .i64 0,.int .i64 0,.int .i64 0,.int .i64 0,.int .i64 0,.int .i64 0]
theorem ofR (b s w a r : Int) (h : zAc) : (envL prog).call 41 [geo b s w a r] h = some (.agg (ofL b s w a r),h):=by
 rw [c41]
 unfold b41 ofL at2
 have h1:=goodR b s w a r
 have h2:=bytesR b s w a r
 unfold geo at h1 h2 ⊢
 rcases Bool.eq_false_or_eq_true (goodB b s w a r) with hg | hg
 ·rw [hg] at h1 ⊢
  simp -implicitDefEqProofs (maxSteps:=5000000) only [go_sem,simprocAttr,zBi,itr,itq,h1,h2,zO8]
 ·rw [hg] at h1 ⊢
  simp -implicitDefEqProofs (maxSteps:=5000000) only [go_sem,simprocAttr,zBi,itr,itq,h1,h2,zO8]
end Go.Proofs.Ythgflkfhjnbheaa.G14.Gm
end
section
namespace Go.Proofs.Ythgflkfhjnbheaa.G14.Pg
open Go Go.Proofs.Ythgflkfhjnbheaa.Eng
theorem shr8 (n : Int) (i : Nat) : binV .shr .none (.int .u64 (n / 256 ^ i)) (.int .u64 8) = some (.int .u64 (n / 256 ^ (i + 1))):=by
 show (if (8 : Int) < 0 then none else some (AV.int .u64 ((n / 256 ^ i).fdiv (2 ^ min (Int.toNat 8) 64)))) = _
 rw [if_neg (by omega),show ((2 : Int) ^ min (Int.toNat 8) 64) = 256 from rfl,Int.fdiv_eq_ediv_of_nonneg _ (by omega),div_pow']
noncomputable abbrev LP1 (l : Env → CT):=(envL prog).loop (runC (envL prog) (l (envL prog)))
def ByteY (y p : Nat) (n : Int) (k : Nat) (Y : Nat → zAc → Prop) : Prop :=
 ∀ i K,Y i K → i < k → K[p]? = some (.rw [.int .u64 (n / 256 ^ i)]) ∧ ∃ K',K'[p]? = some (.rw [.int .u64 (n / 256 ^ i)]) ∧ Y (i + 1) (K'.set p (.rw [.int .u64 (n / 256 ^ (i + 1))])) ∧ (envL prog).yield y [.int .u8 (n / 256 ^ i % 256)] K = some (.bool true,K')
set_option maxHeartbeats 2000000 in
theorem zPh {y p k : Nat} {n : Int} {Y : Nat → zAc → Prop} (hY : ByteY y p n k Y) (hk : k ≤ 4096) (x1 x3 : AV) : ∀ (m i : Nat) (K : zAc) (j6 j7 j8 j9 j10 j11 j12 j13 j14 : AV),Y i K → i + m = k →
  Outs (LP1 l89x0 [.yld y,x1,.ptr p 0,x3,.int .i64 (k : Int),.int .i64 (i : Int),j6,j7,j8,j9,j10,j11,j12,j13,j14] K) fun e t K'=>e = .exit 0 ∧ Y k K' ∧ ∃ fv : Nat → AV,t = [.yld y,x1,.ptr p 0,x3,.int .i64 (k : Int),(fv 5),(fv 6),(fv 7),(fv 8),(fv 9),(fv 10),(fv 11),(fv 12),(fv 13),(fv 14)]:=by
 intro m
 obtain ⟨L,hL⟩ : ∃ L,L = LP1 l89x0:=⟨_,rfl⟩
 have lo:=zAp hL
 rw [← hL]
 induction m with
 | zero =>
  intro i K j6 j7 j8 j9 j10 j11 j12 j13 j14 hK hi
  obtain rfl : i = k:=by omega
  have hd : decide ((i : Int) < (i : Int)) = false:=by simp
  rw [lo]
  unfold l89x0
  simp -implicitDefEqProofs (maxSteps:=5000000) only [go_sem,simprocAttr,hd,zAg,zAb]
  exact ⟨hK,exF rfl⟩
 | succ m ih =>
  intro i K j6 j7 j8 j9 j10 j11 j12 j13 j14 hK hi
  have hlt : i < k:=by omega
  have hd : decide ((i : Int) < (k : Int)) = true:=decide_eq_true (by omega)
  have e2 : IntKind.i64.wrap ((i : Int) + 1) = ((i + 1 : Nat) : Int):=by rw [zAk (by omega) (by omega)]; omega
  obtain ⟨hp,K',hp',hK',hy⟩:=hY i K hK hlt
  have cp:=zAl hp
  have cp':=zAl hp'
  have wr : zA3 K' p 0 [.int .u64 (n / 256 ^ (i + 1))] = some (K'.set p (.rw [.int .u64 (n / 256 ^ (i + 1))])):=by
   rw [zA2 hp',if_pos ⟨by simp,rfl⟩,zBw]; rfl
  rw [lo]
  unfold l89x0
  simp -implicitDefEqProofs (maxSteps:=5000000) only [go_sem,simprocAttr,hd,cp,cp',zOb,hy,zEb,shr8,zAx,wr,e2]
  exact ih (i + 1) _ _ _ _ _ _ _ _ _ _ hK' (by omega)
set_option maxHeartbeats 2000000 in
theorem bytesC {y p q k : Nat} {n : Int} {Y : Nat → zAc → Prop} (hY : ByteY y p n k Y) (hk : k ≤ 4096) {K : zAc} (hK : Y 0 K) (hq : cellsOf K q = some [.int .i64 (k : Int)]) :
  ∃ K',Y k K' ∧ (envL prog).call 89 [.yld y,.ptr q 0,.ptr p 0] K = trim K (some (.tup [],K')):=by
 have l0:=zPh hY hk (m:=k) (i:=0)
 rw [show ((0 : Nat) : Int) = 0 from rfl] at l0
 have o : Outs (runC (envL prog) (b89 (envL prog)) ([.yld y,.ptr q 0,.ptr p 0] ++ List.replicate (15 - [AV.yld y,.ptr q 0,.ptr p 0].length) .undef) K) fun e' t K'=>Y k K' ∧ fin [] (some (e',t,K')) = some (.tup [],K'):=by
  unfold b89
  generalize hQ : (fun (e' : Ex) (t : T) (K' : zAc)=>Y k K' ∧ fin [] (some (e',t,K')) = some (.tup [],K')) = Q
  simp -implicitDefEqProofs (maxSteps:=5000000) only [go_sem,simprocAttr,zAi,hq]
  unfold LP1 at l0
  generalize (envL prog).loop (runC (envL prog) (l89x0 (envL prog))) = L0 at l0 ⊢
  refine zAq (fun r=>zAt 0 r) (l0 _ _ _ _ _ _ _ _ _ _ _ _ hK (by omega)) ?_
  rintro e t H' ⟨rfl,hK',k,rfl⟩
  simp -implicitDefEqProofs (maxSteps:=5000000) only [go_sem,simprocAttr,zAb]
  subst hQ
  refine ⟨hK',?_⟩
  simp -implicitDefEqProofs (maxSteps:=5000000) only [go_sem,simprocAttr]
 obtain ⟨e',t,H',hr,hK',hf⟩:=o
 exact ⟨H',hK',by rw [c89,hr,hf]⟩
theorem bytes0 (n k : Int) (H : zAc) : (envL prog).call 64 [.int .u64 n,.int .i64 k] H = some (.fn 89 [.ptr (H.length + 1) 0,.ptr H.length 0],H ++ [.rw [.int .u64 n],.rw [.int .i64 k]]):=by
 rw [c64]
 unfold b64
 simp -implicitDefEqProofs (maxSteps:=5000000) only [go_sem,simprocAttr]
 exact zA6 (by simp [AV.under,zBc])
end Go.Proofs.Ythgflkfhjnbheaa.G14.Pg
end
