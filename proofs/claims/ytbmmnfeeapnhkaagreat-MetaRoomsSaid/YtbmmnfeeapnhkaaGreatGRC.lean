/- What the functions that the law reaches answer, for every argument. No condition but those in each statement. -/
import Derived.Test.YtbmmnfeeapnhkaaGreatGRB
import Derived.Test.YtbmmnfeeapnhkaaGreatE6
import Derived.Test.YtbmmnfeeapnhkaaGreatGRA
set_option linter.unusedSimpArgs false
set_option linter.unusedVariables false
set_option linter.unusedSectionVars false
set_option maxRecDepth 10000
section
namespace Go.Proofs.YtbmmnfeeapnhkaaGreat.G08
open Go Go.Proofs.YtbmmnfeeapnhkaaGreat.Eng
theorem under_bs {H : zAa} {v : AV} {z : List Int} (b : BS H v z) {n : Nat} (h : ∀ b,slb v = some b → b < n) : v.under n = true:=by
 rcases b with ⟨rfl,_⟩ | ⟨b,o,l,e,cs,rfl,_⟩
 ·rfl
 ·simp [AV.under]; exact h b rfl
theorem under_gr {k : Nat} {H : zAa} {B : Nat} {v : AV} {l : List (List AV)} (g : GR k H B v l) {n : Nat} (h : ∀ b,slb v = some b → b < n) : v.under n = true:=by
 rcases g with ⟨_,rfl⟩ | ⟨_,b,_,rfl,_⟩
 ·rfl
 ·simp [AV.under]; exact h b rfl
theorem MtS.Ok.carry {m : MtS} (o : m.Ok) : (zDl m).Ok :=
 ⟨o.g,o.bl,o.bu,by
  have N:=m.g.nm o.g
  have bl:=o.bl
  have hc:=N.hc; have hp:=N.hp
  show ((cutS m.b).length : Int) = m.g.pages
  rw [zCe]; unfold zB1; omega,zFg o.bu,by
  show 0 ≤ (m.gen + 1) % 4294967296 ∧ (m.gen + 1) % 4294967296 < 4294967296
  omega,by
  show 1 - m.place = 0 ∨ 1 - m.place = 1
  have:=o.place; omega,o.tail,o.next,by show (0 : Int) ≤ 0 ∧ (0 : Int) ≤ 100000; omega⟩
theorem MtS.Ok.fit {m : MtS} (o : m.Ok) : (zD2 m).Fit:=by
 have g:=o.carry.gen
 have t:=o.tail; have N:=m.g.nm o.g; have r:=N.hr
 exact ⟨fitG o.g,g,⟨t.1,by show m.tail < 65536; omega⟩,o.next⟩
theorem zYo {r : RgS} {m : MtS} {R1 R2 R3 R4 : RgS × Int} (h1 : R1 = opsS r (zEt m.g.home 0 (cutS m.b) m.home)) (h2 : R2 = R1.1.flush 0) (h3 : R3 = oneS R2.1 (some (1 - m.place,zC0 (zD2 m)))) (h4 : R4 = R3.1.flush 0) : opsS r (zAr m) = if R1.2 = 0 then (if R2.2 = 0 then (if R3.2 = 0 then R4 else R3) else R2) else R1:=by
 unfold zAr
 have e2 : oneS R1.1 none = R2:=h2.symm
 have e4 : oneS R3.1 none = R4:=h4.symm
 rw [zH8,← h1,zGn,zGn,zGz,e2,← h3,e4]
section
variable {q : RPl} {H : zAa} {n : Nat} {r : RgS} {F : Nat → Prop} (m : zA3 q H n r F) {mt : MtS} (ok : mt.Ok) {pm : Nat} {G : Nat → Prop} (c : MtH H pm q.p mt G) (d : ∀ b,G b → ¬ F b) (hn : n + 100 ≤ 1000000000)
include m ok c d hn
set_option maxHeartbeats 16000000 in
theorem carryC : ∃ n' H' F',n' ≤ n + 30 ∧ zA3 q H' n' (opsS r (zAr mt)).1 F' ∧
  (((opsS r (zAr mt)).2 = 0 ∧ zBm H (fun b=>F b ∨ b = pm) H' F' ∧ ∃ G',MtH H' pm q.p (zDl mt) G' ∧ (∀ b,G' b → G b ∨ H.length ≤ b) ∧ (∀ b,G' b → ¬ F' b)) ∨ ((opsS r (zAr mt)).2 ≠ 0 ∧ zBm H F H' F')) ∧
  (envL prog).call 72 [.ptr pm 0] H = some (.int .i64 (opsS r (zAr mt)).2,H'):=by
 obtain ⟨at0,seq0,vb,vh,mc⟩:=c
 have N:=mt.g.nm ok.g
 have Ny:=N.hy; have Np:=N.hp; have Nc:=N.hc
 have bl:=ok.bl
 obtain ⟨w,K0,a0,g0,ec⟩:=cutC mc.b mc.lb ok.bu (by omega)
 have L0:=a0.len
 have cl : (cutS mt.b).length ≤ 21:=by rw [zCe]; unfold zB1; omega
 have clh : (cutS mt.b).length = mt.home.length:=by have a : ((cutS mt.b).length : Int) = mt.g.pages:=ok.carry.hl; have:=ok.hl; omega
 have ll : lenSl w = some (.int .i64 ((cutS mt.b).length : Int)):=by have:=g0.len; rw [List.length_map] at this; exact this
 have m0 : zA3 q K0 n r F:=by obtain ⟨X,rfl⟩:=a0; exact m.adds X
 have s0 : zBm H F K0 F:=by obtain ⟨X,rfl⟩:=a0; exact zBm.adds _ _ _
 have nF : ∀ b,H.length ≤ b → ¬ F b:=fun b hb hf=>by have:=m.lt b hf; omega
 have np:=d _ mc.gp
 have wF : ∀ b,slb w = some b → ¬ F b:=fun b hb=>nF b (g0.out b hb).1
 have hF : ∀ b,slb vh = some b → ¬ F b:=fun b hb=>d b (mc.gh b hb).1
 have pl:=mc.lt _ mc.gp
 have kp:=zAj mc.blk
 have kp0:=a0.cells kp
 have gh0 : GR 48 K0 0 vh (mt.home.map u8s):=by obtain ⟨X,rfl⟩:=a0; exact mc.h.mono X
 have k9 : (zA9 q.p mt at0 seq0 vb vh)[9]? = some vb:=rfl
 have k8 : (zA9 q.p mt at0 seq0 vb vh)[8]? = some (.ptr q.p 0):=rfl
 have k5 : (zA9 q.p mt at0 seq0 vb vh)[5]? = some (.int .u32 mt.gen):=rfl
 have k11 : (zA9 q.p mt at0 seq0 vb vh)[11]? = some (.int .i64 mt.place):=rfl
 have k12 : (zA9 q.p mt at0 seq0 vb vh)[12]? = some (.int .i64 mt.tail):=rfl
 have k13 : (zA9 q.p mt at0 seq0 vb vh)[13]? = some (.int .u32 mt.next):=rfl
 have kg : (zA9 q.p mt at0 seq0 vb vh).take 5 = mt.g.cells:=rfl
 have kl : (zA9 q.p mt at0 seq0 vb vh).length = 15:=rfl
 have l1:=carryL m0 ok.g kp0 kl k8 (show (zA9 q.p mt at0 seq0 vb vh)[10]? = some vh from rfl) kg np g0 wF gh0 hF (zFg ok.bu) ok.hh clh (by omega) (by omega) (k:=(cutS mt.b).length) (i:=0) (K:=K0) (r':=r) (F':=F)
 rw [show ((0 : Nat) : Int) = 0 from rfl,List.drop_zero,List.drop_zero] at l1
 obtain ⟨R1,hR1⟩ : ∃ R,R = opsS r (zEt mt.g.home 0 (cutS mt.b) mt.home):=⟨_,rfl⟩
 obtain ⟨R2,hR2⟩ : ∃ R,R = R1.1.flush 0:=⟨_,rfl⟩
 obtain ⟨R3,hR3⟩ : ∃ R,R = oneS R2.1 (some (1 - mt.place,zC0 (zD2 mt))):=⟨_,rfl⟩
 obtain ⟨R4,hR4⟩ : ∃ R,R = R3.1.flush 0:=⟨_,rfl⟩
 have eR:=zYo hR1 hR2 hR3 hR4
 rw [← hR1] at l1
 have key : Outs (runC (envL prog) (b72 (envL prog)) ([.ptr pm 0] ++ List.replicate (122 - [AV.ptr pm 0].length) .undef) H) fun e' t K=>fin [.tmp 2] (some (e',t,K)) = some (.int .i64 (opsS r (zAr mt)).2,K) ∧ ∃ n' F',n' ≤ n + 30 ∧ zA3 q K n' (opsS r (zAr mt)).1 F' ∧
   (((opsS r (zAr mt)).2 ≠ 0 ∧ zBm H F K F') ∨ ((opsS r (zAr mt)).2 = 0 ∧ zBm H (fun b=>F b ∨ b = pm) K F' ∧ (∀ b,b < K0.length → ¬ F b → ¬ F' b) ∧ K0.length ≤ K.length ∧ Fr K0 K (fun b=>F b ∨ b = pm) ∧ K[pm]? = some (.rw (zA9 q.p (zDl mt) mt.tail mt.next vb w)))):=by
  unfold b72
  generalize hQ : (fun (e' : Ex) (t : T) (K : zAa)=>fin [.tmp 2] (some (e',t,K)) = some (.int .i64 (opsS r (zAr mt)).2,K) ∧ ∃ n' F',n' ≤ n + 30 ∧ zA3 q K n' (opsS r (zAr mt)).1 F' ∧
   (((opsS r (zAr mt)).2 ≠ 0 ∧ zBm H F K F') ∨ ((opsS r (zAr mt)).2 = 0 ∧ zBm H (fun b=>F b ∨ b = pm) K F' ∧ (∀ b,b < K0.length → ¬ F b → ¬ F' b) ∧ K0.length ≤ K.length ∧ Fr K0 K (fun b=>F b ∨ b = pm) ∧ K[pm]? = some (.rw (zA9 q.p (zDl mt) mt.tail mt.next vb w))))) = Q
  simp -implicitDefEqProofs (maxSteps:=5000000) only [go_sem,simprocAttr,itr,itq,zA6,kp,k9,ec,ll]
  unfold LP1 at l1
  generalize (envL prog).loop (runC (envL prog) (l72x0 (envL prog))) = LL at l1 ⊢
  refine zBo (fun r=>seqR (zBr 0 r) _) (l1 _ _ _ _ _ _ _ _ _ _ _ _ _ _ _ _ _ _ _ _ _ _ _ _ _ _ _ _ _ _ _ _ _ _ _ _ _ _ _ _ _ _ _ _ _ _ _ _ _ _ _ _ _ _ _ _ _ _ _ _ _ _ _ _ _ _ _ _ _ _ _ _ _ _ _ _ _ _ _ _ _ _ _ _ _ _ _ _ _ _ _ _ _ _ _ _ _ _ _ _ _ _ _ _ _ _ _ _ _ _ _ _ _ _ _ _ _ m0 (zBm.refl _ _) (by omega)) ?_
  rintro e t K1 ⟨n1,F1,m1,hn1,st1,fv,rfl,⟨rfl,h0⟩ | ⟨rfl,h6,h0⟩⟩
  rotate_left
  ·simp -implicitDefEqProofs (maxSteps:=5000000) only [go_sem,simprocAttr,itr,itq,zAc]
   subst hQ
   rw [eR,if_neg h0]
   refine ⟨?_,n1,F1,by omega,m1,.inl ⟨h0,s0.trans st1⟩⟩
   simp -implicitDefEqProofs (maxSteps:=5000000) only [go_sem,simprocAttr,h6]
  have kp1:=st1.1.cells kp0 np
  obtain ⟨K2,m2,st2,L2,ef2⟩:=zLe m1 0
  have ns1 : ∀ b,b < K0.length → ¬ F b → ¬ F1 b:=fun b hb hf h=>(st1.2 b h).elim hf fun h=>by omega
  have kp2:=st2.1.cells kp1 (ns1 _ (by omega) np)
  have kp2':=fun X : zAa=>zAy (x:=X) kp2
  obtain ⟨GC,hGC⟩ : ∃ GC,GC = mt.g.cells:=⟨_,rfl⟩
  obtain ⟨PC,hPC⟩ : ∃ PC,PC = (zD2 mt).cells:=⟨_,rfl⟩
  have fx : zHp [AV.int .i64 0,.int .i64 0,.int .i64 0,.int .i64 0,.int .i64 0,.int .u32 0,.int .i64 0,.int .u32 0] [(0,5,.agg GC),(5,1,.int .u32 (IntKind.u32.wrap (mt.gen + 1))),(6,1,.int .i64 mt.tail),(7,1,.int .u32 mt.next)] = some PC:=by
   rw [hGC,hPC]; rfl
  have wpl : IntKind.i64.wrap (1 - mt.place) = 1 - mt.place:=zAq (by have:=ok.place; omega) (by have:=ok.place; omega)
  have pcl : PC.length = 8:=by rw [hPC]; rfl
  have pca : PC.all AV.isCell = true:=by rw [hPC]; rfl
  have pct : PC.take 8 = PC:=List.take_of_length_le (by omega)
  have spx : zBp [AV.int .i64 0,.int .i64 0,.int .i64 0,.int .i64 0,.int .i64 0,.int .u32 0,.int .i64 0,.int .u32 0] 0 PC = PC:=by
   rw [zAs _ _ _ (by omega),List.drop_of_length_le (by simp [pcl])]; simp
  have fp:=ok.fit
  have es:=fun X=>zVd fp (K2 ++ X)
  obtain ⟨n4,K4,F4,hn4,m4,st4,ew⟩:=mputC (m2.adds [.rw PC]) (1 - mt.place) (zKd fp.gen) (show zEx (zEk (zD2 mt)).m (zEk (zD2 mt)).i = true from rfl) (by omega)
  have ew : (envL prog).call 58 [.ptr q.p 0,.int .i64 (1 - mt.place),.agg (zEk (zD2 mt)).cells] (K2 ++ [.rw PC]) = some (.int .i64 (opsS (R1.1.flush 0).1 [some (1 - mt.place,zC0 (zD2 mt))]).2,K4):=ew
  have m4 : zA3 q K4 n4 (opsS (R1.1.flush 0).1 [some (1 - mt.place,zC0 (zD2 mt))]).1 F4:=m4
  rw [zGz,← hR2,← hR3] at ew m4
  have L1:=st1.1.1; have L4:=st4.1.1
  simp only [List.length_append,List.length_cons,List.length_nil] at L4 hn4
  have s2 : zBm K0 F K2 F1:=st1.trans st2
  have s4 : zBm K0 F K4 F4:=(s2.trans (zBm.adds K2 [.rw PC] F1)).trans st4
  have ns4 : ∀ b,b < K0.length → ¬ F b → ¬ F4 b:=fun b hb hf h=>(s4.2 b h).elim hf fun h=>by omega
  have kp4:=s4.1.cells kp0 np
  have q4 : cellsOf K4 K2.length = some PC:=st4.1.cells (by unfold cellsOf; simp) (fun hf=>by have:=m2.lt _ hf; omega)
  obtain ⟨K5,m5,st5,L5,ef5⟩:=zLe m4 0
  have s5 : zBm K0 F K5 F4:=s4.trans st5
  have kp5:=s5.1.cells kp0 np
  have q5 : cellsOf K5 K2.length = some PC:=st5.1.cells q4 (fun hf=>(st4.2 _ hf).elim (fun h=>by have:=m2.lt _ h; omega) fun h=>by simp at h; omega)
  have b5 : K5[pm]? = some (.rw (zA9 q.p mt at0 seq0 vb vh)):=s5.1.at (a0.at mc.blk) np
  rw [← hR2] at ef2 m2
  rw [← hR4] at ef5 m5
  have lp5:=zAl b5
  have sS : ∀ C : List AV,cellsOf (K5.set pm (.rw C)) K2.length = some PC:=fun C=>(zBj _ _ _ _ (by omega)).trans q5
  have s2s : ∀ X Y : List AV,(K5.set pm (.rw X)).set pm (.rw Y) = K5.set pm (.rw Y):=fun X Y=>List.set_set ..
  have pS : ∀ C : List AV,cellsOf (K5.set pm (.rw C)) pm = some C:=fun C=>zAj (zA4 _ _ _ lp5)
  have wc:=g0.cells
  obtain ⟨C1,hC1⟩ : ∃ C,C = (zD2 mt).cells ++ [.ptr q.p 0,vb,vh,.int .i64 mt.place,.int .i64 mt.tail,.int .u32 mt.next,.int .i64 mt.used]:=⟨_,rfl⟩
  obtain ⟨C2,hC2⟩ : ∃ C,C = (zD2 mt).cells ++ [.ptr q.p 0,vb,vh,.int .i64 (1 - mt.place),.int .i64 mt.tail,.int .u32 mt.next,.int .i64 mt.used]:=⟨_,rfl⟩
  obtain ⟨C3,hC3⟩ : ∃ C,C = (zD2 mt).cells ++ [.ptr q.p 0,vb,vh,.int .i64 (1 - mt.place),.int .i64 mt.tail,.int .u32 mt.next,.int .i64 0]:=⟨_,rfl⟩
  obtain ⟨C4,hC4⟩ : ∃ C,C = zA9 q.p (zDl mt) mt.tail mt.next vb w:=⟨_,rfl⟩
  have w1 : zAz K5 pm 0 PC = some (K5.set pm (.rw C1)):=by
   rw [zAv b5,if_pos ⟨by rw [pcl]; show 0 + 8 ≤ 15; omega,pca⟩,zAs _ _ _ (by omega),pcl,hC1,hPC]; rfl
  have w2 : zAz (K5.set pm (.rw C1)) pm 11 [.int .i64 (1 - mt.place)] = some (K5.set pm (.rw C2)):=by
   rw [zAv (zA4 _ _ _ lp5),if_pos ⟨by rw [hC1]; show 11 + 1 ≤ 15; omega,rfl⟩,zAx,s2s,hC1,hC2]; rfl
  have w3 : zAz (K5.set pm (.rw C2)) pm 14 [.int .i64 0] = some (K5.set pm (.rw C3)):=by
   rw [zAv (zA4 _ _ _ lp5),if_pos ⟨by rw [hC2]; show 14 + 1 ≤ 15; omega,rfl⟩,zAx,s2s,hC2,hC3]; rfl
  have w4 : zAz (K5.set pm (.rw C3)) pm 10 [w] = some (K5.set pm (.rw C4)):=by
   rw [zAv (zA4 _ _ _ lp5),if_pos ⟨by rw [hC3]; show 10 + 1 ≤ 15; omega,by simp [wc.2]⟩,zAx,s2s,hC3,hC4]; rfl
  rw [← hGC] at kg
  have gcl : GC.length = 5:=by rw [hGC]; rfl
  rw [← hPC] at es
  generalize hMC : zA9 q.p mt at0 seq0 vb vh = MC at *
  generalize hSC : (zEk (zD2 mt)).cells = SC at *
  by_cases e2 : R2.2 = 0
  rotate_left
  ·have n2 : (R2.2 != 0) = true:=by simpa using e2
   simp -implicitDefEqProofs (maxSteps:=5000000) only [go_sem,simprocAttr,itr,itq,kp1,k8,ef2,n2,zAc]
   subst hQ
   rw [eR,if_pos h0,if_neg e2]
   refine ⟨?_,n1,F1,by omega,m2,.inl ⟨e2,s0.trans s2⟩⟩
   simp -implicitDefEqProofs (maxSteps:=5000000) only [go_sem,simprocAttr]
  have n2 : (R2.2 != 0) = false:=by rw [e2]; rfl
  by_cases e3 : R3.2 = 0
  rotate_left
  ·have n3 : (R3.2 != 0) = true:=by simpa using e3
   simp -implicitDefEqProofs (maxSteps:=5000000) only [go_sem,simprocAttr,itr,itq,kp1,k8,ef2,n2,kp2,kp2',kg,kl,gcl,k5,k11,k12,k13,fx,spx,pcl,pca,pct,wpl,es,ew,kp4,q4,n3,zAc]
   subst hQ
   rw [eR,if_pos h0,if_pos e2,if_neg e3]
   refine ⟨?_,n4,F4,by omega,m4,.inl ⟨e3,s0.trans s4⟩⟩
   simp -implicitDefEqProofs (maxSteps:=5000000) only [go_sem,simprocAttr]
  have n3 : (R3.2 != 0) = false:=by rw [e3]; rfl
  by_cases e4 : R4.2 = 0
  rotate_left
  ·have n4' : (R4.2 != 0) = true:=by simpa using e4
   simp -implicitDefEqProofs (maxSteps:=5000000) only [go_sem,simprocAttr,itr,itq,kp1,k8,ef2,n2,kp2,kp2',kg,kl,gcl,k5,k11,k12,k13,fx,spx,pcl,pca,pct,wpl,es,ew,kp4,q4,n3,ef5,n4',zAc]
   subst hQ
   rw [eR,if_pos h0,if_pos e2,if_pos e3]
   refine ⟨?_,n4,F4,by omega,m5,.inl ⟨e4,s0.trans s5⟩⟩
   simp -implicitDefEqProofs (maxSteps:=5000000) only [go_sem,simprocAttr]
  have n4' : (R4.2 != 0) = false:=by rw [e4]; rfl
  simp -implicitDefEqProofs (maxSteps:=5000000) only [go_sem,simprocAttr,itr,itq,kp1,k8,ef2,n2,kp2,kp2',kg,kl,gcl,k5,k11,k12,k13,fx,spx,pcl,pca,pct,wpl,es,ew,kp4,q4,n3,ef5,n4',kp5,q5,zAw,wc.1,w1,w2,w3,w4,sS,pS,zAc]
  subst hQ
  rw [eR,if_pos h0,if_pos e2,if_pos e3,e4]
  have fS : Fr K5 (K5.set pm (.rw C4)) (· = pm):=Fr.set _ _ rfl
  have mS : zA3 q (K5.set pm (.rw C4)) n4 R4.1 F4:=m5.fr fS fun b hb e=>ns4 pm (by omega) np (e ▸ hb)
  have fA : Fr K0 (K5.set pm (.rw C4)) (fun b=>F b ∨ b = pm):=(s5.1.mono fun b _ hb=>.inl hb).trans (fS.mono fun b _ hb=>.inr hb) fun _ _ h=>h
  refine ⟨?_,n4,F4,by omega,mS,.inr ⟨rfl,zBm.trans (F':=fun b=>F b ∨ b = pm) ⟨s0.1.mono fun b _ hb=>.inl hb,fun b hb=>.inl hb⟩ ⟨fA,fun b hb=>(s5.2 b hb).imp .inl id⟩,ns4,by simp; omega,fA,by rw [← hC4]; exact zA4 _ _ _ lp5⟩⟩
  simp -implicitDefEqProofs (maxSteps:=5000000) only [go_sem,simprocAttr]
 obtain ⟨e',t,K,hr,hf,n',F',hn',mK,⟨h0,sK⟩ | ⟨h0,sK,ns,lK,fK,bK⟩⟩:=key
 ·obtain ⟨H',F'',et,mt',st',_⟩:=m.trim mK sK (.int .i64 (opsS r (zAr mt)).2)
  exact ⟨_,H',F'',hn',mt',.inr ⟨h0,st'⟩,by rw [c72,hr,hf]; exact et⟩
 ·have wu : w.under H.length = false:=by
   rcases g0.under with ⟨h,_⟩ | h
   ·exfalso
    have:=congrArg List.length h
    rw [List.length_map,zCe] at this
    unfold zB1 at this
    simp at this
    omega
   ·exact h
  have et : trim H (some (AV.int .i64 (opsS r (zAr mt)).2,K)) = some (.int .i64 (opsS r (zAr mt)).2,K):=by
   refine zEb pm _ _ w mc.blk bK (by simp [ABlk.vals,zA9]) wu fun x hx=>?_
   have vu:=under_bs mc.b fun b hb=>mc.lt b (mc.gb b hb).1
   have hu:=under_gr mc.h fun b hb=>mc.lt b (mc.gh b hb).1
   have pu:=m.p_lt
   simp only [ABlk.vals,zA9,GmS.cells,List.cons_append,List.nil_append,List.mem_cons,List.not_mem_nil,or_false] at hx
   rcases hx with rfl | rfl | rfl | rfl | rfl | rfl | rfl | rfl | rfl | rfl | rfl | rfl | rfl | rfl | rfl
   all_goals first | rfl | exact vu | exact hu | simpa [AV.under] using pu
  have wb : ∀ b,slb w = some b → H.length ≤ b ∧ b < K0.length:=g0.out
  refine ⟨n',K,F',hn',mK,.inl ⟨h0,sK,fun b=>G b ∨ (H.length ≤ b ∧ b < K0.length),⟨mt.tail,mt.next,vb,w,⟨bK,?_,mc.lb,?_,.inl mc.gp,?_,?_,?_⟩⟩,?_,?_⟩,?_⟩
  ·exact (a0.bs mc.b).fr fK fun b hb h=>h.elim (d b (mc.gb b hb).1) (mc.gb b hb).2
  ·exact (g0.low (Nat.zero_le _)).frS fK fun b hb h=>by
    have:=wb b hb
    rcases h with h | h
    ·exact nF b this.1 h
    ·omega
  ·exact fun b hb=>⟨.inl (mc.gb b hb).1,(mc.gb b hb).2⟩
  ·exact fun b hb=>by have:=wb b hb; exact ⟨.inr this,by omega⟩
  ·exact fun b hb=>hb.elim (fun h=>by have:=mc.lt b h; omega) fun h=>by omega
  ·exact fun b hb=>hb.imp id fun h=>h.1
  ·exact fun b hb=>hb.elim (fun h=>ns b (by have:=mc.lt b h; omega) (d b h)) fun h=>ns b h.2 (nF b h.1)
  ·rw [c72,hr,hf]; exact et
end
end Go.Proofs.YtbmmnfeeapnhkaaGreat.G08
end
section
namespace Go.Proofs.YtbmmnfeeapnhkaaGreat.G08
open Go Go.Proofs.YtbmmnfeeapnhkaaGreat.Eng
theorem mt_vals {p : Nat} {m : MtS} {a0 s0 : Int} {vb vh a : AV} (h : a ∈ zA9 p m a0 s0 vb vh) {x : Nat} (hx : slb a = some x) : slb vb = some x ∨ slb vh = some x:=by
 simp only [zA9,GmS.cells,List.cons_append,List.nil_append,List.mem_cons,List.not_mem_nil,or_false] at h
 rcases h with rfl | rfl | rfl | rfl | rfl | rfl | rfl | rfl | rfl | rfl | rfl | rfl | rfl | rfl | rfl
 all_goals first | exact .inl hx | exact .inr hx | cases hx
theorem MtC.slb_lt {H : zAa} {pm p : Nat} {m : MtS} {a0 s0 : Int} {vb vh : AV} {G : Nat → Prop} (c : MtC H pm p m a0 s0 vb vh G) : ∀ k,H[pm]? = some k → ∀ a ∈ k.vals,∀ x,slb a = some x → x < H.length:=fun k hk a ha x hx=>by
 rw [c.blk] at hk; injection hk with hk
 rw [← hk] at ha
 rcases mt_vals ha hx with h | h
 ·exact c.lt _ (c.gb _ h).1
 ·exact c.lt _ (c.gh _ h).1
theorem bs_same {H H' : zAa} {v : AV} {z : List Int} (b : BS H v z) (e : ∀ b,slb v = some b → H'[b]? = H[b]?) : BS H' v z:=by
 rcases b with h | ⟨b,o,l,x,cs,rfl,hc,h⟩
 ·exact .inl h
 ·exact .inr ⟨b,o,l,x,cs,rfl,(zDv (e b rfl)).trans hc,h⟩
structure MStep (q : RPl) (pm : Nat) (H : zAa) (F G : Nat → Prop) (H' : zAa) (n' : Nat) (r' : RgS) (F' : Nat → Prop) (mt' : MtS) (G' : Nat → Prop) : Prop where
 m : zA3 q H' n' r' F'
 c : MtH H' pm q.p mt' G'
 fr : Fr H H' (fun b=>F b ∨ b = pm)
 hF : ∀ b,F' b → F b ∨ H.length ≤ b
 hG : ∀ b,G' b → G b ∨ H.length ≤ b
 d : ∀ b,G' b → ¬ F' b
theorem MStep.trim {q : RPl} {pm c0 n' : Nat} {r0 r' : RgS} {H K : zAa} {F G F' G' : Nat → Prop} {mt mt' : MtS} (m0 : zA3 q H c0 r0 F) (g0 : MtH H pm q.p mt G) (s : MStep q pm H F G K n' r' F' mt' G') (v : AV) : ∃ H' F'' G'',trim H (some (v,K)) = some (v,H') ∧ MStep q pm H F G H' n' r' F'' mt' G'':=by
 rcases zKc H v K with ⟨t,e⟩ | e
 ·obtain ⟨A0,A1,m0,_,_⟩:=m0
  obtain ⟨m,c,fr,hF,hG,d⟩:=s
  obtain ⟨L0,L1,m,h1,h2⟩:=m
  have lt : ∀ b,q.fp L0 L1 b → b < H.length:=fun b hb=>by
   rcases hb with rfl | (rfl | rfl | hb) | (rfl | rfl | hb)
   ·exact zAl m0.blk
   ·exact zBn m0.k0.ptr
   ·exact zAl m0.k0.blk
   ·exact zRj t m0.k0.blk m0.k0.vs m.k0.blk hb
   ·exact zBn m0.k1.ptr
   ·exact zAl m0.k1.blk
   ·exact zRj t m0.k1.blk m0.k1.vs m.k1.blk hb
  have hl : (K.take H.length).length = H.length:=by rw [List.length_take]; have:=t.1; omega
  obtain ⟨_,_,_,_,g0⟩:=g0
  obtain ⟨a1,s1,vb,vh,c⟩:=c
  have pl:=g0.lt _ g0.gp
  have tb:=zRn t pl c.blk (a:=vb) (by simp [zA9]) g0.slb_lt
  have th:=zRn t pl c.blk (a:=vh) (by simp [zA9]) g0.slb_lt
  refine ⟨K.take H.length,fun b=>F' b ∧ b < H.length,fun b=>G' b ∧ b < H.length,e,⟨⟨L0,L1,⟨?_,?_,?_,m.e0,m.e1,m.dis,m.n0,m.n1⟩,fun b hb=>⟨h1 b hb,lt b hb⟩,fun b hb=>by rw [hl]; exact hb.2⟩,⟨a1,s1,vb,vh,?_⟩,?_,fun b hb=>hF b hb.1,fun b hb=>hG b hb.1,fun b hb h=>d b hb.1 h.1⟩⟩
  ·exact (zEp (lt _ (.inl rfl))).trans m.blk
  ·exact m.k0.same fun b hb=>zEp (lt b (.inr (.inl hb)))
  ·exact m.k1.same fun b hb=>zEp (lt b (.inr (.inr hb)))
  ·exact ⟨(zEp pl).trans c.blk,bs_same c.b fun b hb=>zEp (tb b hb),c.lb,c.h.same fun b hb=>zEp (th b hb),⟨c.gp,pl⟩,fun b hb=>⟨⟨(c.gb b hb).1,tb b hb⟩,(c.gb b hb).2⟩,fun b hb=>⟨⟨(c.gh b hb).1,th b hb⟩,(c.gh b hb).2⟩,fun b hb=>by rw [hl]; exact hb.2⟩
  ·exact ⟨by omega,fun b hb hn=>(zEp hb).trans (fr.2 b hb hn)⟩
 ·exact ⟨K,F',G',e,s⟩
theorem zSk : ∀ (l m : List (List Int)) (i : Int),0 ≤ i → i + m.length ≤ 65536 → (∀ y ∈ m,B48 y) → ∀ x ∈ zF6 i l m,ImOk x
 | [],_,_,_,_,_=>fun x hx=>by cases hx
 | _ :: _,[],_,_,_,_=>fun x hx=>by cases hx
 | a :: l,b :: m,i,h0,h1,h=>fun x hx=>by
  have hx : x ∈ (if b = a then [] else [(⟨i,b⟩ : ImS)]) ++ zF6 (i + 1) l m:=hx
  simp only [List.length_cons] at h1
  rcases List.mem_append.1 hx with hx | hx
  ·split at hx
   ·cases hx
   ·rw [List.mem_singleton.1 hx]; exact ⟨h0,by show i ≤ 65535; omega,h b (by simp)⟩
  ·exact zSk l m (i + 1) (by omega) (by omega) (fun y hy=>h y (by simp [hy])) x hx
theorem zJ5 {was now : List Int} (hu : IsU8 now) (hn : now.length ≤ 100000) : (∀ x ∈ zBl was now,ImOk x) ∧ (zBl was now).length ≤ zB1 now.length:=by
 refine ⟨zSk _ _ 0 (Int.le_refl 0) ?_ (zFg hu),by unfold zBl; rw [← zCe]; exact zK9 _ _ _⟩
 rw [zCe]; unfold zB1; omega
theorem roomC2 {H : zAa} {pm p : Nat} {m : MtS} {a0 s0 : Int} {vb vh : AV} (kp : cellsOf H pm = some (zA9 p m a0 s0 vb vh)) (ok : m.Ok) : (envL prog).call 29 [.ptr pm 0] H = some (.int .i64 m.room,H):=by
 have k4 : (zA9 p m a0 s0 vb vh)[4]? = some (.int .i64 m.g.r):=rfl
 have k14 : (zA9 p m a0 s0 vb vh)[14]? = some (.int .i64 m.used):=rfl
 have N:=m.g.nm ok.g; have hr:=N.hr; have hu:=ok.used; have hp:=N.hp
 have w : IntKind.i64.wrap (m.g.r - m.used) = m.room:=zAq (by omega) (by omega)
 generalize zA9 p m a0 s0 vb vh = MC at *
 rw [c29]
 unfold b29
 simp -implicitDefEqProofs (maxSteps:=5000000) only [go_sem,simprocAttr,itr,itq,kp,k4,k14,w]
end Go.Proofs.YtbmmnfeeapnhkaaGreat.G08
end
section
namespace Go.Proofs.YtbmmnfeeapnhkaaGreat.G08
open Go Go.Proofs.YtbmmnfeeapnhkaaGreat.Eng
theorem zP8 {r : RgS} {f c a s : Int} {l : List ImS} (h : (zBu r f c a s l).2.2 = 0) : (zBu r f c a s l).2.1 = (a + (l.length : Int) + 1).tmod c ∧ (l.length : Int) ≤ c - 1:=by
 unfold zBu at h ⊢
 split at h
 ·rename_i h1
  rw [if_pos h1]
  split at h
  ·rename_i h2
   rw [if_pos h2]
   split at h
   ·rename_i h3
    rw [if_pos h3]
    split at h
    ·rename_i h4
     rw [if_pos h4]
     split at h
     ·rename_i h5
      rw [if_pos h5]
      split at h
      ·rename_i h6
       rw [if_pos h6]
       split at h
       ·rename_i h7
        rw [if_pos h7]
        exact ⟨rfl,h2.2⟩
       ·rename_i h7; exact absurd h h7
      ·rename_i h6; exact absurd h h6
     ·rename_i h5; exact absurd h h5
    ·rename_i h4; exact absurd h h4
   ·cases h
  ·cases h
 ·cases h
theorem zMw {r : RgS} {m : MtS} (o : m.Ok) {b : List Int} {l : List ImS} (hb : b.length = m.b.length) (hu : IsU8 b) (hl : m.used + (l.length : Int) + 1 ≤ 100000) : (zCy r m b l).2.1.Ok:=by
 unfold zCy
 split
 ·rename_i h
  obtain ⟨ht,_⟩:=zP8 h
  have N:=m.g.nm o.g
  have hr:=N.hr; have hp:=N.hp; have t:=o.tail; have us:=o.used
  refine ⟨o.g,?_,hu,o.hl,o.hh,o.gen,o.place,?_,?_,?_⟩
  ·show (b.length : Int) = m.g.bytes
   rw [hb]; exact o.bl
  ·show 0 ≤ (zBu r 2 m.g.r m.tail m.next l).2.1 ∧ (zBu r 2 m.g.r m.tail m.next l).2.1 < m.g.r
   rw [ht]
   exact ⟨Int.tmod_nonneg _ (by omega),Int.tmod_lt_of_pos _ (by omega)⟩
  ·show 0 ≤ (m.next + 1) % 4294967296 ∧ (m.next + 1) % 4294967296 < 4294967296
   omega
  ·show 0 ≤ m.used + (l.length : Int) + 1 ∧ m.used + (l.length : Int) + 1 ≤ 100000
   omega
 ·exact o
theorem zT6 {r : RgS} {m : MtS} (o : m.Ok) {b : List Int} (hu : IsU8 b) : (zBi r m b).2.1.Ok:=by
 have N:=m.g.nm o.g
 have hr:=N.hr; have hp:=N.hp; have us:=o.used; have bl:=o.bl; have hy:=N.hy
 unfold zBi
 split
 ·rename_i hb
  have dl:=(zJ5 (was:=m.b) (now:=b) hu (by omega)).2
  unfold zB1 at dl
  split
  ·exact o
  ·split
   ·split
    ·exact zMw o.carry hb hu (by show 0 + ((zBl m.b b).length : Int) + 1 ≤ 100000; omega)
    ·exact o
   ·rename_i h
    unfold MtS.room at h
    exact zMw o hb hu (by omega)
 ·exact o
section
variable {q : RPl} {pm n2 : Nat} {r2 : RgS} {H K2 : zAa} {F G F2 G2 : Nat → Prop} {mt2 : MtS} (s : MStep q pm H F G K2 n2 r2 F2 mt2 G2) (ok : mt2.Ok) (hn : n2 + 100 ≤ 1000000000) (pH : pm < H.length)
 {B : Nat} {v : AV} {D : List ImS} (g : GR 49 K2 B v (zBt D)) (gF : ∀ b,slb v = some b → ¬ F2 b) (hD : ∀ x ∈ D,ImOk x) (hl : D.length ≤ 50)
 {w : AV} {z : List Int} (bw : BS K2 w z) (lw : zDz w) (wF : ∀ b,slb w = some b → ¬ F2 b) (hz : z.length ≤ 1000)
include s ok hn pH g gF hD hl bw lw wF hz
set_option maxHeartbeats 4000000 in
theorem tailC : ∃ at2 seq2 vb vh M,M = zA9 q.p mt2 at2 seq2 vb vh ∧ cellsOf K2 pm = some M ∧ ∃ n3 K3 F3 G3 KE,n3 ≤ n2 + 60 ∧ MStep q pm H F G KE n3 (zCy r2 mt2 z D).1 F3 (zCy r2 mt2 z D).2.1 G3 ∧ cellsOf K3 pm = some M ∧
  (envL prog).call 73 [.ptr q.p 0,.int .i64 2,.int .i64 mt2.g.r,.int .i64 mt2.tail,.int .u32 mt2.next,v] K2 = some (.tup [.int .i64 (zBu r2 2 mt2.g.r mt2.tail mt2.next D).2.1,.int .i64 (zBu r2 2 mt2.g.r mt2.tail mt2.next D).2.2],K3) ∧ (zCy r2 mt2 z D).2.2 = (zBu r2 2 mt2.g.r mt2.tail mt2.next D).2.2 ∧
  (((zBu r2 2 mt2.g.r mt2.tail mt2.next D).2.2 ≠ 0 ∧ KE = K3) ∨ ((zBu r2 2 mt2.g.r mt2.tail mt2.next D).2.2 = 0 ∧ ∃ v' K4 C1 C2 C3,(envL prog).call 48 [w] K3 = some (v',K4) ∧ cellsOf K4 pm = some M ∧ zA7 v' = some [v'] ∧
   zAz K4 pm 9 [v'] = some (K4.set pm (.rw C1)) ∧ zAz (K4.set pm (.rw C1)) pm 12 [.int .i64 (zBu r2 2 mt2.g.r mt2.tail mt2.next D).2.1] = some (K4.set pm (.rw C2)) ∧ zAz (K4.set pm (.rw C2)) pm 13 [.int .u32 (IntKind.u32.wrap (mt2.next + 1))] = some (K4.set pm (.rw C3)) ∧ zAz (K4.set pm (.rw C3)) pm 14 [.int .i64 (mt2.used + (D.length : Int) + 1)] = some KE ∧
   (∀ C,cellsOf (K4.set pm (.rw C)) pm = some C) ∧ C1[13]? = M[13]? ∧ C1[14]? = M[14]? ∧ C2[13]? = M[13]? ∧ C2[14]? = M[14]? ∧ C3[14]? = M[14]?)):=by
 obtain ⟨m,⟨at2,seq2,vb,vh,mc⟩,fr,hF,hG,d⟩:=s
 have np : ¬ F2 pm:=d _ mc.gp
 have kp:=zAj mc.blk
 obtain ⟨n3,K3,F3,hn3,m3,st3,ea⟩:=appdC m (f:=2) (c:=mt2.g.r) (a:=mt2.tail) ok.next g gF (fun x hx=>(hD x hx).2.2) (by omega) (by omega)
 obtain ⟨M,hM⟩ : ∃ M,M = zA9 q.p mt2 at2 seq2 vb vh:=⟨_,rfl⟩
 refine ⟨at2,seq2,vb,vh,M,hM,by rw [hM]; exact kp,n3,K3,F3,?_⟩
 have kp3:=st3.1.cells kp np
 have b3:=st3.1.at mc.blk np
 have mc3:=mc.fr st3.1 d
 have fr3 : Fr H K3 (fun b=>F b ∨ b = pm):=fr.trans st3.1 fun b hb h=>(hF b h).elim .inl fun h=>by omega
 have L2:=fr.1
 have hF3 : ∀ b,F3 b → F b ∨ H.length ≤ b:=fun b hb=>(st3.2 b hb).elim (hF b) fun h=>.inr (by omega)
 have d3 : ∀ b,G2 b → ¬ F3 b:=fun b hb h=>(st3.2 b h).elim (d b hb) fun h=>by have:=mc.lt b hb; omega
 obtain ⟨A,hA⟩ : ∃ A,A = zBu r2 2 mt2.g.r mt2.tail mt2.next D:=⟨_,rfl⟩
 rw [← hA] at ea m3
 have eA : zCy r2 mt2 z D = if A.2.2 = 0 then (A.1,{ mt2 with b:=z,tail:=A.2.1,next:=IntKind.u32.wrap (mt2.next + 1),used:=mt2.used + (D.length : Int) + 1 },0) else (A.1,mt2,A.2.2):=by rw [hA]; rfl
 rw [eA,← hA]
 by_cases h0 : A.2.2 = 0
 rotate_left
 ·rw [if_neg h0]
  exact ⟨G2,K3,by omega,⟨m3,⟨at2,seq2,vb,vh,mc3⟩,fr3,hF3,hG,d3⟩,by rw [hM]; exact kp3,ea,rfl,.inl ⟨h0,rfl⟩⟩
 rw [if_pos h0]
 obtain ⟨v',X,o,ec⟩:=Bt.cloneC (bw.fr st3.1 wF) (by omega)
 have b4 : (K3 ++ X)[pm]? = some (.rw M):=by rw [hM,List.getElem?_append_left (zAl b3)]; exact b3
 obtain ⟨K4,hK4⟩ : ∃ K,K = K3 ++ X:=⟨_,rfl⟩
 have ob:=o.bs
 rw [← hK4] at ec b4 ob
 have lp4:=zAl b4
 have a34 : Adds K3 K4:=⟨X,hK4⟩
 have s2s : ∀ X Y : List AV,(K4.set pm (.rw X)).set pm (.rw Y) = K4.set pm (.rw Y):=fun X Y=>List.set_set ..
 have vo : ∀ b,slb v' = some b → K3.length ≤ b ∧ b < K4.length:=fun b hb=>by
  have l4 : K4.length = K3.length + X.length:=by rw [hK4,List.length_append]
  rcases o with ⟨_,⟨rfl,_⟩ | ⟨rfl,rfl⟩⟩ | ⟨_,rfl,rfl⟩
  ·cases hb
  ·injection hb with hb; subst hb
   simp only [List.length_cons,List.length_nil] at l4; omega
  ·injection hb with hb; subst hb
   simp only [List.length_cons,List.length_nil] at l4; omega
 have lv : zDz v':=fun b o' s' n' l' e' he=>by
  rcases o with ⟨_,⟨rfl,_⟩ | ⟨rfl,rfl⟩⟩ | ⟨_,rfl,rfl⟩
  ·cases he
  ·injection he; omega
  ·injection he; omega
 have vc:=ob.is.cells
 have vcell : v'.isCell = true:=by
  rcases ob with ⟨rfl,_⟩ | ⟨_,_,_,_,_,rfl,_⟩ <;> rfl
 obtain ⟨ME,hME⟩ : ∃ ME : MtS,ME = { mt2 with b:=z,tail:=A.2.1,next:=IntKind.u32.wrap (mt2.next + 1),used:=mt2.used + (D.length : Int) + 1 }:=⟨_,rfl⟩
 obtain ⟨C4,hC4⟩ : ∃ C,C = zA9 q.p ME at2 seq2 v' vh:=⟨_,rfl⟩
 have e4 : C4 = (((M.set 9 v').set 12 (.int .i64 A.2.1)).set 13 (.int .u32 (IntKind.u32.wrap (mt2.next + 1)))).set 14 (.int .i64 (mt2.used + (D.length : Int) + 1)):=by rw [hC4,hM,hME]; rfl
 have l15 : M.length = 15:=by rw [hM]; rfl
 have L3:=st3.1.1; have L4:=a34.len
 have fS : Fr K4 (K4.set pm (.rw C4)) (· = pm):=Fr.set _ _ rfl
 have nv : ∀ b,slb v' = some b → b ≠ pm:=fun b hb e=>by have:=vo b hb; have:=zAl b3; omega
 rw [← hME]
 have pS : ∀ C : List AV,cellsOf (K4.set pm (.rw C)) pm = some C:=fun C=>zAj (zA4 _ _ _ lp4)
 have w1 : zAz K4 pm 9 [v'] = some (K4.set pm (.rw (M.set 9 v'))):=by
  rw [zAv b4,if_pos ⟨by rw [l15]; show 9 + 1 ≤ 15; omega,by rw [List.all_cons,vcell]; rfl⟩,zAx]
 have w2 : zAz (K4.set pm (.rw (M.set 9 v'))) pm 12 [.int .i64 A.2.1] = some (K4.set pm (.rw ((M.set 9 v').set 12 (.int .i64 A.2.1)))):=by
  rw [zAv (zA4 _ _ _ lp4),if_pos ⟨by simp [l15],rfl⟩,zAx,s2s]
 have w3 : zAz (K4.set pm (.rw ((M.set 9 v').set 12 (.int .i64 A.2.1)))) pm 13 [.int .u32 (IntKind.u32.wrap (mt2.next + 1))] = some (K4.set pm (.rw (((M.set 9 v').set 12 (.int .i64 A.2.1)).set 13 (.int .u32 (IntKind.u32.wrap (mt2.next + 1)))))):=by
  rw [zAv (zA4 _ _ _ lp4),if_pos ⟨by simp [l15],rfl⟩,zAx,s2s]
 have w4 : zAz (K4.set pm (.rw (((M.set 9 v').set 12 (.int .i64 A.2.1)).set 13 (.int .u32 (IntKind.u32.wrap (mt2.next + 1)))))) pm 14 [.int .i64 (mt2.used + (D.length : Int) + 1)] = some (K4.set pm (.rw C4)):=by
  rw [zAv (zA4 _ _ _ lp4),if_pos ⟨by simp [l15],rfl⟩,zAx,s2s,e4]
 have m4 : zA3 q K4 n3 A.1 F3:=by rw [hK4]; exact m3.adds X
 refine ⟨fun b=>G2 b ∨ (K3.length ≤ b ∧ b < K4.length),K4.set pm (.rw C4),by omega,⟨m4.fr fS fun b hb e=>d3 pm mc.gp (e ▸ hb),⟨at2,seq2,v',vh,⟨?_,?_,lv,?_,.inl mc.gp,fun b hb=>⟨.inr (vo b hb),nv b hb⟩,fun b hb=>⟨.inl (mc.gh b hb).1,(mc.gh b hb).2⟩,?_⟩⟩,?_,hF3,?_,?_⟩,by rw [hM]; exact kp3,ea,h0.symm,.inr ⟨h0,v',K4,_,_,_,ec,zAj b4,vc,w1,w2,w3,w4,pS,?_,?_,?_,?_,?_⟩⟩
 ·rw [hC4]; exact zA4 _ _ _ lp4
 ·have : BS (K4.set pm (.rw C4)) v' z:=ob.fr fS nv
  rw [hME]; exact this
 ·have g3:=(mc3.h.frS (Fr.adds a34 (fun _=>False)) fun _ _ h=>h).frS fS fun b hb=>(mc.gh b hb).2
  rw [hME]; exact g3
 ·intro b hb
  rw [List.length_set]
  exact hb.elim (fun h=>by have:=mc3.lt b h; omega) fun h=>h.2
 ·exact (fr3.trans (Fr.adds a34 (fun _=>False)) fun _ _ h=>h.elim).trans (fS.mono fun b _ hb=>.inr hb) fun _ _ h=>h
 ·exact fun b hb=>hb.elim (hG b) fun h=>.inr (by omega)
 ·exact fun b hb h=>hb.elim (fun hb=>d3 b hb h) fun hb=>by have:=m3.lt b h; omega
 all_goals simp [List.getElem?_set,l15]
end
end Go.Proofs.YtbmmnfeeapnhkaaGreat.G08
end
section
namespace Go.Proofs.YtbmmnfeeapnhkaaGreat.G08
open Go Go.Proofs.YtbmmnfeeapnhkaaGreat.Eng
theorem bs_lt {H : zAa} {v : AV} {z : List Int} (b : BS H v z) {x : Nat} (hx : slb v = some x) : x < H.length:=by
 rcases b with ⟨rfl,_⟩ | ⟨b,o,l,e,cs,rfl,hc,_⟩
 ·cases hx
 ·injection hx with hx; subst hx; exact zBn hc
section
variable {q : RPl} {H : zAa} {n : Nat} {r : RgS} {F : Nat → Prop} (m : zA3 q H n r F) {mt : MtS} (ok : mt.Ok) {pm : Nat} {G : Nat → Prop} (c : MtH H pm q.p mt G) (d : ∀ b,G b → ¬ F b) (hn : n + 300 ≤ 1000000000)
 {w : AV} {z : List Int} (bw : BS H w z) (lw : zDz w) (uz : IsU8 z) (wF : ∀ b,slb w = some b → ¬ F b ∧ b ≠ pm)
include m ok c d hn bw lw uz wF
set_option maxHeartbeats 16000000 in
theorem zQ1 : ∃ n' H' F' G',n' ≤ n + 100 ∧ MStep q pm H F G H' n' (zBi r mt z).1 F' (zBi r mt z).2.1 G' ∧ (envL prog).call 18 [.ptr pm 0,w] H = some (.int .i64 (zBi r mt z).2.2,H'):=by
 obtain ⟨at0,seq0,vb,vh,mc⟩:=id c
 have N:=mt.g.nm ok.g
 have Ny:=N.hy; have Np:=N.hp; have Nc:=N.hc; have Nr:=N.hr
 have bl:=ok.bl; have us:=ok.used
 have pl:=mc.lt _ mc.gp
 have s0 : ∀ K,Adds H K → MStep q pm H F G K n r F mt G:=fun K a=>by
  obtain ⟨X,rfl⟩:=a
  exact ⟨m.adds X,c.adds X,(Fr.adds ⟨X,rfl⟩ _),fun _ h=>.inl h,fun _ h=>.inl h,d⟩
 obtain ⟨M,hM⟩ : ∃ M,M = zA9 q.p mt at0 seq0 vb vh:=⟨_,rfl⟩
 have k9 : M[9]? = some vb:=by rw [hM]; rfl
 have kp : cellsOf H pm = some M:=by rw [hM]; exact zAj mc.blk
 have lb:=mc.b.len
 have lz:=bw.len
 have wc:=bw.is.cells
 by_cases hl : z.length = mt.b.length
 rotate_left
 ·have eC : zBi r mt z = (r,mt,1):=by unfold zBi; rw [if_neg hl]
  rw [eC]
  have ne : ((z.length : Int) != (mt.b.length : Int)) = true:=by rw [bne_iff_ne]; omega
  refine ⟨n,H,F,G,by omega,s0 H (Adds.refl H),?_⟩
  rw [c18]
  unfold b18
  simp -implicitDefEqProofs (maxSteps:=5000000) only [go_sem,simprocAttr,itr,itq,kp,k9,lb,lz,ne]
 have ne : ((z.length : Int) != (mt.b.length : Int)) = false:=by rw [hl]; simp
 have ed:=differC pm wc H
 obtain ⟨K0,hK0⟩ : ∃ K : zAa,K = H ++ [.rw [.ptr pm 0],.rw [w]]:=⟨_,rfl⟩
 rw [← hK0] at ed
 have a0 : Adds H K0:=⟨_,hK0⟩
 have K0l : K0.length = H.length + 2:=by rw [hK0]; simp
 obtain ⟨v,K1,ec,a1,g1⟩:=collectD (H:=K0) (a0.bs mc.b) mc.lb ok.bu (a0.bs bw) lw uz (by omega) hl (pm:=pm) (c1:=H.length) (c2:=H.length + 1) (MC:=M) (by rw [hK0]; unfold cellsOf; simp) (a0.cells kp) k9 (by rw [hK0]; unfold cellsOf; simp)
 have a01:=a0.trans a1
 obtain ⟨D,hD⟩ : ∃ D,D = zBl mt.b z:=⟨_,rfl⟩
 rw [← hD] at g1
 obtain ⟨dok,dlen⟩:=zJ5 (was:=mt.b) (now:=z) uz (by omega)
 rw [← hD] at dok dlen
 unfold zB1 at dlen
 have ll : lenSl v = some (.int .i64 (D.length : Int)):=by have:=g1.len; rw [show (zBt D).length = D.length by simp [zBt]] at this; exact this
 have kp1:=a01.cells kp
 have eC : zBi r mt z = if D = [] then (r,mt,0) else if (D.length : Int) + 1 > mt.room then (if (opsS r (zAr mt)).2 = 0 then zCy (opsS r (zAr mt)).1 (zDl mt) z D else ((opsS r (zAr mt)).1,mt,(opsS r (zAr mt)).2)) else zCy r mt z D:=by
  unfold zBi
  rw [if_pos hl,hD]
 by_cases h0 : D = []
 ·rw [eC,if_pos h0]
  have e0 : ((D.length : Int) == 0) = true:=by rw [h0]; rfl
  have et : trim H (some (AV.int .i64 0,K1)) = some (.int .i64 0,H):=a01.trimS rfl
  refine ⟨n,H,F,G,by omega,s0 H (Adds.refl H),?_⟩
  rw [c18]
  unfold b18
  simp -implicitDefEqProofs (maxSteps:=5000000) only [go_sem,simprocAttr,itr,itq,kp,k9,lb,lz,ne,ed,ec,ll,e0,et]
 rw [eC,if_neg h0]
 have dp : 0 < D.length:=List.length_pos_iff.2 h0
 have e0 : ((D.length : Int) == 0) = false:=by simpa using h0
 have wd : IntKind.i64.wrap ((D.length : Int) + 1) = (D.length : Int) + 1:=zAq (by omega) (by omega)
 have er : (envL prog).call 29 [.ptr pm 0] K1 = some (.int .i64 mt.room,K1):=roomC2 (by rw [hM] at kp1; exact kp1) ok
 have ring : ∀ (K : zAa),(envL prog).call 56 [.agg mt.g.cells] K = some (.int .i64 2,K):=fun K=>ringP ok.g K
 have s1:=s0 K1 a01
 have gF : ∀ b,slb v = some b → ¬ F b:=fun b hb h=>by have:=g1.out b hb; have:=m.lt b h; omega
 have gpm : ∀ b,slb v = some b → b ≠ pm:=fun b hb e=>by have:=g1.out b hb; omega
 have mz : ∀ (a s : Int) (vb vh : AV) (mt : MtS),(zA9 q.p mt a s vb vh)[4]? = some (.int .i64 mt.g.r) ∧ (zA9 q.p mt a s vb vh)[8]? = some (.ptr q.p 0) ∧ (zA9 q.p mt a s vb vh)[12]? = some (.int .i64 mt.tail) ∧ (zA9 q.p mt a s vb vh)[13]? = some (.int .u32 mt.next) ∧ (zA9 q.p mt a s vb vh)[14]? = some (.int .i64 mt.used) ∧ (zA9 q.p mt a s vb vh).take 5 = mt.g.cells ∧ (zA9 q.p mt a s vb vh).length = 15:=fun a s vb vh mt=>⟨rfl,rfl,rfl,rfl,rfl,rfl,rfl⟩
 have gcl : mt.g.cells.length = 5:=rfl
 have gct : mt.g.cells.take 5 = mt.g.cells:=rfl
 by_cases hr : (D.length : Int) + 1 > mt.room
 ·have e1 : decide ((D.length : Int) + 1 > mt.room) = true:=decide_eq_true hr
  rw [if_pos hr]
  obtain ⟨n2,K2,F2,hn2,m2,hc2,eca⟩:=carryC s1.m ok s1.c d (by omega)
  rcases hc2 with ⟨hz,st2,G2,mc2,hG2,d2⟩ | ⟨hz,st2⟩
  ·rw [if_pos hz]
   rw [hz] at eca
   have s2 : MStep q pm H F G K2 n2 (opsS r (zAr mt)).1 F2 (zDl mt) G2:=⟨m2,mc2,s1.fr.trans st2.1 fun _ _ h=>h,fun b hb=>(st2.2 b hb).elim (fun h=>h.elim .inl fun h=>by obtain ⟨_,_,_,_,x⟩:=mc2; exact absurd (h ▸ hb) (d2 pm x.gp)) fun h=>.inr (by have:=a01.len; omega),fun b hb=>(hG2 b hb).elim .inl fun h=>.inr (by have:=a01.len; omega),d2⟩
   obtain ⟨at2,seq2,vb2,vh2,M2,hM2,kp2,n3,K3,F3,G3,KE,hn3,s3,kp3,ea,eA,htl⟩:=tailC s2 ok.carry (by omega) pl ((g1.low (Nat.zero_le _)).frS st2.1 fun b hb h=>h.elim (gF b hb) (gpm b hb)) (fun b hb h=>(st2.2 b h).elim (fun h=>h.elim (gF b hb) (gpm b hb)) fun h=>by have:=(g1.out b hb).2; omega) dok (by omega) ((a01.bs bw).fr st2.1 fun b hb h=>h.elim (wF b hb).1 (wF b hb).2) lw (fun b hb h=>(st2.2 b h).elim (fun h=>h.elim (wF b hb).1 (wF b hb).2) fun h=>by have:=bs_lt bw hb; have:=a01.len; omega) (by omega)
   obtain ⟨H',F4,G4,et,s4⟩:=MStep.trim m c s3 (.int .i64 (zCy (opsS r (zAr mt)).1 (zDl mt) z D).2.2)
   refine ⟨n3,H',F4,G4,by omega,s4,?_⟩
   obtain ⟨z4,z8,z12,z13,z14,zg,zl⟩:=mz at2 seq2 vb2 vh2 (zDl mt)
   rw [← hM2] at z4 z8 z12 z13 z14 zg zl
   have zg : M2.take 5 = mt.g.cells:=zg
   have ring2:=ring K2
   rw [eA] at et ⊢
   clear hM hM2
   generalize mt.g.cells = GC at *
   obtain ⟨A,hA⟩ : ∃ A,A = zBu (opsS r (zAr mt)).1 2 (zDl mt).g.r (zDl mt).tail (zDl mt).next D:=⟨_,rfl⟩
   rw [← hA] at ea et htl ⊢
   rcases htl with ⟨hb,rfl⟩ | ⟨hb,v',K4,C1,C2,C3,ecl,kp4,vc,w1,w2,w3,w4,pS,x1,x2,x3,x4,x5⟩
   ·have nb : (A.2.2 != 0) = true:=by simpa using hb
    rw [c18]
    unfold b18
    simp -implicitDefEqProofs (maxSteps:=5000000) only [go_sem,simprocAttr,itr,itq,kp,k9,lb,lz,ne,ed,ec,ll,e0,wd,er,e1,eca,kp2,z4,z8,z12,z13,zg,zl,gcl,gct,ring2,ea,nb,kp3,et]
   ·rw [hb] at et ea ⊢
    have u0 : (zDl mt).used = 0:=rfl
    rw [u0] at w4 z14
    have wa1 : IntKind.i64.wrap (0 + (D.length : Int)) = 0 + (D.length : Int):=zAq (by omega) (by omega)
    have wa2 : IntKind.i64.wrap (0 + (D.length : Int) + 1) = 0 + (D.length : Int) + 1:=zAq (by omega) (by omega)
    rw [z13] at x1 x3
    rw [z14] at x2 x4 x5
    rw [c18]
    unfold b18
    simp -implicitDefEqProofs (maxSteps:=5000000) only [go_sem,simprocAttr,itr,itq,kp,k9,lb,lz,ne,ed,ec,ll,e0,wd,er,e1,eca,kp2,z4,z8,z12,z13,z14,zg,zl,gcl,gct,ring2,ea,kp3,ecl,kp4,zAw,vc,w1,w2,w3,w4,pS,x1,x2,x3,x4,x5,wa1,wa2,et]
  ·rw [if_neg hz]
   have s2 : MStep q pm H F G K2 n2 (opsS r (zAr mt)).1 F2 mt G:=⟨m2,s1.c.fr st2.1 d,s1.fr.trans st2.1 fun _ _ h=>.inl h,fun b hb=>(st2.2 b hb).imp id fun h=>by have:=a01.len; omega,fun b hb=>.inl hb,fun b hb h=>(st2.2 b h).elim (d b hb) fun h=>by have:=mc.lt b hb; have:=a01.len; omega⟩
   obtain ⟨H',F4,G4,et,s4⟩:=MStep.trim m c s2 (.int .i64 (opsS r (zAr mt)).2)
   refine ⟨n2,H',F4,G4,by omega,s4,?_⟩
   have nb : ((opsS r (zAr mt)).2 != 0) = true:=by simpa using hz
   rw [c18]
   unfold b18
   simp -implicitDefEqProofs (maxSteps:=5000000) only [go_sem,simprocAttr,itr,itq,kp,k9,lb,lz,ne,ed,ec,ll,e0,wd,er,e1,eca,nb,et]
 ·have e1 : decide ((D.length : Int) + 1 > mt.room) = false:=decide_eq_false hr
  rw [if_neg hr]
  obtain ⟨at2,seq2,vb2,vh2,M2,hM2,kp2,n3,K3,F3,G3,KE,hn3,s3,kp3,ea,eA,htl⟩:=tailC s1 ok (by omega) pl (g1.low (Nat.zero_le _)) gF dok (by omega) (a01.bs bw) lw (fun b hb=>(wF b hb).1) (by omega)
  obtain ⟨H',F4,G4,et,s4⟩:=MStep.trim m c s3 (.int .i64 (zCy r mt z D).2.2)
  refine ⟨n3,H',F4,G4,by omega,s4,?_⟩
  obtain ⟨z4,z8,z12,z13,z14,zg,zl⟩:=mz at2 seq2 vb2 vh2 mt
  rw [← hM2] at z4 z8 z12 z13 z14 zg zl
  have zg : M2.take 5 = mt.g.cells:=zg
  have ring2:=ring K1
  rw [eA] at et ⊢
  clear hM hM2
  generalize mt.g.cells = GC at *
  obtain ⟨A,hA⟩ : ∃ A,A = zBu r 2 mt.g.r mt.tail mt.next D:=⟨_,rfl⟩
  rw [← hA] at ea et htl ⊢
  rcases htl with ⟨hb,rfl⟩ | ⟨hb,v',K4,C1,C2,C3,ecl,kp4,vc,w1,w2,w3,w4,pS,x1,x2,x3,x4,x5⟩
  ·have nb : (A.2.2 != 0) = true:=by simpa using hb
   rw [c18]
   unfold b18
   simp -implicitDefEqProofs (maxSteps:=5000000) only [go_sem,simprocAttr,itr,itq,kp,k9,lb,lz,ne,ed,ec,ll,e0,wd,er,e1,kp2,z4,z8,z12,z13,zg,zl,gcl,gct,ring2,ea,nb,kp3,et]
  ·rw [hb] at et ea ⊢
   have wa1 : IntKind.i64.wrap (mt.used + (D.length : Int)) = mt.used + (D.length : Int):=zAq (by omega) (by omega)
   have wa2 : IntKind.i64.wrap (mt.used + (D.length : Int) + 1) = mt.used + (D.length : Int) + 1:=zAq (by omega) (by omega)
   rw [z13] at x1 x3
   rw [z14] at x2 x4 x5
   rw [c18]
   unfold b18
   simp -implicitDefEqProofs (maxSteps:=5000000) only [go_sem,simprocAttr,itr,itq,kp,k9,lb,lz,ne,ed,ec,ll,e0,wd,er,e1,kp2,z4,z8,z12,z13,z14,zg,zl,gcl,gct,ring2,ea,kp3,ecl,kp4,zAw,vc,w1,w2,w3,w4,pS,x1,x2,x3,x4,x5,wa1,wa2,et]
end
end Go.Proofs.YtbmmnfeeapnhkaaGreat.G08
end
section
namespace Go.Proofs.YtbmmnfeeapnhkaaGreat.G08
open Go Go.Proofs.YtbmmnfeeapnhkaaGreat.Eng
def wG : GmS:=⟨8,2,2,4,12⟩
def wB : List Int:=List.replicate 126 0
def wC : List Int:=wB.set 50 7
def wR : RgS:=(opsS (zGd 30 20) (zBd wG wB)).1
def wS : RgS × MtS × Int:=zBi wR (zEg wG wB) wC
def wO : Option MtS × Int:=zF0 (wS.1.crash [] [])
theorem w1 : mayS (zGd 30 20) wG wB = true ∧ (opsS (zGd 30 20) (zBd wG wB)).2 = 0:=by decide +kernel
theorem w2 : wS.2.2 = 0 ∧ wS.2.1.room = 10:=by decide +kernel
theorem w3 : wO.2 = 0 ∧ wO.1.map (fun m=>(m.b,m.g,m.room)) = some (wC,wG,10):=by decide +kernel
end Go.Proofs.YtbmmnfeeapnhkaaGreat.G08
end
section
namespace Go.Proofs.YtbmmnfeeapnhkaaGreat.G08
open Go Go.Proofs.YtbmmnfeeapnhkaaGreat.Eng
section
variable {H : zAa} {pm p : Nat} {mt : MtS} {G : Nat → Prop} (c : MtH H pm p mt G) (ok : mt.Ok)
include c ok
theorem MtH.room : (envL prog).call 29 [.ptr pm 0] H = some (.int .i64 mt.room,H):=by
 obtain ⟨a,s,vb,vh,c⟩:=c
 exact roomC2 (zAj c.blk) ok
theorem MtH.geom : (envL prog).call 31 [.ptr pm 0] H = some (.agg mt.g.cells,H):=by
 obtain ⟨a,s,vb,vh,c⟩:=c
 have kp:=zAj c.blk
 have kg : (zA9 p mt a s vb vh).take 5 = mt.g.cells:=rfl
 have kl : 5 ≤ (zA9 p mt a s vb vh).length:=by show 5 ≤ 15; omega
 have gl : mt.g.cells.length = 5:=rfl
 have gt : mt.g.cells.take 5 = mt.g.cells:=rfl
 have ga : mt.g.cells.all AV.isCell = true:=rfl
 have sp : zBp [AV.int .i64 0,.int .i64 0,.int .i64 0,.int .i64 0,.int .i64 0] 0 mt.g.cells = mt.g.cells:=by rw [zAs _ _ _ (by rw [gl]; omega),gl]; simp
 have kp':=fun X : zAa=>zAy (x:=X) kp
 have tr : trim H (some (AV.agg mt.g.cells,H ++ [ABlk.rw mt.g.cells])) = some (.agg mt.g.cells,H):=Adds.trimS ⟨[ABlk.rw mt.g.cells],rfl⟩ rfl
 generalize zA9 p mt a s vb vh = MC at *
 generalize mt.g.cells = GC at *
 rw [c31]
 unfold b31
 simp -implicitDefEqProofs (maxSteps:=5000000) only [go_sem,simprocAttr,itr,itq,kp',kg,kl,gl,gt,ga,sp,tr]
theorem MtH.bytes : ∃ v X,Bt.Own H v X mt.b ∧ (envL prog).call 28 [.ptr pm 0] H = some (v,H ++ X):=by
 obtain ⟨a,s,vb,vh,c⟩:=c
 have kp:=zAj c.blk
 have k9 : (zA9 p mt a s vb vh)[9]? = some vb:=rfl
 have N:=mt.g.nm ok.g; have Ny:=N.hy; have bl:=ok.bl
 obtain ⟨v,X,o,ec⟩:=Bt.cloneC c.b (by omega)
 refine ⟨v,X,o,?_⟩
 have tr : trim H (some (v,H ++ X)) = some (v,H ++ X):=by
  rcases o with ⟨_,⟨rfl,rfl⟩ | ⟨rfl,rfl⟩⟩ | ⟨_,rfl,rfl⟩
  ·rw [List.append_nil]; exact zB8 rfl
  ·exact zBa (by simp [AV.under])
  ·exact zBa (by simp [AV.under])
 generalize zA9 p mt a s vb vh = MC at *
 rw [c28]
 unfold b28
 simp -implicitDefEqProofs (maxSteps:=5000000) only [go_sem,simprocAttr,itr,itq,kp,k9,ec,tr]
end
theorem eqG (g g' : GmS) : binV .eql (.flat 5) (.agg g.cells) (.agg g'.cells) = some (.bool (decide (g = g'))):=by
 obtain ⟨b,s,w,a,r⟩:=g
 obtain ⟨b',s',w',a',r'⟩:=g'
 have e : (decide (⟨b,s,w,a,r⟩ = (⟨b',s',w',a',r'⟩ : GmS))) = (decide (b = b') && (decide (s = s') && (decide (w = w') && (decide (a = a') && decide (r = r'))))):=by
  rw [Bool.eq_iff_iff]
  simp
 rw [e]
 simp [binV,eqV,GmS.cells,zEr,zMj]
 rfl
end Go.Proofs.YtbmmnfeeapnhkaaGreat.G08
end
section
namespace Go.Proofs.YtbmmnfeeapnhkaaGreat.G08
open Go Go.Proofs.YtbmmnfeeapnhkaaGreat.Eng
theorem smallC (h : zAa) : (envL prog).call 40 [] h = some (.agg wG.cells,h):=by
 rw [c40]
 unfold b40 wG GmS.cells
 simp -implicitDefEqProofs (maxSteps:=5000000) only [go_sem,simprocAttr,itr,itq]
theorem makeB {n : Nat} (hn : n ≤ 100000) (h : zAa) : zCw (ty 1 false 1 [.int .u8 0]) (.int .i64 n) (.int .i64 n) h = some (.sl h.length 0 1 n n true,h ++ [.rw (u8s (List.replicate n 0))]):=by
 have e:=zKz 1 1 n false [.int .u8 0] (by omega) (by omega) (by unfold roomy; omega) h
 have q : (List.replicate n [AV.int .u8 0]).flatten = u8s (List.replicate n 0):=by
  unfold u8s
  induction n with
  | zero=>rfl
  | succ n ih=>rw [List.replicate_succ,List.flatten_cons,ih (by omega) (zKz 1 1 n false [.int .u8 0] (by omega) (by omega) (by unfold roomy; omega) h)]; rfl
 rw [← q]; exact e
theorem zUw (f : Nat) (args : List AV) (h : zAa) : (envX prog Over.none).call f args h = (envL prog).call f args h:=rfl
theorem zMh {r : RgS} {g : GmS} {b : List Int} (h : mayS r g b = true) (hu : IsU8 b) : (zEg g b).Ok:=by
 unfold mayS at h
 simp only [Bool.and_eq_true,decide_eq_true_eq] at h
 obtain ⟨⟨hg,_⟩,hb⟩:=h
 have N:=g.nm hg
 have hc:=N.hc; have hr:=N.hr; have hp:=N.hp
 refine ⟨hg,hb,hu,?_,zFg hu,⟨by show (0 : Int) ≤ 1; omega,by show (1 : Int) < _; omega⟩,.inl rfl,⟨Int.le_refl 0,by show (0 : Int) < g.r; omega⟩,⟨by show (0 : Int) ≤ 1; omega,by show (1 : Int) < _; omega⟩,⟨Int.le_refl 0,by show (0 : Int) ≤ 100000; omega⟩⟩
 show ((cutS b).length : Int) = g.pages
 rw [zCe]; unfold zB1; omega
set_option maxHeartbeats 32000000 in
theorem wakesC : ∃ h1,zCm prog (envX prog Over.none) 11 [] [] = some (.bool true,h1):=by
 obtain ⟨H0,hH0⟩ : ∃ H : zAa,H = [ABlk.rw wG.cells]:=⟨_,rfl⟩
 have l0 : H0.length = 1:=by rw [hH0]; rfl
 have k0 : cellsOf H0 0 = some wG.cells:=by rw [hH0]; rfl
 obtain ⟨H1,F1,li,en⟩:=rinNew (n0:=30) (n1:=20) (by omega) (by omega) (by omega) (by omega) H0
 rw [show ((30 : Nat) : Int) = 30 from rfl,show ((20 : Nat) : Int) = 20 from rfl] at en
 obtain ⟨q,hq,m1⟩:=li.m.at
 have a1:=li.old
 have l1:=a1.len
 have o1 : ∀ b,F1 b → 1 ≤ b:=fun b hb=>by have:=li.out b hb; omega
 obtain ⟨H2,hH2⟩ : ∃ H : zAa,H = H1 ++ [.rw (u8s wB)]:=⟨_,rfl⟩
 have m2 : zA3 q H2 0 (zGd 30 20) F1:=by rw [hH2]; exact m1.adds _
 have b2 : H2[H1.length]? = some (.rw (u8s wB)):=by rw [hH2]; simp
 have bs2 : ∀ e,BS H2 (.sl H1.length 0 1 126 126 e) wB:=fun e=>BS.block (zs:=wB) b2
 have nb1 : ¬ F1 H1.length:=fun h=>by have:=m1.lt _ h; omega
 obtain ⟨n3,H3,F3,hn3,m3,st3,hf⟩:=zMi m2 (g:=wG) (bs2 true) (fun b o s n l e he=>by injection he; omega) (by unfold IsU8; decide) (by decide) (by omega) (fun b hb=>by injection hb with hb; rw [← hb]; exact nb1) w1.1
 rcases hf with ⟨_,pm,G3,c3,d3,ef⟩ | ⟨h,_⟩
 rotate_left
 ·exact absurd w1.2 h
 have ef : (envL prog).call 15 [.ptr q.p 0,.agg wG.cells,.sl H1.length 0 1 126 126 true] H2 = some (.tup [.ptr pm 0,.int .i64 0],H3):=ef
 have k3:=st3.1.cells (show cellsOf H2 0 = some wG.cells by rw [hH2]; exact zAy (a1.cells k0)) (fun h=>by have:=o1 _ h; omega)
 have b3 : H3[H1.length]? = some (.rw (u8s wB)):=st3.1.at b2 nb1
 have l2 : H2.length = H1.length + 1:=by rw [hH2]; simp
 obtain ⟨H4,hH4⟩ : ∃ H : zAa,H = H3.set H1.length (.rw (u8s wC)):=⟨_,rfl⟩
 have w4 : zAz H3 H1.length 50 [.int .u8 7] = some H4:=by
  rw [zAv b3,if_pos ⟨by rw [zAd]; decide,rfl⟩,zAx,hH4]; rfl
 have f4 : Fr H3 H4 (· = H1.length):=by rw [hH4]; exact Fr.set _ _ rfl
 have L4 : H4.length = H3.length:=by rw [hH4]; simp
 have L23:=st3.1.1
 have m4 : zA3 q H4 n3 wR F3:=m3.fr f4 fun b hb e=>by
  rcases st3.2 b hb with h | h
  ·exact nb1 (e ▸ h)
  ·omega
 have c4 : MtH H4 pm q.p (zEg wG wB) G3:=c3.fr f4 fun b hb e=>by have:=(d3 b hb).1; omega
 have ok4 : (zEg wG wB).Ok:=zMh w1.1 (by unfold IsU8; decide)
 have k4 : cellsOf H4 0 = some wG.cells:=f4.cells k3 (by omega)
 have b4 : H4[H1.length]? = some (.rw (u8s wC)):=by rw [hH4]; exact zA4 _ _ _ (zAl b3)
 have pmG : ∀ {H : zAa} {mt : MtS} {G : Nat → Prop},MtH H pm q.p mt G → G pm:=fun c=>by obtain ⟨_,_,_,_,c⟩:=c; exact c.gp
 have pm2:=(d3 pm (pmG c4)).1
 obtain ⟨n5,H5,F5,G5,hn5,s5,ec⟩:=zQ1 m4 ok4 c4 (fun b hb=>(d3 b hb).2) (by omega) (BS.block (l:=126) (e:=true) b4) (fun b o s n l e he=>by injection he; have : wC.length = 126:=rfl; omega) (by unfold IsU8; decide) (fun b hb=>by
  injection hb with hb; subst hb
  refine ⟨fun h=>?_,by omega⟩
  rcases st3.2 _ h with h | h
  ·exact nb1 h
  ·omega)
 have ec : (envL prog).call 18 [.ptr pm 0,.sl H1.length 0 1 126 126 true] H4 = some (.int .i64 0,H5):=by rw [← w2.1]; exact ec
 have c5 : MtH H5 pm q.p wS.2.1 G5:=s5.c
 have m5 : zA3 q H5 n5 wS.1 F5:=s5.m
 have ok5 : wS.2.1.Ok:=zT6 ok4 (by unfold IsU8; decide)
 have er4:=c4.room ok4
 have er5:=c5.room ok5
 rw [show (zEg wG wB).room = 12 from rfl] at er4
 rw [w2.2] at er5
 have n00 : ¬ F3 0:=fun h=>by
  rcases st3.2 _ h with h | h
  ·have:=o1 _ h; omega
  ·omega
 have k5:=s5.fr.cells k4 (fun h=>h.elim n00 fun h=>by omega)
 have L45:=s5.fr.1
 have u0 : IsU8 []:=fun z hz=>by cases hz
 obtain ⟨H6,m6,st6,L6,ek⟩:=atCrash m5 (BS.nil _) (BS.nil _) u0 u0 (fun b o s n l e h=>by cases h) (fun b o s n l e h=>by cases h) (fun b hb=>by cases hb) (fun b hb=>by cases hb)
 have c6:=c5.fr st6.1 s5.d
 have n05 : ¬ F5 0:=fun h=>by
  rcases s5.hF _ h with h | h
  ·exact n00 h
  ·omega
 have k6:=st6.1.cells k5 n05
 rcases openC m6 with ⟨mm,pn,G7,H7,eO,a7,c7,d7,eo⟩ | ⟨h,_⟩
 rotate_left
 ·exfalso
  have:=w3.2
  rw [show wO = zF0 (wS.1.crash [] []) from rfl,h] at this
  cases this
 have hmm : mm.b = wC ∧ mm.g = wG ∧ mm.room = 10:=by
  have:=w3.2
  rw [show wO = zF0 (wS.1.crash [] []) from rfl,eO] at this
  simpa using this
 have ok7 : mm.Ok:=(openS_ok (fun i=>zUn m6 0 i) (by rw [eO])).1
 have k7:=a7.cells k6
 obtain ⟨v1,X1,o1',eb1⟩:=c7.bytes ok7
 have c8:=c7.adds X1
 obtain ⟨v2,X2,o2',eb2⟩:=c8.bytes ok7
 obtain ⟨H9,hH9⟩ : ∃ H : zAa,H = (H7 ++ X1) ++ X2:=⟨_,rfl⟩
 rw [← hH9] at eb2
 have k8 : cellsOf (H7 ++ X1) 0 = some wG.cells:=zAy k7
 have k9 : cellsOf H9 0 = some wG.cells:=by rw [hH9]; exact zAy k8
 have c9 : MtH H9 pn q.p mm G7:=by rw [hH9]; exact c8.adds X2
 have eg:=c9.geom ok7
 have er9:=c9.room ok7
 have l1' : lenSl v1 = some (.int .i64 126):=by have:=o1'.bs.len; rw [hmm.1] at this; exact this
 have b9:=o2'.bs
 rw [hmm.1,← hH9] at b9
 obtain ⟨v2b,v2o,rfl⟩ : ∃ b o,v2 = .sl b o 1 126 126 false:=by
  rcases o2' with ⟨h,_⟩ | ⟨_,h,_⟩
  ·rw [hmm.1] at h; cases h
  ·rw [hmm.1] at h; exact ⟨_,_,h⟩
 obtain ⟨ad,ix,ld⟩:=b9.idx (show wC[50]? = some 7 from rfl) .i64
 have ix : zB0 1 (AV.sl v2b v2o 1 126 126 false) (.int .i64 50) = some ad:=ix
 have ix0 : zB0 1 (AV.sl H1.length 0 1 126 126 true) (.int .i64 50) = some (.ptr H1.length 50):=by simp [zB0,asI]
 rw [hmm.2.1] at eg
 rw [hmm.2.2] at er9
 have eq:=eqG wG wG
 rw [decide_eq_true rfl] at eq
 have a69 : Adds H6 H9:=a7.trans ⟨X1 ++ X2,by rw [hH9,List.append_assoc]⟩
 have m9 : zA3 q H9 n5 (wS.1.crash [] []) F5:=by obtain ⟨X,rfl⟩:=a69; exact m6.adds X
 have c9' : MtH H9 pm q.p wS.2.1 G5:=by obtain ⟨X,rfl⟩:=a69; exact c6.adds X
 obtain ⟨n10,H10,F10,Go.Proofs.YtbmmnfeeapnhkaaGreat.G10,hn10,s10,ec10⟩:=zQ1 m9 ok5 c9' s5.d (by omega) (BS.nil _) (fun b o s n l e he=>by cases he) u0 (fun b hb=>by cases hb)
 have e10 : (zBi (wS.1.crash [] []) wS.2.1 []).2.2 = 1:=by
  have h : wS.2.1.b.length = 126:=by decide +kernel
  unfold zBi
  rw [if_neg (by rw [h]; decide)]
 rw [e10] at ec10
 have k10:=s10.fr.cells k9 (fun h=>h.elim n05 fun h=>by omega)
 have eS:=fun H=>smallC H
 have gl : wG.cells.length = 5:=rfl
 have gt : wG.cells.take 5 = wG.cells:=rfl
 have ga : wG.cells.all AV.isCell = true:=rfl
 have mk:=makeB (n:=126) (by omega) H1
 rw [show ((126 : Nat) : Int) = 126 from rfl,show List.replicate 126 (0 : Int) = wB from rfl,← hH2] at mk
 have sp : zBp [AV.int .i64 0,.int .i64 0,.int .i64 0,.int .i64 0,.int .i64 0] 0 wG.cells = wG.cells:=by rw [zAs _ _ _ (by rw [gl]; omega),gl]; simp
 have cg:=zAj b4
 have cb3:=zAj b3
 have hp : (H1.length : Nat) = H1.length:=rfl
 have k2 : cellsOf H2 0 = some wG.cells:=by rw [hH2]; exact zAy (a1.cells k0)
 rw [l0,hH0] at en
 have q1 : q.p = 1:=by rw [hq,l0]
 rw [q1] at ef ek eo
 rw [d11]
 refine zWw ?_
 unfold b11
 generalize hQ : (fun (e : Ex) (t : T) (h1 : zAa)=>fin [.tmp 0] (some (e,t,h1)) = some (AV.bool true,h1)) = Q
 generalize wG.cells = GC at *
 simp -implicitDefEqProofs (maxSteps:=5000000) only [go_sem,simprocAttr,itr,itq,zUw,eS,gl,gt,ga,sp,en,mk,k2,ef,ix0,cb3,zAw,w4,er4,ec,er5,ek,eo,eb1,l1',eb2,ix,ld,k7,k8,k9,eg,eq,er9,ec10,k10,zAc]
 subst hQ
 simp -implicitDefEqProofs (maxSteps:=5000000) only [go_sem,simprocAttr]
end Go.Proofs.YtbmmnfeeapnhkaaGreat.G08
end
section
namespace Go.Proofs.YtbmmnfeeapnhkaaGreat.G08
open Go Go.Proofs.YtbmmnfeeapnhkaaGreat.Eng
theorem x_miss {X : Over} {k f : Nat} {R : List AV → zAa → Option (AV × zAa)} (args : List AV) (h : zAa) (e : (f == k) = false) : (envX prog (X.with k R)).call f args h = (envX prog X).call f args h:=by
 have : ¬ f = k:=by simpa using e
 unfold envX Over.with
 simp [this]
theorem x_hit {X : Over} {k : Nat} {R : List AV → zAa → Option (AV × zAa)} {args : List AV} {h : zAa} {r : AV × zAa} (e : R args h = some r) : (envX prog (X.with k R)).call k args h = some r:=by
 unfold envX Over.with
 simp [e]
theorem okP : Go.Proofs.YtbmmnfeeapnhkaaGreat.Eng.Good prog:=zXn (by kernel_rfl) (by kernel_rfl)
noncomputable def XW : Over:=Over.none.with 11 wakeR
theorem xw_ok : XW.Ok prog:=with_ok (zWy prog) (wake_ok okP (zWy prog) wakesC.choose_spec)
theorem zD9 (f : Nat) (args : List AV) (h : zAa) (ew : (f == 11) = false) : (envX prog XW).call f args h = (envL prog).call f args h:=by
 unfold XW; rw [x_miss _ _ ew,zUw]
theorem zHu (h : zAa) : (envX prog XW).call 11 [] h = some (.bool true,h):=x_hit rfl
theorem zUv : (envX prog XW).loop = (envL prog).loop:=rfl
noncomputable abbrev LW (l : Env → CT):=(envL prog).loop (runC (envX prog XW) (l (envX prog XW)))
def zXa (g : GmS) : Bool:=!(g.good) || (decide (g.r ≤ 60) && decide (g.b ≤ 20))
theorem lightC (g : GmS) (H : zAa) : (envL prog).call 9 [.agg g.cells] H = some (.bool (zXa g),H):=by
 have eg : ∀ H,(envL prog).call 34 [.agg g.cells] H = some (.bool g.good,H):=fun H=>Gm.goodR g.b g.s g.w g.a g.r H
 have gl : g.cells.length = 5:=rfl
 have gt : g.cells.take 5 = g.cells:=rfl
 have g0 : g.cells[0]? = some (.int .i64 g.b):=rfl
 have g4 : g.cells[4]? = some (.int .i64 g.r):=rfl
 unfold zXa
 generalize g.cells = GC at *
 rw [c9]
 unfold b9
 cases hg : g.good <;> cases h1 : decide (g.r ≤ 60) <;> cases h2 : decide (g.b ≤ 20) <;> simp -implicitDefEqProofs (maxSteps:=5000000) only [go_sem,simprocAttr,itr,itq,eg,gl,gt,g0,g4,hg,h1,h2]
end Go.Proofs.YtbmmnfeeapnhkaaGreat.G08
end
section
namespace Go.Proofs.YtbmmnfeeapnhkaaGreat.G08
open Go Go.Proofs.YtbmmnfeeapnhkaaGreat.Eng
def modS (k n : Int) : Int:=(k.tmod n + n).tmod n
theorem zR7 {k n : Int} (h : 1 ≤ n) : 0 ≤ modS k n ∧ modS k n < n:=by
 have h2:=Int.tmod_lt_of_pos k (show 0 < n by omega)
 have h1 : -n < k.tmod n:=by
  have:=Int.tmod_lt_of_pos (-k) (show 0 < n by omega)
  rw [Int.neg_tmod] at this; omega
 have h0 : 0 ≤ k.tmod n + n:=by omega
 unfold modS
 exact ⟨Int.tmod_nonneg _ h0,Int.tmod_lt_of_pos _ (by omega)⟩
theorem modC {k n : Int} (h1 : 1 ≤ n) (h2 : n ≤ 1000000000) (H : zAa) : (envL prog).call 69 [.int .i64 k,.int .i64 n] H = some (.int .i64 (modS k n),H):=by
 have d0 : decide (n < 1) = false:=decide_eq_false (by omega)
 have r1:=zHo .none .i64 k n (by omega)
 have r2:=zHo .none .i64 (k.tmod n + n) n (by omega)
 have b2:=Int.tmod_lt_of_pos k (show 0 < n by omega)
 have b1 : -n < k.tmod n:=by
  have:=Int.tmod_lt_of_pos (-k) (show 0 < n by omega)
  rw [Int.neg_tmod] at this; omega
 have w1 : IntKind.i64.wrap (k.tmod n) = k.tmod n:=zAq (by omega) (by omega)
 have w2 : IntKind.i64.wrap (k.tmod n + n) = k.tmod n + n:=zAq (by omega) (by omega)
 have rg:=zR7 (k:=k) h1
 have w3 : IntKind.i64.wrap ((k.tmod n + n).tmod n) = modS k n:=zAq (by unfold modS at rg; omega) (by unfold modS at rg; omega)
 have e3 : (k.tmod n + n).tmod n = modS k n:=rfl
 rw [c69]
 unfold b69
 simp -implicitDefEqProofs (maxSteps:=5000000) only [go_sem,simprocAttr,itr,itq,d0,r1,r2,w1,w2,w3,e3]
def xor8 (x y : Int) : Int:=IntKind.u8.wrap ((BitVec.ofInt 8 x ^^^ BitVec.ofInt 8 y).toNat : Int)
theorem xorC (x y : Int) : binV .xor .none (.int .u8 x) (.int .u8 y) = some (.int .u8 (xor8 x y)):=rfl
def turn1 (b : List Int) (x : Int × Int) : List Int:=b.set (modS x.1 b.length).toNat (xor8 ((b[(modS x.1 b.length).toNat]?).getD 0) (IntKind.u8.wrap x.2))
def zKb (b : List Int) (l : List (Int × Int)) : List Int:=l.foldl turn1 b
theorem zOc (b : List Int) (x : Int × Int) : (turn1 b x).length = b.length:=by unfold turn1; simp
theorem zHw : ∀ (l : List (Int × Int)) (b : List Int),(zKb b l).length = b.length
 | [],b=>rfl
 | x :: l,b=>by
  show (zKb (turn1 b x) l).length = _
  rw [zHw l,zOc]
theorem u8w_rng (n : Int) : 0 ≤ IntKind.u8.wrap n ∧ IntKind.u8.wrap n ≤ 255:=by
 show 0 ≤ n % 256 ∧ n % 256 ≤ 255
 omega
theorem turn1_u8 {b : List Int} (h : IsU8 b) (x : Int × Int) : IsU8 (turn1 b x):=fun z hz=>by
 unfold turn1 at hz
 rcases List.mem_or_eq_of_mem_set hz with hz | rfl
 ·exact h z hz
 ·exact u8w_rng _
theorem zRk : ∀ (l : List (Int × Int)) {b : List Int},IsU8 b → IsU8 (zKb b l)
 | [],_,h=>h
 | x :: l,b,h=>zRk l (turn1_u8 h x)
theorem zU3 (l : List (Int × Int)) : zKb [] l = []:=List.eq_nil_of_length_eq_zero (zHw l [])
def prs (l : List (Int × Int)) : List (List AV):=l.map fun x=>[.int .i64 x.1,.int .i64 x.2]
theorem zNf (l : List (Int × Int)) : (prs l).length = l.length:=by simp [prs]
section
variable {K : zAa} {v : AV} {l : List (Int × Int)} (rs : RS 2 K v (prs l)) (hl : l.length ≤ 1000)
include rs hl
set_option maxHeartbeats 4000000 in
theorem turnL {n : Nat} (h1 : 1 ≤ n) (hn : n ≤ 100000) (x0 x2 x3 x4 x7 x8 x9 x40 : AV) : ∀ (k i : Nat) (cur : List Int) (j10 j11 j12 j13 j14 j15 j16 j17 j18 j19 j20 j21 j22 j23 j24 j25 j26 j27 j28 j29 j30 j31 j32 j33 j34 j35 j36 j37 j38 j39 : AV),cur.length = n → i + k = l.length →
  Outs (LP1 l17x0 [x0,v,x2,x3,x4,.sl (K.length + 1) 0 1 n n false,.int .i64 (i : Int),x7,x8,x9,j10,j11,j12,j13,j14,j15,j16,j17,j18,j19,j20,j21,j22,j23,j24,j25,j26,j27,j28,j29,j30,j31,j32,j33,j34,j35,j36,j37,j38,j39,x40] (K ++ [.rw [],.rw (u8s cur)])) fun e t K'=>e = .exit 0 ∧ K' = K ++ [.rw [],.rw (u8s (zKb cur (l.drop i)))] ∧ ∃ fv : Nat → AV,t = [x0,v,x2,x3,x4,.sl (K.length + 1) 0 1 n n false,(fv 6),x7,x8,x9,(fv 10),(fv 11),(fv 12),(fv 13),(fv 14),(fv 15),(fv 16),(fv 17),(fv 18),(fv 19),(fv 20),(fv 21),(fv 22),(fv 23),(fv 24),(fv 25),(fv 26),(fv 27),(fv 28),(fv 29),(fv 30),(fv 31),(fv 32),(fv 33),(fv 34),(fv 35),(fv 36),(fv 37),(fv 38),(fv 39),x40]:=by
 intro k
 obtain ⟨L0,hL0⟩ : ∃ L,L = LP1 l17x0:=⟨_,rfl⟩
 have lo:=zBc hL0
 rw [← hL0]
 have wl:=rs.len
 rw [zNf] at wl
 have dn : decide ((n : Int) > 0) = true:=decide_eq_true (by omega)
 induction k with
 | zero =>
  intro i cur j10 j11 j12 j13 j14 j15 j16 j17 j18 j19 j20 j21 j22 j23 j24 j25 j26 j27 j28 j29 j30 j31 j32 j33 j34 j35 j36 j37 j38 j39 hc hi
  obtain rfl : i = l.length:=by omega
  have hd : decide ((l.length : Int) < (l.length : Int)) = false:=by simp
  rw [lo,List.drop_length]
  unfold l17x0
  simp -implicitDefEqProofs (maxSteps:=5000000) only [go_sem,simprocAttr,go_sem,itr,itq,wl,hd,zAu,zAc]
  exact ⟨rfl,exF rfl⟩
 | succ k ih =>
  intro i cur j10 j11 j12 j13 j14 j15 j16 j17 j18 j19 j20 j21 j22 j23 j24 j25 j26 j27 j28 j29 j30 j31 j32 j33 j34 j35 j36 j37 j38 j39 hc hi
  have hlt : i < l.length:=by omega
  have hd : decide ((i : Int) < (l.length : Int)) = true:=decide_eq_true (by omega)
  have e2 : IntKind.i64.wrap ((i : Int) + 1) = ((i + 1 : Nat) : Int):=by rw [zAq (by omega) (by omega)]; omega
  have hx:=List.getElem?_eq_getElem hlt
  have dr:=List.drop_eq_getElem_cons hlt
  generalize l[i] = x at *
  obtain ⟨x1,x2⟩:=x
  obtain ⟨b,cs,ix,hcs,hf,_,hle,_⟩:=rs.idx (by omega) (i:=i) (r:=[.int .i64 x1,.int .i64 x2]) (by unfold prs; rw [List.getElem?_map,hx]; rfl) .i64
  have q:=fun X : zAa=>zAy (x:=X) hcs
  have f0:=hf 0 (by omega)
  have f1:=hf 1 (by omega)
  rw [Nat.add_zero] at f0
  simp only [List.getElem?_cons_zero,List.getElem?_cons_succ] at f0 f1
  have rg:=zR7 (k:=x1) (n:=(n : Int)) (by omega)
  have em:=fun H=>modC (k:=x1) (n:=(n : Int)) (by omega) (by omega) H
  obtain ⟨j,hj⟩ : ∃ j : Nat,modS x1 (n : Int) = j:=⟨(modS x1 (n : Int)).toNat,by omega⟩
  have jl : j < cur.length:=by omega
  have cj:=List.getElem?_eq_getElem jl
  obtain ⟨y,hy⟩ : ∃ y,cur[j] = y:=⟨_,rfl⟩
  rw [hy] at cj
  have hb : (K ++ [ABlk.rw [],.rw (u8s cur)])[K.length + 1]? = some (.rw (u8s cur)):=by simp
  have bc:=zAj hb
  have lj : (u8s cur)[j]? = some (.int .u8 y):=zGh cj
  have ia:=zEf (K.length + 1) 1 n n j false .i64 (by omega) (by omega)
  have wr : zAz (K ++ [ABlk.rw [],.rw (u8s cur)]) (K.length + 1) j [.int .u8 (xor8 y (IntKind.u8.wrap x2))] = some (K ++ [ABlk.rw [],.rw (u8s (turn1 cur (x1,x2)))]):=by
   rw [zAv hb,if_pos ⟨by rw [zAd]; show j + 1 ≤ _; omega,rfl⟩,zAx]
   have et : turn1 cur (x1,x2) = cur.set j (xor8 y (IntKind.u8.wrap x2)):=by
    unfold turn1
    show cur.set (modS x1 (cur.length : Int)).toNat (xor8 ((cur[(modS x1 (cur.length : Int)).toNat]?).getD 0) _) = _
    rw [hc,hj,Int.toNat_natCast,cj]; rfl
   rw [et]
   have : (u8s cur).set j (AV.int .u8 (xor8 y (IntKind.u8.wrap x2))) = u8s (cur.set j (xor8 y (IntKind.u8.wrap x2))):=by unfold u8s; rw [List.map_set]
   rw [this]
   simp
  rw [dr]
  rw [Nat.mul_one] at ia
  rw [hj] at em
  have key:=ih (i + 1) (turn1 cur (x1,x2))
  have q1:=q [ABlk.rw [],.rw (u8s cur)]
  have q2:=q [ABlk.rw [],.rw (u8s (turn1 cur (x1,x2)))]
  rw [lo]
  show Outs _ fun e t K'=>e = .exit 0 ∧ K' = K ++ [.rw [],.rw (u8s (zKb (turn1 cur (x1,x2)) (l.drop (i + 1))))] ∧ _
  generalize K ++ [ABlk.rw [],.rw (u8s cur)] = K1 at *
  generalize K ++ [ABlk.rw [],.rw (u8s (turn1 cur (x1,x2)))] = K2 at *
  unfold l17x0
  generalize u8s cur = C at *
  simp -implicitDefEqProofs (maxSteps:=5000000) only [go_sem,simprocAttr,go_sem,itr,itq,zI2,zAw,wl,hd,dn,ix,q1,q2,f0,f1,em,ia,bc,lj,xorC,wr,e2]
  exact key _ _ _ _ _ _ _ _ _ _ _ _ _ _ _ _ _ _ _ _ _ _ _ _ _ _ _ _ _ _ (by rw [zOc,hc]) (by omega)
end
end Go.Proofs.YtbmmnfeeapnhkaaGreat.G08
end
section
namespace Go.Proofs.YtbmmnfeeapnhkaaGreat.G08
open Go Go.Proofs.YtbmmnfeeapnhkaaGreat.Eng
set_option maxHeartbeats 4000000 in
theorem turnedC {K : zAa} {w v : AV} {b : List Int} {l : List (Int × Int)} (bw : BS K w b) (hb : b.length ≤ 100000) (rs : RS 2 K v (prs l)) (hl : l.length ≤ 1000) : ∃ v' X,Bt.Own K v' X (zKb b l) ∧ v' ≠ .nilSl ∧ (envL prog).call 17 [w,v] K = some (v',K ++ X):=by
 obtain ⟨v',X,o,hne,ea⟩:=Bt.app_copy bw hb
 have wl:=rs.len
 rw [zNf] at wl
 by_cases h0 : b = []
 ·subst h0
  rw [zU3]
  have ov : v' = .sl K.length 0 1 0 0 true ∧ X = [.rw []]:=by
   rcases o with ⟨_,⟨rfl,_⟩ | h⟩ | ⟨h,_⟩
   ·exact absurd rfl hne
   ·exact h
   ·exact absurd rfl h
  obtain ⟨rfl,rfl⟩:=ov
  refine ⟨_,_,.inl ⟨rfl,.inr ⟨rfl,rfl⟩⟩,hne,?_⟩
  have tr : ∀ Y,trim K (some (AV.sl K.length 0 1 0 0 true,Y)) = some (.sl K.length 0 1 0 0 true,Y):=fun Y=>zBa (by simp [AV.under])
  obtain ⟨L,hL⟩ : ∃ L,L = LP1 l17x0:=⟨_,rfl⟩
  have lo:=zBc hL
  obtain ⟨y,hy⟩ : ∃ y,decide ((0 : Int) < (l.length : Int)) = y:=⟨_,rfl⟩
  unfold LP1 at hL
  rw [c17]
  unfold b17
  simp -implicitDefEqProofs (maxSteps:=5000000) only [go_sem,simprocAttr,go_sem,itr,itq,zA6,ea]
  rw [← hL,lo]
  unfold l17x0
  cases y <;> simp -implicitDefEqProofs (maxSteps:=5000000) only [go_sem,simprocAttr,go_sem,itr,itq,wl,hy,zAu,tr]
 ·have hp:=List.length_pos_iff.2 h0
  have ov : v' = .sl (K.length + 1) 0 1 b.length b.length false ∧ X = [.rw [],.rw (u8s b)]:=by
   rcases o with ⟨h,_⟩ | ⟨_,h⟩
   ·exact absurd h h0
   ·exact h
  obtain ⟨rfl,rfl⟩:=ov
  have lt : (zKb b l).length = b.length:=zHw l b
  have l1:=turnL rs hl (n:=b.length) hp hb (k:=l.length) (i:=0) (cur:=b)
  rw [show ((0 : Nat) : Int) = 0 from rfl,List.drop_zero] at l1
  have key : Outs (runC (envL prog) (b17 (envL prog)) ([w,v] ++ List.replicate (41 - [w,v].length) .undef) K) fun e' t Y=>fin [.tmp 4] (some (e',t,Y)) = some (.sl (K.length + 1) 0 1 b.length b.length false,K ++ [.rw [],.rw (u8s (zKb b l))]):=by
   unfold b17
   generalize hQ : (fun (e' : Ex) (t : T) (Y : zAa)=>fin [.tmp 4] (some (e',t,Y)) = some (.sl (K.length + 1) 0 1 b.length b.length false,K ++ [.rw [],.rw (u8s (zKb b l))])) = Q
   simp -implicitDefEqProofs (maxSteps:=5000000) only [go_sem,simprocAttr,go_sem,itr,itq,zA6,ea]
   unfold LP1 at l1
   generalize (envL prog).loop (runC (envL prog) (l17x0 (envL prog))) = LL at l1 ⊢
   refine zBo (fun r=>seqR (zBr 0 r) _) (l1 _ _ _ _ _ _ _ _ _ _ _ _ _ _ _ _ _ _ _ _ _ _ _ _ _ _ _ _ _ _ _ _ _ _ _ _ _ _ rfl (by omega)) ?_
   rintro e t Y ⟨rfl,rfl,fv,rfl⟩
   simp -implicitDefEqProofs (maxSteps:=5000000) only [go_sem,simprocAttr,zAc]
   subst hQ
   simp -implicitDefEqProofs (maxSteps:=5000000) only [go_sem,simprocAttr]
  obtain ⟨e',t,Y,hr,hf⟩:=key
  refine ⟨_,_,.inr ⟨fun h=>h0 (List.eq_nil_of_length_eq_zero (by rw [← lt,h]; rfl)),by rw [lt],rfl⟩,by simp,?_⟩
  rw [c17,hr,hf]
  exact zBa (by simp [AV.under])
theorem prs_dat {h : zAa} {v : AV} (d : DatC h (.sl [.int .i64,.int .i64]) v) : ∃ l : List (Int × Int),RS 2 h v (prs l) ∧ l.length ≤ 9223372036854775807:=by
 obtain ⟨rows,rs,rd,hn⟩:=d.rows
 have key : ∀ rows : List (List AV),(∀ r ∈ rows,DatR h [.int .i64,.int .i64] r) → ∃ l : List (Int × Int),rows = prs l:=by
  intro rows
  induction rows with
  | nil=>intro _; exact ⟨[],rfl⟩
  | cons r rows ih =>
   intro hr
   obtain ⟨l,rfl⟩:=ih fun x hx=>hr x (by simp [hx])
   have hd:=hr r (by simp)
   cases hd with
   | cons d1 t=>cases t with
    | cons d2 t=>cases t with
     | nil=>cases d1 with
      | @int _ x _=>cases d2 with
       | @int _ y _=>exact ⟨(x,y) :: l,rfl⟩
 obtain ⟨l,rfl⟩:=key rows rd
 exact ⟨l,rs,by rw [zNf] at hn; exact hn⟩
end Go.Proofs.YtbmmnfeeapnhkaaGreat.G08
end
section
namespace Go.Proofs.YtbmmnfeeapnhkaaGreat.G08
open Go Go.Proofs.YtbmmnfeeapnhkaaGreat.Eng
def Rst (z : List Int) (n : Int) : Prop:=(decS z).1.m = 0 ∨ (decS z).1.s < n ∨ ((decS z).1.s = n ∧ (decS z).1.m = 73)
theorem Rst.up {z : List Int} {n : Int} (h : Rst z n) : Rst z (n + 1):=by
 rcases h with h | h | ⟨h,_⟩
 ·exact .inl h
 ·exact .inr (.inl (by omega))
 ·exact .inr (.inl (by omega))
theorem zV5 (n : Int) : Rst z64 n:=.inl (by rw [zSl]; rfl)
structure Rg (r : RgS) (f c p : Nat) (s : Int) (T : List (List ImS)) : Prop where
 c2 : 2 ≤ c
 c256 : c ≤ 256
 fit : f + c ≤ r.a.length
 still : zF8 r
 tr : zLs r f c p 0 s T
 le : tot T ≤ c
 good : ∀ t ∈ T,GoodT c t
 rest : ∀ i,i < c → Rst (cont r (f + i)) (s + (T.length : Int))
theorem Rg.rn {r : RgS} {f c p : Nat} {s : Int} {T : List (List ImS)} (h : Rg r f c p s T) (up : Up r) : Rn r f c:=⟨up,h.c2,h.c256,h.fit⟩
theorem Rg.anew {r : RgS} {f c p : Nat} {s : Int} {T : List (List ImS)} (h : Rg r f c p s T) (p' : Nat) : Rg r f c p' (s + (T.length : Int)) [] :=
 ⟨h.c2,h.c256,h.fit,h.still,trivial,Nat.zero_le _,fun t ht=>(by cases ht),fun i hi=>by simpa using h.rest i hi⟩
theorem Rg.same {r r' : RgS} {f c p : Nat} {s : Int} {T : List (List ImS)} (h : Rg r f c p s T) (l : f + c ≤ r'.a.length) (st : zF8 r') (e : ∀ i,i < c → cont r' (f + i) = cont r (f + i)) : Rg r' f c p s T :=
 ⟨h.c2,h.c256,l,st,h.tr.mono fun j _ _=>e _ (Nat.mod_lt _ (by have:=h.c2; omega)),h.le,h.good,fun i hi=>by rw [e i hi]; exact h.rest i hi⟩
theorem zVk {s : Int} {t : List ImS} {k : Nat} {z : List Int} (h : (secT s t)[k]? = some z) : (∃ x,t[k]? = some x ∧ z = encI s x) ∨ (k = t.length ∧ z = encS 67 s t.length zA2):=by
 have kl:=(List.getElem?_eq_some_iff.1 h).1
 rw [zJz] at kl
 by_cases hk : k < t.length
 ·have e:=List.getElem?_eq_getElem hk
  rw [zOi e] at h
  exact .inl ⟨_,e,(Option.some.inj h).symm⟩
 ·obtain rfl : k = t.length:=by omega
  rw [zRu] at h
  exact .inr ⟨rfl,(Option.some.inj h).symm⟩
theorem zV6 {s : Int} {t : List ImS} {c : Nat} (g : GoodT c t) (hs : 0 ≤ s ∧ s < 4294967296) {x : ImS} (hx : x ∈ t) : Rst (encI s x) s:=by
 refine .inr (.inr ?_)
 rw [dec_page g.ok g.b hs hx]
 exact ⟨rfl,rfl⟩
theorem rest_sec {s : Int} {t : List ImS} {c : Nat} (g : GoodT c t) (hs : 0 ≤ s ∧ s < 4294967296) (hc : c ≤ 256) {k : Nat} {z : List Int} (h : (secT s t)[k]? = some z) : Rst z (s + 1):=by
 rcases zVk h with ⟨x,hx,rfl⟩ | ⟨_,rfl⟩
 ·exact (zV6 g hs (List.mem_of_getElem? hx)).up
 ·refine .inr (.inl ?_)
  rw [zTw hs (by have:=g.fit; omega)]
  show s < s + 1
  omega
section
variable {r : RgS} {f c p : Nat} {s : Int} {T : List (List ImS)} {t : List ImS}
theorem rg_snoc {r2 : RgS} (h : Rg r f c p s T) (hs : 0 ≤ s) (hs2 : s + (T.length : Int) + 1 < 4294967296) (g : GoodT c t) (hf : tot T + (t.length + 1) ≤ c) (l : f + c ≤ r2.a.length) (st : zF8 r2)
  (h1 : ∀ k z,(secT (s + (T.length : Int)) t)[k]? = some z → vw r2 f c p (tot T + k) = z) (h2 : ∀ i,(∀ k,k < t.length + 1 → i ≠ f + (p + (tot T + k)) % c) → cont r2 i = cont r i) : Rg r2 f c p s (T ++ [t]):=by
 have c2:=h.c2
 have key : ∀ j,j < c → (j < tot T ∨ tot T + (t.length + 1) ≤ j) → vw r2 f c p j = vw r f c p j:=fun j hj ho=>h2 _ fun k hk q=>by
  have:=zQi (c:=c) (f:=f) (p:=p) (off:=0) (a:=j) (b:=tot T + k) (by omega) (by omega) (by rw [Nat.zero_add,Nat.zero_add]; exact q)
  omega
 have hl : s + ((T ++ [t]).length : Int) = s + (T.length : Int) + 1:=by rw [List.length_append,List.length_singleton]; push_cast; omega
 refine ⟨h.c2,h.c256,l,st,zLs.snoc (h.tr.mono fun j _ hj=>key j (by omega) (.inl (by omega))) (fun k z hz=>by rw [Nat.zero_add]; exact h1 k z hz),by rw [zJx]; exact hf,fun x hx=>(List.mem_append.1 hx).elim (h.good x) fun q=>by rw [List.mem_singleton.1 q]; exact g,fun i hi=>?_⟩
 rw [hl]
 by_cases q : ∃ k,k < t.length + 1 ∧ f + i = f + (p + (tot T + k)) % c
 ·obtain ⟨k,hk,e⟩:=q
  have hz:=List.getElem?_eq_getElem (show k < (secT (s + (T.length : Int)) t).length by rw [zJz]; exact hk)
  have:=h1 k _ hz
  unfold vw at this
  rw [e,this]
  exact rest_sec g ⟨by omega,by omega⟩ h.c256 hz
 ·rw [h2 _ fun k hk e=>q ⟨k,hk,e⟩]
  exact (h.rest i hi).up
theorem zV4 (h : Rg r f c p s T) (up : Up r) (hs : 0 ≤ s) (hs2 : s + (T.length : Int) + 1 < 4294967296) (g : GoodT c t) (hf : tot T + (t.length + 1) ≤ c) :
  (zBu r f c ((p + tot T) % c : Nat) (s + (T.length : Int)) t).2 = ((((p + tot (T ++ [t])) % c : Nat) : Int),0) ∧ Rg (zBu r f c ((p + tot T) % c : Nat) (s + (T.length : Int)) t).1 f c p s (T ++ [t]) ∧ Up (zBu r f c ((p + tot T) % c : Nat) (s + (T.length : Int)) t).1 ∧
  (zBu r f c ((p + tot T) % c : Nat) (s + (T.length : Int)) t).1.a.length = r.a.length ∧ ∀ i,(∀ j,j < c → i ≠ f + j) → cont (zBu r f c ((p + tot T) % c : Nat) (s + (T.length : Int)) t).1 i = cont r i:=by
 have c2:=h.c2
 obtain ⟨a1,a2,a3,a4,a5,a6⟩:=appd_vw p (tot T) (s:=s + (T.length : Int)) (h.rn up) g
 exact ⟨by rw [a1,zJx],rg_snoc h hs hs2 g hf (by rw [a3]; exact h.fit) a4 a5 a6,a2.up,a3,fun i hi=>a6 i fun k hk e=>hi _ (Nat.mod_lt _ (by omega)) e⟩
end
end Go.Proofs.YtbmmnfeeapnhkaaGreat.G08
end
section
namespace Go.Proofs.YtbmmnfeeapnhkaaGreat.G08
open Go Go.Proofs.YtbmmnfeeapnhkaaGreat.Eng
def effS : List OpS → (Nat → List Int) → Nat → List Int
 | [],c=>c
 | none :: l,c=>effS l c
 | some (i,z) :: l,c=>effS l fun j=>if (j : Int) = i then z else c j
theorem zK8 : ∀ (l m : List OpS) (c : Nat → List Int),effS (l ++ m) c = effS m (effS l c)
 | [],_,_=>rfl
 | none :: l,m,c=>zK8 l m c
 | some (i,z) :: l,m,c=>zK8 l m _
theorem zQv {j : Nat} : ∀ (l : List OpS) (c : Nat → List Int),(∀ z,some ((j : Int),z) ∉ l) → effS l c j = c j
 | [],_,_=>rfl
 | none :: l,c,h=>zQv l c fun z hz=>h z (List.mem_cons_of_mem _ hz)
 | some (i,y) :: l,c,h=>by
  show effS l _ j = _
  rw [zQv l _ fun z hz=>h z (List.mem_cons_of_mem _ hz),if_neg fun e=>h y (by rw [e]; exact List.mem_cons_self)]
theorem zPp {j : Nat} {z : List Int} : ∀ (l : List OpS) (c : Nat → List Int),(some ((j : Int),z) ∈ l ∨ c j = z) → (∀ z',some ((j : Int),z') ∈ l → z' = z) → effS l c j = z
 | [],c,h,_=>h.elim (fun h=>by cases h) id
 | none :: l,c,h,u=>zPp l c (h.imp (fun h=>(List.mem_cons.1 h).elim (fun e=>by cases e) id) id) fun z' hz=>u z' (List.mem_cons_of_mem _ hz)
 | some (i,y) :: l,c,h,u=>by
  refine zPp l _ ?_ fun z' hz=>u z' (List.mem_cons_of_mem _ hz)
  by_cases e : (j : Int) = i
  ·exact .inr (by rw [if_pos e]; exact u y (by rw [e]; exact List.mem_cons_self))
  ·rcases h with h | h
   ·rcases List.mem_cons.1 h with h | h
    ·injection h with h; injection h with h _; exact absurd h e
    ·exact .inl h
   ·exact .inr (by rw [if_neg e]; exact h)
def InN (n : Nat) (l : List OpS) : Prop:=∀ i z,some (i,z) ∈ l → 0 ≤ i ∧ i < (n : Int)
theorem InN.tl {n : Nat} {o : OpS} {l : List OpS} (h : InN n (o :: l)) : InN n l:=fun i z hz=>h i z (List.mem_cons_of_mem _ hz)
theorem InN.app {n : Nat} {l m : List OpS} (h : InN n l) (h' : InN n m) : InN n (l ++ m):=fun i z hz=>(List.mem_append.1 hz).elim (h i z) (h' i z)
theorem zNi {r : RgS} {o : OpS} (h : InN r.a.length [o]) : (oneS r o).1.a.length = r.a.length:=by
 cases o with
 | none=>exact fl_len r
 | some x =>
  obtain ⟨i,z⟩:=x
  obtain ⟨h1,h2⟩:=h i z (by simp)
  obtain ⟨k,rfl⟩ : ∃ k : Nat,i = k:=⟨i.toNat,by omega⟩
  exact wr_len (by omega) z
theorem one_b (r : RgS) (o : OpS) : (oneS r o).1.b = r.b:=by
 have pb : ∀ r : RgS,r.pass.1.b = r.b:=fun r=>by unfold RgS.pass; split <;> rfl
 cases o with
 | none =>
  show (r.flush 0).1.b = r.b
  unfold RgS.flush
  rw [if_pos (.inl rfl)]
  split
  ·exact pb r
  ·exact pb r
 | some x =>
  obtain ⟨i,z⟩:=x
  show (r.write 0 i z).1.b = r.b
  unfold RgS.write
  split
  ·split
   ·exact pb r
   ·exact pb r
  ·rfl
theorem one_rc {r : RgS} {o : OpS} (h : InN r.a.length [o]) : (oneS r o).2 = 0 ∨ (oneS r o).2 = 14:=by
 have pr : ∀ r : RgS,r.pass.2 = 0 ∨ r.pass.2 = 14:=fun r=>by unfold RgS.pass; split <;> simp
 cases o with
 | none =>
  show (r.flush 0).2 = 0 ∨ (r.flush 0).2 = 14
  unfold RgS.flush
  rw [if_pos (.inl rfl)]
  split
  ·exact .inl rfl
  ·exact pr r
 | some x =>
  obtain ⟨i,z⟩:=x
  obtain ⟨h1,h2⟩:=h i z (by simp)
  show (r.write 0 i z).2 = 0 ∨ (r.write 0 i z).2 = 14
  unfold RgS.write
  rw [if_pos ⟨h1,h2⟩]
  split
  ·exact .inl rfl
  ·exact pr r
theorem one_up {r : RgS} (u : Up r) {o : OpS} (h : InN r.a.length [o]) : (oneS r o).2 = 0 ∧ Up (oneS r o).1:=by
 cases o with
 | none=>exact ⟨(zJe u).1,(zJe u).2.1⟩
 | some x =>
  obtain ⟨i,z⟩:=x
  obtain ⟨h1,h2⟩:=h i z (by simp)
  obtain ⟨k,rfl⟩ : ∃ k : Nat,i = k:=⟨i.toNat,by omega⟩
  exact ⟨(zJd u (by omega) z).1,(zJd u (by omega) z).2.1⟩
theorem one_eff {r : RgS} {o : OpS} (h : InN r.a.length [o]) (h0 : (oneS r o).2 = 0) (j : Nat) : cont (oneS r o).1 j = effS [o] (cont r) j:=by
 cases o with
 | none=>exact zX3 j
 | some x =>
  obtain ⟨i,z⟩:=x
  obtain ⟨h1,h2⟩:=h i z (by simp)
  obtain ⟨k,rfl⟩ : ∃ k : Nat,i = k:=⟨i.toNat,by omega⟩
  rw [show oneS r (some ((k : Int),z)) = r.write 0 (k : Int) z from rfl] at h0 ⊢
  rw [cont_wr (by omega) h0]
  show _ = if (j : Int) = (k : Int) then z else cont r j
  by_cases e : j = k
  ·rw [if_pos e,if_pos (by omega)]
  ·rw [if_neg e,if_neg (by omega)]
theorem InN.hd {n : Nat} {o : OpS} {l : List OpS} (h : InN n (o :: l)) : InN n [o]:=fun i z hz=>h i z (by rw [List.mem_singleton.1 hz]; exact List.mem_cons_self)
theorem zKu : ∀ (l : List OpS) {r : RgS},InN r.a.length l → (opsS r l).1.a.length = r.a.length ∧ (opsS r l).1.b = r.b ∧ ((opsS r l).2 = 0 ∨ (opsS r l).2 = 14)
 | [],r,_=>⟨rfl,rfl,.inl rfl⟩
 | o :: l,r,h=>by
  have e:=zNi h.hd
  have eb:=one_b r o
  unfold opsS
  split
  ·obtain ⟨a,b,c⟩:=zKu l (r:=(oneS r o).1) (by rw [e]; exact h.tl)
   exact ⟨by rw [a,e],by rw [b,eb],c⟩
  ·exact ⟨e,eb,one_rc h.hd⟩
theorem zWn : ∀ (l : List OpS) {r : RgS},Up r → InN r.a.length l → (opsS r l).2 = 0 ∧ Up (opsS r l).1
 | [],r,u,_=>⟨rfl,u⟩
 | o :: l,r,u,h=>by
  have e:=zNi h.hd
  obtain ⟨a,b⟩:=one_up u h.hd
  unfold opsS
  rw [if_pos a]
  exact zWn l b (by rw [e]; exact h.tl)
theorem zNh : ∀ (l : List OpS) {r : RgS},InN r.a.length l → (opsS r l).2 = 0 → ∀ j,cont (opsS r l).1 j = effS l (cont r) j
 | [],r,_,_,j=>rfl
 | o :: l,r,h,h0,j=>by
  have e:=zNi h.hd
  unfold opsS at h0 ⊢
  split at h0
  ·rename_i q
   rw [if_pos q,zNh l (by rw [e]; exact h.tl) h0 j,show o :: l = [o] ++ l from rfl,zK8]
   congr 1
   funext j
   exact one_eff h.hd q j
  ·rename_i q; exact absurd h0 q
theorem zO3 {l : List OpS} {r : RgS} (h0 : (opsS r (l ++ [none])).2 = 0) : zF8 (opsS r (l ++ [none])).1:=by
 rw [zH8] at h0 ⊢
 split at h0
 ·rename_i q
  rw [if_pos q]
  have e : opsS (opsS r l).1 [none] = (opsS r l).1.flush 0:=by
   show (if ((opsS r l).1.flush 0).2 = 0 then (((opsS r l).1.flush 0).1,0) else (opsS r l).1.flush 0) = _
   by_cases h : ((opsS r l).1.flush 0).2 = 0
   ·rw [if_pos h]; exact Prod.ext rfl h.symm
   ·rw [if_neg h]
  rw [e] at h0 ⊢
  exact zRp h0
 ·rename_i q; exact absurd h0 q
theorem one_sub {r : RgS} {A : Nat → List Int → Prop} (sb : Sub r A) {o : OpS} (h : InN r.a.length [o]) (ha : ∀ (i : Nat) z,o = some ((i : Int),z) → A i z) : Sub (oneS r o).1 A:=by
 cases o with
 | none=>exact sb.flush
 | some x =>
  obtain ⟨i,z⟩:=x
  obtain ⟨h1,h2⟩:=h i z (by simp)
  obtain ⟨k,rfl⟩ : ∃ k : Nat,i = k:=⟨i.toNat,by omega⟩
  exact sb.write (by omega) (ha k z rfl)
theorem zQj : ∀ (l : List OpS) {r : RgS} {A : Nat → List Int → Prop},Sub r A → InN r.a.length l → (∀ (i : Nat) z,some ((i : Int),z) ∈ l → A i z) → Sub (opsS r l).1 A
 | [],r,A,sb,_,_=>sb
 | o :: l,r,A,sb,h,ha=>by
  have e:=zNi h.hd
  have s1:=one_sub sb h.hd fun i z hz=>ha i z (by rw [← hz]; exact List.mem_cons_self)
  unfold opsS
  split
  ·exact zQj l s1 (by rw [e]; exact h.tl) fun i z hz=>ha i z (List.mem_cons_of_mem _ hz)
  ·exact s1
theorem ops_cut {r : RgS} (st : zF8 r) {l : List OpS} {sp : Int} {S : List Int} (h : InN r.a.length (l ++ [none,some (sp,S),none])) :
  ((opsS r (l ++ [none,some (sp,S),none])).2 ≠ 0 ∧ Sub (opsS r (l ++ [none,some (sp,S),none])).1 fun i z=>z = cont r i ∨ some ((i : Int),z) ∈ l) ∨
  ((opsS r (l ++ [none,some (sp,S),none])).2 ≠ 0 ∧ Sub (opsS r (l ++ [none,some (sp,S),none])).1 fun i z=>z = effS l (cont r) i ∨ ((i : Int) = sp ∧ z = S)) ∨
  ((opsS r (l ++ [none,some (sp,S),none])).2 = 0 ∧ zF8 (opsS r (l ++ [none,some (sp,S),none])).1):=by
 have hl : InN r.a.length l:=fun i z hz=>h i z (List.mem_append_left _ hz)
 by_cases q : (opsS r (l ++ [none,some (sp,S),none])).2 = 0
 ·exact .inr (.inr ⟨q,by
   have e : l ++ [none,some (sp,S),none] = (l ++ [none,some (sp,S)]) ++ [none]:=by simp
   rw [e] at q ⊢
   exact zO3 q⟩)
 have s1:=zQj l (A:=fun i z=>z = cont r i ∨ some ((i : Int),z) ∈ l) (st.sub.mono fun i z h=>.inl h) hl fun i z hz=>.inr hz
 have ln1:=(zKu l hl).1
 rw [zH8] at q ⊢
 by_cases q1 : (opsS r l).2 = 0
 rotate_left
 ·rw [if_neg q1] at q ⊢
  exact .inl ⟨q,s1⟩
 rw [if_pos q1] at q ⊢
 have c1:=zNh l hl q1
 generalize (opsS r l).1 = r1 at *
 have e1 : opsS r1 [none,some (sp,S),none] = if (r1.flush 0).2 = 0 then opsS (r1.flush 0).1 [some (sp,S),none] else r1.flush 0:=rfl
 rw [e1] at q ⊢
 by_cases q2 : (r1.flush 0).2 = 0
 rotate_left
 ·rw [if_neg q2] at q ⊢
  exact .inl ⟨q,s1.flush⟩
 rw [if_pos q2] at q ⊢
 refine .inr (.inl ⟨q,?_⟩)
 have st2:=zRp q2
 have l2:=fl_len r1
 refine zQj _ (st2.sub.mono fun i z hz=>.inl (by rw [hz,zX3,c1])) (fun i z hz=>?_) fun i z hz=>?_
 ·rw [l2,ln1]
  exact h i z (List.mem_append_right _ (List.mem_cons_of_mem _ hz))
 ·rcases List.mem_cons.1 hz with e | e
  ·injection e with e; injection e with e1 e2; exact .inr ⟨e1,e2⟩
  ·rcases List.mem_cons.1 e with e | e
   ·cases e
   ·cases e
end Go.Proofs.YtbmmnfeeapnhkaaGreat.G08
end
section
namespace Go.Proofs.YtbmmnfeeapnhkaaGreat.G08
open Go Go.Proofs.YtbmmnfeeapnhkaaGreat.Eng
theorem zSf : ∀ {L : List (List Int)},(∀ y ∈ L,y.length = 48) → ∀ (i k : Nat) {x : List Int},L[i]? = some x → k < 48 → L.flatten[48 * i + k]? = x[k]?
 | [],_,i,k,x,h,_=>by simp at h
 | y :: L,hl,0,k,x,h,hk=>by
  simp only [List.getElem?_cons_zero,Option.some.injEq] at h
  subst h
  have ly:=hl y (by simp)
  rw [List.flatten_cons,Nat.mul_zero,Nat.zero_add,List.getElem?_append_left (by omega)]
 | y :: L,hl,i + 1,k,x,h,hk=>by
  have ly:=hl y (by simp)
  rw [List.getElem?_cons_succ] at h
  rw [List.flatten_cons,List.getElem?_append_right (by omega),show 48 * (i + 1) + k - y.length = 48 * i + k by omega]
  exact zSf (fun z hz=>hl z (by simp [hz])) i k h hk
theorem zWh {z : List Int} {i k : Nat} (hk : k < 48) (h : 48 * i + k < z.length) : (zC8 z i)[k]? = z[48 * i + k]?:=by
 unfold zC8 padS
 rw [List.getElem?_append_left (by rw [List.length_take,List.length_drop]; omega),List.getElem?_take,if_pos hk,List.getElem?_drop]
theorem cutS_at {z : List Int} {i : Nat} (h : i < zB1 z.length) : (cutS z)[i]? = some (zC8 z i):=by
 unfold cutS
 rw [List.getElem?_map,List.getElem?_range h]; rfl
theorem zSm (z : List Int) : (cutS z).flatten.take z.length = z:=by
 apply List.ext_getElem?
 intro j
 rw [List.getElem?_take]
 split
 ·rename_i hj
  have e : j = 48 * (j / 48) + j % 48:=by omega
  have hp : j / 48 < zB1 z.length:=by unfold zB1; omega
  rw [e,zSf (cutS_48 z) (j / 48) (j % 48) (cutS_at hp) (by omega),zWh (by omega) (by omega)]
 ·rename_i hj
  rw [List.getElem?_eq_none (by omega)]
theorem cut_inj {a b : List Int} (h : cutS a = cutS b) (hl : a.length = b.length) : a = b:=by
 rw [← zSm a,← zSm b,h,hl]
theorem zMn : ∀ (l m : List (List Int)) (i : Int),l.length = m.length → zF6 i l m = [] → l = m
 | [],[],_,_,_=>rfl
 | [],_ :: _,_,h,_=>by simp at h
 | _ :: _,[],_,h,_=>by simp at h
 | a :: l,b :: m,i,hl,h=>by
  have h : (if b = a then [] else [(⟨i,b⟩ : ImS)]) ++ zF6 (i + 1) l m = []:=h
  obtain ⟨h1,h2⟩:=List.append_eq_nil_iff.1 h
  have e:=zMn l m (i + 1) (by simpa using hl) h2
  split at h1
  ·rename_i q; rw [q,e]
  ·cases h1
theorem zTv {a b : List Int} (hl : a.length = b.length) (h : zBl a b = []) : a = b:=cut_inj (zMn _ _ 0 (by rw [zCe,zCe,hl]) h) hl
theorem zMu : ∀ (l m p : List (List Int)) (i : Nat),l.length = m.length → i = p.length → zCx (p ++ l) (zF6 (i : Int) l m) = p ++ m
 | [],[],p,i,_,_=>rfl
 | [],_ :: _,_,_,h,_=>by simp at h
 | _ :: _,[],_,_,h,_=>by simp at h
 | a :: l,b :: m,p,i,hl,hi=>by
  have ih:=zMu l m (p ++ [b]) (i + 1) (by simpa using hl) (by simp [hi])
  have e : zF6 (i : Int) (a :: l) (b :: m) = (if b = a then [] else [(⟨(i : Int),b⟩ : ImS)]) ++ zF6 ((i + 1 : Nat) : Int) l m:=by
   rw [show ((i + 1 : Nat) : Int) = (i : Int) + 1 by omega]; rfl
  rw [e]
  have q : p ++ [b] ++ l = p ++ b :: l:=by simp
  rw [q,show p ++ [b] ++ m = p ++ b :: m by simp] at ih
  by_cases h : b = a
  ·rw [if_pos h,List.nil_append,← h]; exact ih
  ·rw [if_neg h]
   show zCx (zDm (p ++ a :: l) ⟨(i : Int),b⟩) _ = _
   have : zDm (p ++ a :: l) ⟨(i : Int),b⟩ = p ++ b :: l:=by
    unfold zDm
    rw [if_pos (by simp; omega)]
    show (p ++ a :: l).set ((i : Nat) : Int).toNat b = _
    rw [Int.toNat_natCast,hi,List.set_append_right _ _ (Nat.le_refl _),Nat.sub_self]; rfl
   rw [this]; exact ih
theorem zRd {a b : List Int} (hl : a.length = b.length) : zCx (cutS a) (zBl a b) = cutS b:=zMu (cutS a) (cutS b) [] 0 (by rw [zCe,zCe,hl]) rfl
def MixL (N l l' : List (List Int)) : Prop:=l'.length = l.length ∧ ∀ i : Nat,l'[i]? = l[i]? ∨ l'[i]? = N[i]?
theorem MixL.app {N l l' : List (List Int)} (h : MixL N l l') (x : ImS) : MixL N (zDm l x) (zDm l' x):=by
 obtain ⟨h1,h2⟩:=h
 unfold zDm
 rw [h1]
 split
 ·refine ⟨by simp [h1],fun i=>?_⟩
  rw [List.getElem?_set,List.getElem?_set,h1]
  split
  ·exact .inl rfl
  ·exact h2 i
 ·exact ⟨h1,h2⟩
theorem MixL.appT {N : List (List Int)} : ∀ (t : List ImS) {l l' : List (List Int)},MixL N l l' → MixL N (zCx l t) (zCx l' t)
 | [],_,_,h=>h
 | x :: t,_,_,h=>MixL.appT t (h.app x)
theorem MixL.appTT {N : List (List Int)} : ∀ (T : List (List ImS)) {l l' : List (List Int)},MixL N l l' → MixL N (T.foldl zCx l) (T.foldl zCx l')
 | [],_,_,h=>h
 | t :: T,_,_,h=>MixL.appTT T (h.appT t)
theorem mix_now {N H H' : List (List Int)} {T : List (List ImS)} (h : MixL N H H') (e : T.foldl zCx H = N) : T.foldl zCx H' = N:=by
 obtain ⟨h1,h2⟩:=h.appTT T
 rw [e] at h1 h2
 exact List.ext_getElem? fun i=>(h2 i).elim id id
theorem zWb {p : PtS} (f : p.Fit) : zEl (zEk p) = p:=by
 obtain ⟨⟨b,s,w,a,r⟩,gen,at_,seq⟩:=p
 obtain ⟨⟨g1,g2,g3,g4,g5⟩,h1,h2,h3⟩:=f
 have e:=fun k n=>zJ1 k n
 show (⟨⟨getS (putS 2 b),getS (putS 1 s),getS (putS 1 w),getS (putS 2 a),getS (putS 2 r)⟩,gen,getS (putS 2 at_),getS (putS 4 seq)⟩ : PtS) = _
 have q1 : (256 : Int) ^ 1 = 256:=rfl
 have q2 : (256 : Int) ^ 2 = 65536:=rfl
 have q4 : (256 : Int) ^ 4 = 4294967296:=rfl
 simp only at g1 g2 g3 g4 g5 h2 h3
 rw [e 2 b g1.1 (by rw [q2]; omega),e 1 s g2.1 (by rw [q1]; omega),e 1 w g3.1 (by rw [q1]; omega),e 2 a g4.1 (by rw [q2]; omega),e 2 r g5.1 (by rw [q2]; omega),e 2 at_ h2.1 (by rw [q2]; omega),e 4 seq h3.1 (by rw [q4]; omega)]
theorem zWf {p : PtS} (f : p.Fit) (g : p.g.good = true) (a : p.at_ < p.g.r) : ptS (zC0 p) = (p,true):=by
 have d : decS (zC0 p) = (zEk p,0):=zQy (p:=zEk p) (zKd f.gen) rfl
 unfold ptS
 rw [d,if_pos rfl]
 unfold ptOk
 rw [zWb f,g,decide_eq_true rfl,decide_eq_true a]; rfl
theorem ptS_zero : ptS z64 = (zpt,false):=by
 unfold ptS
 rw [zSl]
 rfl
end Go.Proofs.YtbmmnfeeapnhkaaGreat.G08
end
section
namespace Go.Proofs.YtbmmnfeeapnhkaaGreat.G08
open Go Go.Proofs.YtbmmnfeeapnhkaaGreat.Eng
structure Mi (r : RgS) (m : MtS) (p : Nat) (s : Int) (T : List (List ImS)) : Prop where
 ok : m.Ok
 ring : Rg r 2 m.g.r.toNat p s T
 pl : p < m.g.r.toNat
 s0 : 0 ≤ s
 tail : m.tail = ((p + tot T) % m.g.r.toNat : Nat)
 next : m.next = s + (T.length : Int)
 la : m.g.fast ≤ (r.a.length : Int)
 lb : m.g.slow ≤ (r.b.length : Int)
 sup : cont r m.place.toNat = zC0 ⟨m.g,m.gen,(p : Int),s⟩
 oth : (ptS (cont r (1 - m.place).toNat)).2 = true → (ptS (cont r (1 - m.place).toNat)).1.gen < m.gen
 home : ∀ (i : Nat) x,m.home[i]? = some x → cont r (m.g.home.toNat + i) = zEv (i : Int) x
 now : T.foldl zCx m.home = cutS m.b
 used : m.used = zFb T
theorem zGg : ∀ T : List (List ImS),zFb T = (tot T : Int)
 | []=>rfl
 | t :: T=>by rw [zFl,zM3,zGg T]; push_cast; omega
section
variable {r : RgS} {m : MtS} {p : Nat} {s : Int} {T : List (List ImS)} (h : Mi r m p s T)
include h
theorem Mi.fit (hb : m.next < 4294967296) : (⟨m.g,m.gen,(p : Int),s⟩ : PtS).Fit ∧ ((p : Nat) : Int) < m.g.r:=by
 have N:=m.g.nm h.ok.g
 have hr:=N.hr; have hp:=N.hp; have pl:=h.pl; have nx:=h.next; have s0:=h.s0
 exact ⟨⟨fitG h.ok.g,h.ok.gen,⟨by show (0 : Int) ≤ (p : Int); omega,by show (p : Int) < 65536; omega⟩,⟨s0,by show s < 4294967296; omega⟩⟩,by omega⟩
end
theorem zL8 : ∀ (n : Nat) (f : Int) {i : Int} {z : List Int},some (i,z) ∈ zCi f n → z = z64 ∧ f ≤ i ∧ i < f + n
 | 0,f,i,z,h=>by cases h
 | n + 1,f,i,z,h=>by
  rcases List.mem_cons.1 h with e | e
  ·injection e with e; injection e with e1 e2; exact ⟨e2,by omega,by omega⟩
  ·obtain ⟨a,b,c⟩:=zL8 n (f + 1) e
   exact ⟨a,by omega,by push_cast; omega⟩
theorem zLu : ∀ (n : Nat) (f : Int) (k : Nat),k < n → some (f + (k : Int),z64) ∈ zCi f n
 | 0,f,k,h=>by omega
 | n + 1,f,0,h=>by simp [zCi]
 | n + 1,f,k + 1,h=>by
  refine List.mem_cons_of_mem _ ?_
  have:=zLu n (f + 1) k (by omega)
  rw [show f + ((k + 1 : Nat) : Int) = f + 1 + (k : Int) by push_cast; omega]; exact this
theorem zL9 {h : Int} : ∀ (l : List (List Int)) (i : Nat) {j : Int} {z : List Int},some (j,z) ∈ zDi h (i : Int) l → ∃ k x,l[k]? = some x ∧ j = h + ((i + k : Nat) : Int) ∧ z = zEv ((i + k : Nat) : Int) x
 | [],i,j,z,e=>by cases e
 | x :: l,i,j,z,e=>by
  rcases List.mem_cons.1 e with e | e
  ·injection e with e; injection e with e1 e2; exact ⟨0,x,rfl,e1,e2⟩
  ·rw [show (i : Int) + 1 = ((i + 1 : Nat) : Int) by omega] at e
   obtain ⟨k,y,h1,h2,h3⟩:=zL9 l (i + 1) e
   exact ⟨k + 1,y,by rw [List.getElem?_cons_succ]; exact h1,by rw [h2]; congr 2; omega,by rw [h3]; congr 2; omega⟩
theorem zMf {h : Int} : ∀ (l : List (List Int)) (i k : Nat) {x : List Int},l[k]? = some x → some (h + ((i + k : Nat) : Int),zEv ((i + k : Nat) : Int) x) ∈ zDi h (i : Int) l
 | [],i,k,x,e=>by simp at e
 | y :: l,i,0,x,e=>by
  simp only [List.getElem?_cons_zero,Option.some.injEq] at e
  subst e
  exact List.mem_cons_self
 | y :: l,i,k + 1,x,e=>by
  rw [List.getElem?_cons_succ] at e
  have:=zMf (h:=h) l (i + 1) k e
  rw [show i + 1 + k = i + (k + 1) by omega,show ((i + 1 : Nat) : Int) = (i : Int) + 1 by omega] at this
  exact List.mem_cons_of_mem _ this
theorem zIy {h : Int} : ∀ (l o : List (List Int)) (i : Nat) {j : Int} {z : List Int},some (j,z) ∈ zEt h (i : Int) l o → ∃ k x,l[k]? = some x ∧ j = h + ((i + k : Nat) : Int) ∧ z = zEv ((i + k : Nat) : Int) x
 | [],_,i,j,z,e=>by cases e
 | _ :: _,[],i,j,z,e=>by cases e
 | x :: l,y :: o,i,j,z,e=>by
  have e : some (j,z) ∈ (if x = y then [] else [(some (h + (i : Int),zEv (i : Int) x) : OpS)]) ++ zEt h ((i : Int) + 1) l o:=e
  rcases List.mem_append.1 e with e | e
  ·split at e
   ·cases e
   ·have e:=List.mem_singleton.1 e
    injection e with e; injection e with e1 e2; exact ⟨0,x,rfl,e1,e2⟩
  ·rw [show (i : Int) + 1 = ((i + 1 : Nat) : Int) by omega] at e
   obtain ⟨k,y,h1,h2,h3⟩:=zIy l o (i + 1) e
   exact ⟨k + 1,y,by rw [List.getElem?_cons_succ]; exact h1,by rw [h2]; congr 2; omega,by rw [h3]; congr 2; omega⟩
theorem zMr {h : Int} : ∀ (l o : List (List Int)) (i k : Nat) {x y : List Int},l[k]? = some x → o[k]? = some y → x ≠ y → some (h + ((i + k : Nat) : Int),zEv ((i + k : Nat) : Int) x) ∈ zEt h (i : Int) l o
 | [],_,i,k,x,y,e,_,_=>by simp at e
 | _ :: _,[],i,k,x,y,_,e,_=>by simp at e
 | a :: l,b :: o,i,0,x,y,e,e',ne=>by
  simp only [List.getElem?_cons_zero,Option.some.injEq] at e e'
  subst e e'
  show _ ∈ (if a = b then [] else [(some (h + (i : Int),zEv (i : Int) a) : OpS)]) ++ _
  rw [if_neg ne]
  exact List.mem_cons_self
 | a :: l,b :: o,i,k + 1,x,y,e,e',ne=>by
  rw [List.getElem?_cons_succ] at e e'
  have:=zMr (h:=h) l o (i + 1) k e e' ne
  rw [show i + 1 + k = i + (k + 1) by omega,show ((i + 1 : Nat) : Int) = (i : Int) + 1 by omega] at this
  exact List.mem_append_right _ this
end Go.Proofs.YtbmmnfeeapnhkaaGreat.G08
end
section
namespace Go.Proofs.YtbmmnfeeapnhkaaGreat.G08
open Go Go.Proofs.YtbmmnfeeapnhkaaGreat.Eng
theorem good_gt {c : Nat} {D : List ImS} (hd : ∀ x ∈ D,ImOk x) (h1 : D ≠ []) (hf : D.length + 1 ≤ c) : GoodT c D:=by
 refine ⟨List.length_pos_iff.2 h1,List.all_eq_true.2 fun x hx=>?_,fun x hx=>(hd x hx).2.2,hf⟩
 obtain ⟨a,b,_⟩:=hd x hx
 unfold okIm
 rw [decide_eq_true a,decide_eq_true b]; rfl
section
variable {f c a s : Int} (hf : 0 ≤ f) (ha : 0 ≤ a) (hc : 2 ≤ c)
include hf hc
include ha
end
def zQm (m : MtS) (b : List Int) (D : List ImS) : MtS:={ m with b:=b,tail:=(m.tail + (D.length : Int) + 1).tmod m.g.r,next:=IntKind.u32.wrap (m.next + 1),used:=m.used + (D.length : Int) + 1 }
section
variable {r : RgS} {m : MtS} {p : Nat} {s : Int} {T : List (List ImS)} (h : Mi r m p s T)
include h
theorem Mi.nums : 9 ≤ m.g.fast ∧ m.g.fast = 2 + m.g.r + m.g.pages + m.g.s * m.g.w ∧ (m.g.home.toNat = 2 + m.g.r.toNat ∧ m.g.home = 2 + m.g.r) ∧ (m.home.length : Int) = m.g.pages ∧ (m.g.pages + 2 ≤ m.g.r ∧ m.g.r ≤ 256) ∧ (1 ≤ m.g.pages ∧ m.g.pages ≤ 20) ∧ 1 ≤ m.g.s * m.g.w:=by
 have N:=m.g.nm h.ok.g
 have hr:=N.hr; have hp:=N.hp; have hn:=N.hn; have hc:=N.hc; have hb:=N.hb
 have e : m.g.bytes = 10 + m.g.s * m.g.w + m.g.b + 8 * (4 + (m.g.b + 7) / 8 + m.g.b):=rfl
 refine ⟨?_,rfl,⟨?_,rfl⟩,h.ok.hl,hr,hp,hn.1⟩
 ·unfold GmS.fast; omega
 ·unfold GmS.home; omega
theorem Mi.same {r2 : RgS} (l : r2.a.length = r.a.length) (lb : r2.b.length = r.b.length) (ring : Rg r2 2 m.g.r.toNat p s T) (e : ∀ i,i < r.a.length → (∀ j,j < m.g.r.toNat → i ≠ 2 + j) → cont r2 i = cont r i) : Mi r2 m p s T:=by
 obtain ⟨n1,n2,⟨n3,n3'⟩,n4,n5,n6,n7⟩:=h.nums
 have la:=h.la; have pl:=h.ok.place
 refine ⟨h.ok,ring,h.pl,h.s0,h.tail,h.next,by rw [l]; exact h.la,by rw [lb]; exact h.lb,?_,?_,fun i x hx=>?_,h.now,h.used⟩
 ·rw [e _ (by omega) fun j _=>by omega]; exact h.sup
 ·rw [e _ (by omega) fun j _=>by omega]; exact h.oth
 ·have:=(List.getElem?_eq_some_iff.1 hx).1
  rw [e _ (by omega) fun j hj=>by omega]
  exact h.home i x hx
theorem Mi.more {r2 : RgS} {b : List Int} (hb : b.length = m.b.length) (hu : IsU8 b) (nx : m.next + 1 < 4294967296) (dl : zBl m.b b ≠ []) (fitT : tot T + ((zBl m.b b).length + 1) ≤ m.g.r.toNat)
  (l : r2.a.length = r.a.length) (lb : r2.b.length = r.b.length) (ring : Rg r2 2 m.g.r.toNat p s (T ++ [zBl m.b b])) (e : ∀ i,i < r.a.length → (∀ j,j < m.g.r.toNat → i ≠ 2 + j) → cont r2 i = cont r i) : Mi r2 (zQm m b (zBl m.b b)) p s (T ++ [zBl m.b b]):=by
 obtain ⟨n1,n2,⟨n3,n3'⟩,n4,n5,n6,n7⟩:=h.nums
 have la:=h.la; have pl:=h.ok.place; have tl:=h.tail; have us:=h.used
 have un:=h.ok.used; have nn:=h.ok.next; have hnx:=h.next
 rw [zGg] at us
 have wn : IntKind.u32.wrap (m.next + 1) = m.next + 1:=by show (m.next + 1) % 4294967296 = _; omega
 have e1:=zKs p (tot T) ((zBl m.b b).length + 1) m.g.r.toNat
 have tl' : (zQm m b (zBl m.b b)).tail = ((p + tot (T ++ [zBl m.b b])) % m.g.r.toNat : Nat):=by
  show (m.tail + ((zBl m.b b).length : Int) + 1).tmod m.g.r = _
  rw [tl,Int.add_assoc,show (((zBl m.b b).length : Int) + 1) = (((zBl m.b b).length + 1 : Nat) : Int) by push_cast; rfl,show m.g.r = ((m.g.r.toNat : Nat) : Int) by omega,Int.toNat_natCast,e1,zJx]
 refine ⟨⟨h.ok.g,?_,hu,h.ok.hl,h.ok.hh,h.ok.gen,pl,?_,?_,?_⟩,ring,h.pl,h.s0,tl',?_,by rw [l]; exact h.la,by rw [lb]; exact h.lb,?_,?_,fun i x hx=>?_,?_,?_⟩
 ·show (b.length : Int) = m.g.bytes
  rw [hb]; exact h.ok.bl
 ·rw [tl']
  have:=Nat.mod_lt (p + tot (T ++ [zBl m.b b])) (show m.g.r.toNat > 0 by omega)
  show 0 ≤ _ ∧ _ < m.g.r
  omega
 ·show 0 ≤ IntKind.u32.wrap (m.next + 1) ∧ IntKind.u32.wrap (m.next + 1) < 4294967296
  rw [wn]; omega
 ·show 0 ≤ m.used + ((zBl m.b b).length : Int) + 1 ∧ m.used + ((zBl m.b b).length : Int) + 1 ≤ 100000
  omega
 ·show IntKind.u32.wrap (m.next + 1) = _
  rw [wn,List.length_append,List.length_singleton]; push_cast; omega
 ·show cont r2 m.place.toNat = zC0 ⟨m.g,m.gen,(p : Int),s⟩
  rw [e _ (by omega) fun j _=>by omega]; exact h.sup
 ·show (ptS (cont r2 (1 - m.place).toNat)).2 = true → (ptS (cont r2 (1 - m.place).toNat)).1.gen < m.gen
  rw [e _ (by omega) fun j _=>by omega]; exact h.oth
 ·have hx : m.home[i]? = some x:=hx
  have:=(List.getElem?_eq_some_iff.1 hx).1
  show cont r2 (m.g.home.toNat + i) = _
  rw [e _ (by omega) fun j hj=>by omega]
  exact h.home i x hx
 ·show (T ++ [zBl m.b b]).foldl zCx m.home = cutS b
  rw [List.foldl_append,h.now]
  exact zRd hb.symm
 ·show m.used + ((zBl m.b b).length : Int) + 1 = zFb (T ++ [zBl m.b b])
  rw [zGg,zJx,us]; push_cast; omega
theorem Mi.args : m.tail = (((p + tot T) % m.g.r.toNat : Nat) : Int) ∧ m.g.r = ((m.g.r.toNat : Nat) : Int) ∧ m.next = s + (T.length : Int):=⟨h.tail,by have:=h.nums; omega,h.next⟩
theorem Mi.appd (D : List ImS) : zBu r 2 m.g.r m.tail m.next D = zBu r ((2 : Nat) : Int) ((m.g.r.toNat : Nat) : Int) (((p + tot T) % m.g.r.toNat : Nat) : Int) (s + (T.length : Int)) D:=by
 obtain ⟨a,b,c⟩:=h.args
 rw [← a,← b,← c]; rfl
theorem appdS_b (r : RgS) (f c a s : Int) (l : List ImS) : (zBu r f c a s l).1.b = r.b:=by
 refine zUr (P:=fun r'=>r'.b = r.b) (fun r' i z e=>?_) (fun r' e=>?_) f c a s l rfl
 ·rw [show (r'.write 0 i z) = oneS r' (some (i,z)) from rfl,one_b]; exact e
 ·rw [show (r'.flush 0) = oneS r' none from rfl,one_b]; exact e
theorem Mi.append (up : Up r) {b : List Int} (hb : b.length = m.b.length) (hu : IsU8 b) (nx : m.next + 1 < 4294967296) (dl : zBl m.b b ≠ []) (fitT : tot T + ((zBl m.b b).length + 1) ≤ m.g.r.toNat) :
  (zCy r m b (zBl m.b b)).2.2 = 0 ∧ (zCy r m b (zBl m.b b)).2.1 = zQm m b (zBl m.b b) ∧ Up (zCy r m b (zBl m.b b)).1 ∧ Mi (zCy r m b (zBl m.b b)).1 (zQm m b (zBl m.b b)) p s (T ++ [zBl m.b b]):=by
 have bl:=h.ok.bl; have N:=m.g.nm h.ok.g; have hy:=N.hy
 have hnx:=h.next
 obtain ⟨dok,_⟩:=zJ5 (was:=m.b) (now:=b) hu (by omega)
 have g:=good_gt (c:=m.g.r.toNat) dok dl (by omega)
 obtain ⟨a1,a2,a3,a4,a5⟩:=zV4 h.ring up h.s0 (by omega) g fitT
 have ab:=appdS_b h r ((2 : Nat) : Int) ((m.g.r.toNat : Nat) : Int) (((p + tot T) % m.g.r.toNat : Nat) : Int) (s + (T.length : Int)) (zBl m.b b)
 rw [← h.appd] at a1 a2 a3 a4 a5 ab
 have e0 : (zBu r 2 m.g.r m.tail m.next (zBl m.b b)).2.2 = 0:=by rw [a1]
 have eA : zCy r m b (zBl m.b b) = ((zBu r 2 m.g.r m.tail m.next (zBl m.b b)).1,zQm m b (zBl m.b b),0):=by
  unfold zCy zQm
  rw [if_pos e0,(zP8 e0).1]
 rw [eA]
 refine ⟨rfl,rfl,a3,h.more hb hu nx dl fitT a4 (by rw [ab]) a2 fun i hi hn=>a5 i hn⟩
end
end Go.Proofs.YtbmmnfeeapnhkaaGreat.G08
end
section
namespace Go.Proofs.YtbmmnfeeapnhkaaGreat.G08
open Go Go.Proofs.YtbmmnfeeapnhkaaGreat.Eng
theorem zX0 (r : RgS) (za zb : List Int) : (r.crash za zb).b.length = r.b.length:=zC4 _ _
theorem zMo {r : RgS} (st : zF8 r) (za zb : List Int) {i : Nat} (hi : i < r.a.length) : cont (r.crash za zb) i = cont r i:=zPu st.sub za zb hi
def carF (m : MtS) : List OpS:=zEt m.g.home 0 (cutS m.b) m.home
section
variable {r : RgS} {m : MtS} {p : Nat} {s : Int} {T : List (List ImS)} (h : Mi r m p s T)
include h
theorem Mi.crash (za zb : List Int) : Mi (r.crash za zb) m p s T :=
 h.same (zLb _ _ _) (zX0 _ _ _) (h.ring.same (by rw [zLb]; exact h.ring.fit) (zLa _ _ _) fun i hi=>zMo h.ring.still za zb (by have:=h.ring.fit; omega)) fun i hi _=>zMo h.ring.still za zb hi
theorem Mi.cl : (cutS m.b).length = m.home.length:=by
 have a : ((cutS m.b).length : Int) = m.g.pages:=h.ok.carry.hl
 have:=h.ok.hl; omega
theorem Mi.memF {j : Nat} {z : List Int} (hz : some ((j : Int),z) ∈ carF m) : ∃ i x,(cutS m.b)[i]? = some x ∧ i < m.home.length ∧ j = m.g.home.toNat + i ∧ z = zEv (i : Int) x:=by
 obtain ⟨n1,n2,⟨n3,n3'⟩,_⟩:=h.nums
 obtain ⟨k,x,hx,e1,e2⟩:=zIy (h:=m.g.home) (cutS m.b) m.home 0 hz
 rw [Nat.zero_add] at e1 e2
 have:=(List.getElem?_eq_some_iff.1 hx).1
 rw [h.cl] at this
 exact ⟨k,x,hx,this,by have:=h.nums; omega,e2⟩
theorem Mi.effI {i : Nat} {x : List Int} (hx : (cutS m.b)[i]? = some x) : effS (carF m) (cont r) (m.g.home.toNat + i) = zEv (i : Int) x:=by
 have n:=h.nums
 have il:=(List.getElem?_eq_some_iff.1 hx).1
 obtain ⟨y,hy⟩ : ∃ y,m.home[i]? = some y:=⟨_,List.getElem?_eq_getElem (show i < m.home.length by rw [← h.cl]; exact il)⟩
 refine zPp _ _ ?_ fun z' hz=>?_
 ·by_cases q : x = y
  ·rw [q]; exact .inr (h.home i y hy)
  ·refine .inl ?_
   have:=zMr (h:=m.g.home) (cutS m.b) m.home 0 i hx hy q
   rw [Nat.zero_add] at this
   rw [show ((m.g.home.toNat + i : Nat) : Int) = m.g.home + (i : Int) by omega]
   exact this
 ·obtain ⟨k,w,hw,_,e,rfl⟩:=h.memF hz
  obtain rfl : k = i:=by omega
  rw [hx] at hw
  rw [Option.some.inj hw]
theorem Mi.effO {j : Nat} (hj : ∀ i,i < m.home.length → j ≠ m.g.home.toNat + i) : effS (carF m) (cont r) j = cont r j :=
 zQv _ _ fun z hz=>by
  obtain ⟨k,x,_,hk,e,_⟩:=h.memF hz
  exact hj k hk e
theorem Mi.inF : InN r.a.length (zAr m):=by
 have n:=h.nums; have la:=h.la; have pl:=h.ok.place
 refine InN.app (fun i z hz=>?_) fun i z hz=>?_
 ·obtain ⟨k,x,hx,e1,_⟩:=zIy (h:=m.g.home) (cutS m.b) m.home 0 hz
  have:=(List.getElem?_eq_some_iff.1 hx).1
  rw [h.cl] at this
  rw [Nat.zero_add] at e1
  omega
 ·simp only [List.mem_cons,List.not_mem_nil,or_false] at hz
  rcases hz with hz | hz | hz
  ·cases hz
  ·injection hz with hz; injection hz with e1 e2; omega
  ·cases hz
theorem Mi.mixed {r2 : RgS} (l : r2.a.length = r.a.length) (lb : r2.b.length = r.b.length) (st : zF8 r2) {hm : List (List Int)} (mx : MixL (cutS m.b) m.home hm) (hc : ∀ (i : Nat) x,hm[i]? = some x → cont r2 (m.g.home.toNat + i) = zEv (i : Int) x)
  (ho : ∀ j,j < r.a.length → (∀ i,i < m.home.length → j ≠ m.g.home.toNat + i) → cont r2 j = cont r j) : Mi r2 { m with home:=hm } p s T:=by
 obtain ⟨n1,n2,⟨n3,n3'⟩,n4,n5,n6,n7⟩:=h.nums
 have la:=h.la; have pl:=h.ok.place; have hml:=mx.1
 refine ⟨⟨h.ok.g,h.ok.bl,h.ok.bu,by show (hm.length : Int) = m.g.pages; omega,fun x hx=>?_,h.ok.gen,pl,h.ok.tail,h.ok.next,h.ok.used⟩,h.ring.same (by rw [l]; exact h.ring.fit) st fun i hi=>ho _ (by have:=h.ring.fit; omega) fun k hk=>by show 2 + i ≠ m.g.home.toNat + k; omega,h.pl,h.s0,h.tail,h.next,by rw [l]; exact h.la,by rw [lb]; exact h.lb,?_,?_,hc,mix_now mx h.now,h.used⟩
 ·obtain ⟨i,hi⟩:=List.mem_iff_getElem?.1 hx
  rcases mx.2 i with e | e
  ·exact h.ok.hh x (List.mem_of_getElem? (e.symm.trans hi))
  ·exact zFg h.ok.bu x (List.mem_of_getElem? (e.symm.trans hi))
 ·show cont r2 m.place.toNat = zC0 ⟨m.g,m.gen,(p : Int),s⟩
  rw [ho _ (by omega) fun k hk=>by omega]; exact h.sup
 ·show (ptS (cont r2 (1 - m.place).toNat)).2 = true → (ptS (cont r2 (1 - m.place).toNat)).1.gen < m.gen
  rw [ho _ (by omega) fun k hk=>by omega]; exact h.oth
theorem Mi.carried {r2 : RgS} (gn : m.gen + 1 < 4294967296) (nx : m.next < 4294967296) (l : r2.a.length = r.a.length) (lb : r2.b.length = r.b.length) (st : zF8 r2) (e : ∀ j,j < r.a.length → cont r2 j = if (j : Int) = 1 - m.place then zC0 (zD2 m) else effS (carF m) (cont r) j) : Mi r2 (zDl m) m.tail.toNat m.next []:=by
 obtain ⟨n1,n2,⟨n3,n3'⟩,n4,n5,n6,n7⟩:=h.nums
 have la:=h.la; have pl:=h.ok.place; have tl:=h.ok.tail; have nn:=h.ok.next; have hg:=h.ok.gen
 have wg : IntKind.u32.wrap (m.gen + 1) = m.gen + 1:=by show (m.gen + 1) % 4294967296 = _; omega
 have out : ∀ j,j < r.a.length → (j : Int) ≠ 1 - m.place → (∀ i,i < m.home.length → j ≠ m.g.home.toNat + i) → cont r2 j = cont r j:=fun j hj h1 h2=>by rw [e j hj,if_neg h1,h.effO h2]
 obtain ⟨fp,pr⟩:=h.fit nx
 have ring:=h.ring.anew m.tail.toNat
 rw [← h.next] at ring
 refine ⟨h.ok.carry,ring.same (by rw [l]; exact h.ring.fit) st fun i hi=>out _ (by have:=h.ring.fit; have : i < m.g.r.toNat:=hi; omega) (by omega) fun k hk=>by have : i < m.g.r.toNat:=hi; omega,by show m.tail.toNat < m.g.r.toNat; omega,nn.1,?_,?_,by rw [l]; exact h.la,by rw [lb]; exact h.lb,?_,?_,fun i x hx=>?_,rfl,rfl⟩
 ·show m.tail = ((m.tail.toNat + 0) % m.g.r.toNat : Nat)
  rw [Nat.add_zero,Nat.mod_eq_of_lt (by omega)]; omega
 ·show m.next = m.next + ((0 : Nat) : Int)
  omega
 ·show cont r2 (1 - m.place).toNat = zC0 ⟨m.g,IntKind.u32.wrap (m.gen + 1),((m.tail.toNat : Nat) : Int),m.next⟩
  rw [e _ (by omega),if_pos (by omega),show ((m.tail.toNat : Nat) : Int) = m.tail by omega]; rfl
 ·show (ptS (cont r2 (1 - (1 - m.place)).toNat)).2 = true → (ptS (cont r2 (1 - (1 - m.place)).toNat)).1.gen < IntKind.u32.wrap (m.gen + 1)
  rw [show (1 - (1 - m.place)) = m.place by omega,out _ (by omega) (by omega) fun k hk=>by omega,h.sup,zWf fp h.ok.g pr,wg]
  intro _
  show m.gen < m.gen + 1
  omega
 ·have hx : (cutS m.b)[i]? = some x:=hx
  have il:=(List.getElem?_eq_some_iff.1 hx).1
  rw [h.cl] at il
  show cont r2 (m.g.home.toNat + i) = _
  rw [e _ (by omega),if_neg (by omega),h.effI hx]
theorem Mi.carry (gn : m.gen + 1 < 4294967296) (nx : m.next < 4294967296) (h0 : (opsS r (zAr m)).2 = 0) (st : zF8 (opsS r (zAr m)).1) : Mi (opsS r (zAr m)).1 (zDl m) m.tail.toNat m.next []:=by
 obtain ⟨l,lb,_⟩:=zKu (zAr m) h.inF
 refine h.carried gn nx l (by rw [lb]) st fun j hj=>?_
 rw [zNh _ h.inF h0]
 show effS (carF m ++ [none,some (1 - m.place,zC0 (zD2 m)),none]) (cont r) j = _
 rw [zK8]; rfl
theorem Mi.carry_cut (gn : m.gen + 1 < 4294967296) (nx : m.next < 4294967296) (za zb : List Int) : (((opsS r (zAr m)).2 = 0 ∨ (opsS r (zAr m)).2 = 14) ∧ ((opsS r (zAr m)).2 = 0 → zF8 (opsS r (zAr m)).1)) ∧ ∃ m' p' s' T',Mi ((opsS r (zAr m)).1.crash za zb) m' p' s' T' ∧ m'.g = m.g ∧ m'.gen ≤ m.gen + 1 ∧ m'.next = m.next ∧ m'.b = m.b:=by
 obtain ⟨n1,n2,⟨n3,n3'⟩,n4,n5,n6,n7⟩:=h.nums
 have la:=h.la; have pl:=h.ok.place
 obtain ⟨l,lb,rc⟩:=zKu (zAr m) h.inF
 have ct:=ops_cut h.ring.still (l:=carF m) (sp:=1 - m.place) (S:=zC0 (zD2 m)) h.inF
 have eo : carF m ++ [none,some (1 - m.place,zC0 (zD2 m)),none] = zAr m:=rfl
 rw [eo] at ct
 have l2 : ((opsS r (zAr m)).1.crash za zb).a.length = r.a.length:=by rw [zLb,l]
 have lb2 : ((opsS r (zAr m)).1.crash za zb).b.length = r.b.length:=by rw [zX0,lb]
 have st2:=zLa (opsS r (zAr m)).1 za zb
 have cw : ∀ {B : Nat → List Int → Prop},Sub (opsS r (zAr m)).1 B → ∀ i,i < r.a.length → B i (cont ((opsS r (zAr m)).1.crash za zb) i):=fun sb i hi=>zPu sb za zb (by rw [l]; exact hi)
 rcases ct with ⟨ne,sb⟩ | ⟨ne,sb⟩ | ⟨e0,st⟩
 ·refine ⟨⟨rc,fun e=>absurd e ne⟩,?_⟩
  have cs:=cw sb
  generalize (opsS r (zAr m)).1.crash za zb = r2 at *
  obtain ⟨hm,hhm⟩ : ∃ hm,hm = (List.range m.home.length).map fun i=>if cont r2 (m.g.home.toNat + i) = zEv (i : Int) ((m.home[i]?).getD []) then (m.home[i]?).getD [] else ((cutS m.b)[i]?).getD []:=⟨_,rfl⟩
  have hml : hm.length = m.home.length:=by rw [hhm]; simp
  have hat : ∀ i,i < m.home.length → hm[i]? = some (if cont r2 (m.g.home.toNat + i) = zEv (i : Int) ((m.home[i]?).getD []) then (m.home[i]?).getD [] else ((cutS m.b)[i]?).getD []):=fun i hi=>by
   rw [hhm,List.getElem?_map,List.getElem?_range hi]; rfl
  refine ⟨{ m with home:=hm },p,s,T,h.mixed l2 lb2 st2 ⟨hml,fun i=>?_⟩ (fun i x hx=>?_) fun j hj hn=>?_,rfl,by show m.gen ≤ m.gen + 1; omega,rfl,rfl⟩
  ·by_cases hi : i < m.home.length
   ·have e1:=List.getElem?_eq_getElem hi
    have e2:=List.getElem?_eq_getElem (show i < (cutS m.b).length by rw [h.cl]; exact hi)
    rw [hat i hi,e1,e2]
    simp only [Option.getD_some]
    split
    ·exact .inl rfl
    ·exact .inr rfl
   ·rw [List.getElem?_eq_none (by omega),List.getElem?_eq_none (by omega)]
    exact .inl rfl
  ·have hi:=(List.getElem?_eq_some_iff.1 hx).1
   rw [hml] at hi
   have e1:=List.getElem?_eq_getElem hi
   have e2:=List.getElem?_eq_getElem (show i < (cutS m.b).length by rw [h.cl]; exact hi)
   have hx2:=hx
   rw [hat i hi,e1,e2] at hx2
   simp only [Option.getD_some,Option.some.injEq] at hx2
   split at hx2
   ·rename_i q; rw [← hx2]; exact q
   ·rename_i q
    rw [← hx2]
    rcases cs (m.g.home.toNat + i) (by omega) with c | c
    ·exact absurd (c.trans (h.home i _ e1)) q
    ·obtain ⟨k,w,hw,_,e,ez⟩:=h.memF c
     obtain rfl : i = k:=by omega
     rw [e2] at hw
     rw [ez,← Option.some.inj hw]
  ·rcases cs j hj with c | c
   ·exact c
   ·obtain ⟨k,_,_,hk,e,_⟩:=h.memF c
    exact absurd e (hn k hk)
 ·refine ⟨⟨rc,fun e=>absurd e ne⟩,?_⟩
  have cs:=cw sb
  generalize (opsS r (zAr m)).1.crash za zb = r2 at *
  by_cases q : cont r2 (1 - m.place).toNat = zC0 (zD2 m)
  ·refine ⟨zDl m,m.tail.toNat,m.next,[],h.carried gn nx l2 lb2 st2 fun j hj=>?_,rfl,?_,rfl,rfl⟩
   ·split
    ·rename_i e; rw [show j = (1 - m.place).toNat by omega]; exact q
    ·rename_i e
     rcases cs j hj with c | ⟨c,_⟩
     ·exact c
     ·exact absurd c e
   ·show (m.gen + 1) % 4294967296 ≤ m.gen + 1
    have:=h.ok.gen; omega
  ·have sa : ∀ j,j < r.a.length → cont r2 j = effS (carF m) (cont r) j:=fun j hj=>by
    rcases cs j hj with c | ⟨c,d⟩
    ·exact c
    ·rw [show j = (1 - m.place).toNat by omega] at d; exact absurd d q
   refine ⟨{ m with home:=cutS m.b },p,s,T,h.mixed l2 lb2 st2 ⟨h.cl,fun i=>.inr rfl⟩ (fun i x hx=>?_) (fun j hj hn=>by rw [sa j hj,h.effO hn]),rfl,by show m.gen ≤ m.gen + 1; omega,rfl,rfl⟩
   have il:=(List.getElem?_eq_some_iff.1 hx).1
   rw [h.cl] at il
   rw [sa _ (by omega),h.effI hx]
 ·refine ⟨⟨rc,fun _=>st⟩,zDl m,m.tail.toNat,m.next,[],(h.carry gn nx e0 st).crash za zb,rfl,?_,rfl,rfl⟩
  show (m.gen + 1) % 4294967296 ≤ m.gen + 1
  have:=h.ok.gen; omega
end
end Go.Proofs.YtbmmnfeeapnhkaaGreat.G08
end
section
namespace Go.Proofs.YtbmmnfeeapnhkaaGreat.G08
open Go Go.Proofs.YtbmmnfeeapnhkaaGreat.Eng
section
variable {r : RgS} {m : MtS} {p : Nat} {s : Int} {T : List (List ImS)} (h : Mi r m p s T) {b : List Int} (hb : b.length = m.b.length) (hu : IsU8 b) (gn : m.gen + 1 < 4294967296) (nx : m.next + 1 < 4294967296)
include h hb hu gn nx
theorem Mi.dlen : (zBl m.b b).length + 1 ≤ m.g.r.toNat ∧ ((zBl m.b b).length : Int) ≤ m.g.pages:=by
 have bl:=h.ok.bl; have N:=m.g.nm h.ok.g; have hy:=N.hy; have hc:=N.hc; have hr:=N.hr; have hp:=N.hp
 have:=(zJ5 (was:=m.b) (now:=b) hu (by omega)).2
 unfold zB1 at this
 omega
theorem Mi.fits (hr : ¬ ((zBl m.b b).length : Int) + 1 > m.room) : tot T + ((zBl m.b b).length + 1) ≤ m.g.r.toNat:=by
 have us:=h.used
 rw [zGg] at us
 unfold MtS.room at hr
 omega
theorem Mi.commit (up : Up r) : (zBi r m b).2.2 = 0 ∧ Up (zBi r m b).1 ∧ (zBi r m b).2.1.b = b ∧ (zBi r m b).2.1.g = m.g ∧ (zBi r m b).2.1.gen ≤ m.gen + 1 ∧ (zBi r m b).2.1.next ≤ m.next + 1 ∧ (∃ p' s' T',Mi (zBi r m b).1 (zBi r m b).2.1 p' s' T') ∧
  (zBl m.b b = [] → (zBi r m b).1 = r) ∧ (zBi r m b).2.1.room = if zBl m.b b = [] then m.room else if ((zBl m.b b).length : Int) + 1 > m.room then m.g.r - ((zBl m.b b).length : Int) - 1 else m.room - ((zBl m.b b).length : Int) - 1:=by
 obtain ⟨d1,d2⟩:=h.dlen hb hu gn nx
 have hg:=h.ok.gen; have hnx:=h.ok.next
 unfold zBi
 rw [if_pos hb]
 by_cases h0 : zBl m.b b = []
 ·simp only [if_pos h0]
  exact ⟨trivial,up,zTv hb.symm h0,trivial,by omega,by omega,⟨p,s,T,h⟩,fun _=>trivial,trivial⟩
 simp only [if_neg h0]
 by_cases hr : ((zBl m.b b).length : Int) + 1 > m.room
 ·simp only [if_pos hr]
  obtain ⟨e0,up2⟩:=zWn (zAr m) up h.inF
  simp only [if_pos e0]
  obtain ⟨⟨_,st⟩,_⟩:=h.carry_cut gn (by omega) [] []
  have hc:=h.carry gn (by omega) e0 (st e0)
  obtain ⟨a1,a2,a3,a4⟩:=hc.append up2 (b:=b) hb hu nx h0 (by show tot [] + _ ≤ _; rw [zU7]; show 0 + ((zBl m.b b).length + 1) ≤ m.g.r.toNat; omega)
  have a1 : (zCy (opsS r (zAr m)).1 (zDl m) b (zBl m.b b)).2.2 = 0:=a1
  have a2 : (zCy (opsS r (zAr m)).1 (zDl m) b (zBl m.b b)).2.1 = zQm (zDl m) b (zBl m.b b):=a2
  rw [a1,a2]
  refine ⟨rfl,a3,rfl,rfl,?_,?_,⟨_,_,_,a4⟩,fun e=>absurd e h0,?_⟩
  ·show (m.gen + 1) % 4294967296 ≤ m.gen + 1
   omega
  ·show (m.next + 1) % 4294967296 ≤ m.next + 1
   omega
  ·show m.g.r - (0 + ((zBl m.b b).length : Int) + 1) = _
   omega
 ·simp only [if_neg hr]
  obtain ⟨a1,a2,a3,a4⟩:=h.append up hb hu nx h0 (h.fits hb hu gn nx hr)
  rw [a1,a2]
  refine ⟨rfl,a3,rfl,rfl,?_,?_,⟨_,_,_,a4⟩,fun e=>absurd e h0,?_⟩
  ·show m.gen ≤ m.gen + 1
   omega
  ·show (m.next + 1) % 4294967296 ≤ m.next + 1
   omega
  ·show m.g.r - (m.used + ((zBl m.b b).length : Int) + 1) = m.g.r - m.used - _ - 1
   omega
end
def zNs (g : GmS) (b : List Int) : List OpS:=[some (0,z64),some (1,z64),none] ++ (zCi 2 g.r.toNat ++ (zDi g.home 0 (cutS b) ++ [none]))
theorem zGt (g : GmS) (b : List Int) : zBd g b = zNs g b ++ [some (0,zC0 ⟨g,1,0,1⟩),none]:=by
 unfold zBd zNs
 simp
theorem zKy {g : GmS} {b : List Int} {j : Int} {z : List Int} (h : some (j,z) ∈ zNs g b) : (z = z64 ∧ (j = 0 ∨ j = 1 ∨ (2 ≤ j ∧ j < 2 + (g.r.toNat : Int)))) ∨ ∃ (k : Nat) (x : List Int),(cutS b)[k]? = some x ∧ j = g.home + (k : Int) ∧ z = zEv (k : Int) x:=by
 unfold zNs at h
 rcases List.mem_append.1 h with h | h
 ·simp only [List.mem_cons,List.not_mem_nil,or_false] at h
  rcases h with h | h | h
  ·injection h with h; injection h with e1 e2; exact .inl ⟨e2,.inl e1⟩
  ·injection h with h; injection h with e1 e2; exact .inl ⟨e2,.inr (.inl e1)⟩
  ·cases h
 ·rcases List.mem_append.1 h with h | h
  ·obtain ⟨a,b,c⟩:=zL8 _ _ h
   exact .inl ⟨a,.inr (.inr ⟨b,c⟩)⟩
  ·rcases List.mem_append.1 h with h | h
   ·obtain ⟨k,x,a1,a2,a3⟩:=zL9 (h:=g.home) (cutS b) 0 h
    rw [Nat.zero_add] at a2 a3
    exact .inr ⟨k,x,a1,a2,a3⟩
   ·cases List.mem_singleton.1 h
theorem zW2 {r : RgS} {g : GmS} {b : List Int} (up : Up r) (hm : mayS r g b = true) (hu : IsU8 b) : (opsS r (zBd g b)).2 = 0 ∧ Up (opsS r (zBd g b)).1 ∧ (opsS r (zBd g b)).1.a.length = r.a.length ∧ Mi (opsS r (zBd g b)).1 (zEg g b) 0 1 []:=by
 have ok:=zMh hm hu
 unfold mayS at hm
 simp only [Bool.and_eq_true,decide_eq_true_eq] at hm
 obtain ⟨⟨hg,hr⟩,hbl⟩:=hm
 unfold zOt at hr
 simp only [Bool.and_eq_true,decide_eq_true_eq] at hr
 have N:=g.nm hg
 have n1:=N.hr; have n2:=N.hp; have n3:=N.hc; have n4:=N.hn
 have ef : g.fast = 2 + g.r + g.pages + g.s * g.w:=rfl
 have eh : g.home = 2 + g.r:=rfl
 have cl : ((cutS b).length : Int) = g.pages:=ok.hl
 have inA : InN r.a.length (zNs g b):=fun j z hz=>by
  rcases zKy hz with ⟨_,q⟩ | ⟨k,x,q,e,_⟩
  ·omega
  ·have:=(List.getElem?_eq_some_iff.1 q).1
   omega
 have inF : InN r.a.length (zBd g b):=by
  rw [zGt]
  refine inA.app fun j z hz=>?_
  simp only [List.mem_cons,List.not_mem_nil,or_false] at hz
  rcases hz with hz | hz
  ·injection hz with hz; injection hz with e1 e2; omega
  ·cases hz
 obtain ⟨h0,up2⟩:=zWn _ up inF
 obtain ⟨l,lb,_⟩:=zKu _ inF
 have st : zF8 (opsS r (zBd g b)).1:=by
  have e : zBd g b = (zNs g b ++ [some (0,zC0 ⟨g,1,0,1⟩)]) ++ [none]:=by rw [zGt]; simp
  rw [e] at h0 ⊢
  exact zO3 h0
 have ct : ∀ j,cont (opsS r (zBd g b)).1 j = if (j : Int) = 0 then zC0 ⟨g,1,0,1⟩ else effS (zNs g b) (cont r) j:=fun j=>by
  rw [zNh _ inF h0,zGt,zK8]; rfl
 have cz : ∀ j : Nat,(j = 1 ∨ (2 ≤ j ∧ j < 2 + g.r.toNat)) → cont (opsS r (zBd g b)).1 j = z64:=fun j hj=>by
  rw [ct,if_neg (by omega)]
  refine zPp _ _ (.inl ?_) fun z' hz=>?_
  ·unfold zNs
   rcases hj with rfl | ⟨h1,h2⟩
   ·exact List.mem_append_left _ (by simp)
   ·refine List.mem_append_right _ (List.mem_append_left _ ?_)
    have:=zLu g.r.toNat 2 (j - 2) (by omega)
    rw [show (2 : Int) + ((j - 2 : Nat) : Int) = (j : Int) by omega] at this
    exact this
  ·rcases zKy hz with ⟨e,_⟩ | ⟨k,x,q,e,_⟩
   ·exact e
   ·omega
 have ch : ∀ (i : Nat) x,(cutS b)[i]? = some x → cont (opsS r (zBd g b)).1 (g.home.toNat + i) = zEv (i : Int) x:=fun i x hx=>by
  rw [ct,if_neg (by omega)]
  refine zPp _ _ (.inl ?_) fun z' hz=>?_
  ·unfold zNs
   refine List.mem_append_right _ (List.mem_append_right _ (List.mem_append_left _ ?_))
   have:=zMf (h:=g.home) (cutS b) 0 i hx
   rw [Nat.zero_add] at this
   rw [show ((g.home.toNat + i : Nat) : Int) = g.home + (i : Int) by omega]
   exact this
  ·rcases zKy hz with ⟨_,e⟩ | ⟨k,w,q,e,rfl⟩
   ·omega
   ·obtain rfl : k = i:=by omega
    rw [hx] at q
    rw [Option.some.inj q]
 refine ⟨h0,up2,l,ok,⟨by show 2 ≤ g.r.toNat; omega,by show g.r.toNat ≤ 256; omega,by rw [l]; show 2 + g.r.toNat ≤ _; omega,st,trivial,Nat.zero_le _,fun t ht=>(by cases ht),fun i hi=>?_⟩,by show 0 < g.r.toNat; omega,by omega,?_,rfl,by rw [l]; exact hr.1,by rw [lb]; exact hr.2,?_,?_,ch,rfl,rfl⟩
 ·have hi : i < g.r.toNat:=hi
  rw [cz (2 + i) (.inr ⟨by omega,by omega⟩)]; exact zV5 _
 ·show (0 : Int) = ((0 + 0) % g.r.toNat : Nat)
  rw [Nat.zero_add,Nat.zero_mod]; rfl
 ·show cont _ 0 = zC0 ⟨g,1,((0 : Nat) : Int),1⟩
  rw [ct,if_pos (by omega)]; rfl
 ·show (ptS (cont _ 1)).2 = true → _
  rw [cz 1 (.inl rfl),ptS_zero]
  intro e; cases e
end Go.Proofs.YtbmmnfeeapnhkaaGreat.G08
end
section
namespace Go.Proofs.YtbmmnfeeapnhkaaGreat.G08
open Go Go.Proofs.YtbmmnfeeapnhkaaGreat.Eng
structure LS (h0 H : zAa) (q : RPl) (pm n : Nat) (r : RgS) (m : MtS) (F G : Nat → Prop) : Prop where
 ra : zA3 q H n r F
 c : MtH H pm q.p m G
 d : ∀ b,G b → ¬ F b
 old : Adds h0 H
 oF : ∀ b,F b → h0.length ≤ b
 oG : ∀ b,G b → h0.length ≤ b
 up : Up r
 mi : ∃ p s T,Mi r m p s T
theorem up_new (a b : Nat) : Up (zGd a b):=⟨rfl,rfl⟩
theorem LS.ok {h0 H : zAa} {q : RPl} {pm n : Nat} {r : RgS} {m : MtS} {F G : Nat → Prop} (l : LS h0 H q pm n r m F G) : m.Ok:=by
 obtain ⟨_,_,_,mi⟩:=l.mi; exact mi.ok
theorem LS.pmG {h0 H : zAa} {q : RPl} {pm n : Nat} {r : RgS} {m : MtS} {F G : Nat → Prop} (l : LS h0 H q pm n r m F G) : G pm:=by
 obtain ⟨_,_,_,_,c⟩:=l.c; exact c.gp
theorem LS.more {h0 H K : zAa} {q : RPl} {pm n : Nat} {r : RgS} {m : MtS} {F G : Nat → Prop} (l : LS h0 H q pm n r m F G) (a : Adds H K) : LS h0 K q pm n r m F G:=by
 obtain ⟨X,rfl⟩:=a
 exact ⟨l.ra.adds X,l.c.adds X,l.d,l.old.trans ⟨X,rfl⟩,l.oF,l.oG,l.up,l.mi⟩
theorem zRh (n : Nat) : IsU8 (List.replicate n 0):=fun z hz=>by rw [(List.mem_replicate.1 hz).2]; omega
theorem beginC {g : GmS} (hg : g.good = true) (h0 : zAa) : ∃ q H1 F,zA3 q H1 0 (zGd g.fast.toNat g.slow.toNat) F ∧ Adds h0 H1 ∧ (∀ b,F b → h0.length ≤ b) ∧ (envL prog).call 12 [.int .i64 g.fast,.int .i64 g.slow] h0 = some (.tup [.ptr q.p 0,.int .i64 0],H1) ∧
  ∃ pm n H3 F3 G,n ≤ 1000 ∧ LS h0 H3 q pm n (opsS (zGd g.fast.toNat g.slow.toNat) (zBd g (List.replicate g.bytes.toNat 0))).1 (zEg g (List.replicate g.bytes.toNat 0)) F3 G ∧
   zCw (ty 1 false 1 [.int .u8 0]) (.int .i64 g.bytes) (.int .i64 g.bytes) H1 = some (.sl H1.length 0 1 g.bytes.toNat g.bytes.toNat true,H1 ++ [.rw (u8s (List.replicate g.bytes.toNat 0))]) ∧
   (envL prog).call 15 [.ptr q.p 0,.agg g.cells,.sl H1.length 0 1 g.bytes.toNat g.bytes.toNat true] (H1 ++ [.rw (u8s (List.replicate g.bytes.toNat 0))]) = some (.tup [.ptr pm 0,.int .i64 0],H3):=by
 have N:=g.nm hg
 have n1:=N.hr; have n2:=N.hp; have n3:=N.hc; have n4:=N.hn; have n5:=N.hy; have n6:=N.hb; have n7:=N.ha
 have ef : g.fast = 2 + g.r + g.pages + g.s * g.w:=rfl
 have es : g.slow = g.b + g.a:=rfl
 obtain ⟨H1,F,li,en⟩:=rinNew (n0:=g.fast.toNat) (n1:=g.slow.toNat) (by omega) (by omega) (by omega) (by omega) h0
 rw [show ((g.fast.toNat : Nat) : Int) = g.fast by omega,show ((g.slow.toNat : Nat) : Int) = g.slow by omega] at en
 obtain ⟨q,hq,m1⟩:=li.m.at
 rw [← hq] at en
 refine ⟨q,H1,F,m1,li.old,li.out,en,?_⟩
 have mk:=makeB (n:=g.bytes.toNat) (by omega) H1
 rw [show ((g.bytes.toNat : Nat) : Int) = g.bytes by omega] at mk
 have m2:=m1.adds [.rw (u8s (List.replicate g.bytes.toNat 0))]
 have ml : mayS (zGd g.fast.toNat g.slow.toNat) g (List.replicate g.bytes.toNat 0) = true:=by
  unfold mayS zOt
  have e1 : (zGd g.fast.toNat g.slow.toNat).a.length = g.fast.toNat:=by simp [zGd]
  have e2 : (zGd g.fast.toNat g.slow.toNat).b.length = g.slow.toNat:=by simp [zGd]
  rw [hg,e1,e2,List.length_replicate,decide_eq_true (by omega),decide_eq_true (by omega),decide_eq_true (by omega)]; rfl
 have bs : BS (H1 ++ [.rw (u8s (List.replicate g.bytes.toNat 0))]) (.sl H1.length 0 1 (List.replicate g.bytes.toNat (0 : Int)).length g.bytes.toNat true) (List.replicate g.bytes.toNat 0):=BS.block (by simp)
 rw [List.length_replicate] at bs
 obtain ⟨f0,fu,fl,mi⟩:=zW2 (up_new _ _) ml (zRh _)
 obtain ⟨n3',H3,F3,hn3,m3,st3,hf⟩:=zMi m2 bs (fun b o s n l e he=>by injection he; omega) (zRh _) (by rw [List.length_replicate]; omega) (by omega) (fun b hb h=>by injection hb with hb; have:=m1.lt _ h; omega) ml
 have L1:=li.old.len
 rcases hf with ⟨_,pm,G,c3,d3,e3⟩ | ⟨h,_⟩
 ·have a3 : Adds h0 H3:=st3.1.old (li.old.trans ⟨_,rfl⟩) fun b hb h=>by have:=li.out b h; omega
  refine ⟨pm,n3',H3,F3,G,by omega,⟨m3,c3,fun b hb=>(d3 b hb).2,a3,fun b hb=>(st3.2 b hb).elim (li.out b) fun h=>by simp at h; omega,fun b hb=>by have:=(d3 b hb).1; simp at this; omega,fu,0,1,[],mi⟩,mk,e3⟩
 ·exact absurd f0 h
section
variable {h0 H : zAa} {q : RPl} {pm n : Nat} {r : RgS} {m : MtS} {F G : Nat → Prop} (l : LS h0 H q pm n r m F G)
include l
theorem LS.commit (hn : n + 300 ≤ 1000000000) (gn : m.gen + 1 < 4294967296) (nx : m.next + 1 < 4294967296) {w : AV} {z : List Int} (bw : BS H w z) (lw : zDz w) (uz : IsU8 z) (hl : z.length = m.b.length) (wF : ∀ b,slb w = some b → ¬ F b ∧ b ≠ pm) :
  ∃ n' H' F' G',n' ≤ n + 100 ∧ LS h0 H' q pm n' (zBi r m z).1 (zBi r m z).2.1 F' G' ∧ ((zBi r m z).2.1.b = z ∧ (zBi r m z).2.1.g = m.g ∧ (zBi r m z).2.1.gen ≤ m.gen + 1 ∧ (zBi r m z).2.1.next ≤ m.next + 1) ∧ Fr H H' (fun b=>F b ∨ b = pm) ∧ (∀ b,F' b → F b ∨ H.length ≤ b) ∧ (envL prog).call 18 [.ptr pm 0,w] H = some (.int .i64 0,H'):=by
 obtain ⟨p,s,T,mi⟩:=l.mi
 obtain ⟨c1,c2,c3,c4,c5,c6,c7,_⟩:=mi.commit hl uz gn nx l.up
 obtain ⟨n',H',F',G',hn',st,e⟩:=zQ1 l.ra l.ok l.c l.d hn bw lw uz wF
 rw [c1] at e
 have gp:=l.oG _ l.pmG
 have ho:=l.old.len
 refine ⟨n',H',F',G',hn',⟨st.m,st.c,st.d,st.fr.old l.old fun b hb h=>h.elim (fun h=>by have:=l.oF b h; omega) fun h=>by omega,fun b hb=>(st.hF b hb).elim (l.oF b) fun h=>by omega,fun b hb=>(st.hG b hb).elim (l.oG b) fun h=>by omega,c2,c7⟩,⟨c3,c4,c5,c6⟩,st.fr,st.hF,e⟩
end
theorem keepB {H : zAa} {v w : AV} {xs ys : List Int} (b : BS H v xs) (c : BS H w ys) (hx : IsU8 xs) (hy : IsU8 ys) : (envL prog).call 27 [v,w] H = some (.bool (decide (xs = ys)),H):=by
 rw [c27]
 unfold b27
 obtain ⟨s,hs,es⟩:=b.str
 obtain ⟨t,ht,et⟩:=c.str
 have hb : binV .eql .none (.str s) (.str t) = some (.bool (decide (xs = ys))):=by
  show some (AV.bool (s.toList == t.toList)) = _
  rw [es,et]
  by_cases h : xs = ys
  ·subst h; simp
  ·have : ¬ (xs.map fun n=>UInt8.ofNat n.toNat) = (ys.map fun n=>UInt8.ofNat n.toNat):=fun q=>h (u8_inj hx hy q)
   simp [h,this]
 simp -implicitDefEqProofs (maxSteps:=5000000) only [go_sem,simprocAttr,go_sem,hs,ht,hb]
theorem own_ok {K : zAa} {v : AV} {X : zAa} {z : List Int} (o : Bt.Own K v X z) : zDz v ∧ ∀ b,slb v = some b → K.length ≤ b ∧ b < (K ++ X).length:=by
 rcases o with ⟨_,⟨rfl,_⟩ | ⟨rfl,rfl⟩⟩ | ⟨_,rfl,rfl⟩
 ·exact ⟨fun b o s n l e he=>(by cases he),fun b hb=>(by cases hb)⟩
 ·exact ⟨fun b o s n l e he=>(by injection he; omega),fun b hb=>(by injection hb with hb; simp; omega)⟩
 ·exact ⟨fun b o s n l e he=>(by injection he; omega),fun b hb=>(by injection hb with hb; simp; omega)⟩
theorem zU2 {h : zAa} {v : AV} (d : DatC h (.sl [.sl [.int .i64,.int .i64]]) v) : ∃ L : List (AV × List (Int × Int)),RS 1 h v (L.map fun x=>[x.1]) ∧ ∀ x ∈ L,RS 2 h x.1 (prs x.2) ∧ x.2.length ≤ 9223372036854775807:=by
 obtain ⟨rows,rs,rd,hn⟩:=d.rows
 have key : ∀ rows : List (List AV),(∀ r ∈ rows,DatR h [.sl [.int .i64,.int .i64]] r) → ∃ L : List (AV × List (Int × Int)),rows = L.map (fun x=>[x.1]) ∧ ∀ x ∈ L,RS 2 h x.1 (prs x.2) ∧ x.2.length ≤ 9223372036854775807:=by
  intro rows
  induction rows with
  | nil=>intro _; exact ⟨[],rfl,fun x hx=>by cases hx⟩
  | cons r rows ih =>
   intro hr
   obtain ⟨L,e1,e2⟩:=ih fun x hx=>hr x (by simp [hx])
   have hd:=hr r (by simp)
   cases hd with
   | cons d1 t=>cases t with
    | nil =>
     obtain ⟨l,h1,h2⟩:=prs_dat d1
     exact ⟨(_,l) :: L,by rw [e1]; rfl,fun x hx=>by
      rcases List.mem_cons.1 hx with rfl | hx
      ·exact ⟨h1,h2⟩
      ·exact e2 x hx⟩
 obtain ⟨L,e1,e2⟩:=key rows rd
 rw [e1] at rs
 exact ⟨L,rs,e2⟩
end Go.Proofs.YtbmmnfeeapnhkaaGreat.G08
end
section
namespace Go.Proofs.YtbmmnfeeapnhkaaGreat.G08
open Go Go.Proofs.YtbmmnfeeapnhkaaGreat.Eng
section
variable {h0 : zAa} {v : AV} {L : List (AV × List (Int × Int))} (rs : RS 1 h0 v (L.map fun x=>[x.1])) (rd : ∀ x ∈ L,RS 2 h0 x.1 (prs x.2) ∧ x.2.length ≤ 9223372036854775807) (hL : L.length ≤ 20) {q : RPl} {pm : Nat}
include rs rd hL
end
end Go.Proofs.YtbmmnfeeapnhkaaGreat.G08
end
section
namespace Go.Proofs.YtbmmnfeeapnhkaaGreat.G08
open Go Go.Proofs.YtbmmnfeeapnhkaaGreat.Eng
def ofL8 (g : GmS) : List AV:=[.int .i64 g.bytes,.int .i64 g.pages,.int .i64 (g.s * g.w),.int .i64 2,.int .i64 g.home,.int .i64 (g.home + g.pages),.int .i64 g.fast,.int .i64 g.slow]
theorem ofC {g : GmS} (hg : g.good = true) (H : zAa) : (envL prog).call 14 [.agg g.cells] H = some (.agg (ofL8 g),H):=by
 obtain ⟨n,y,c,N⟩:=Gm.nums hg
 have M:=g.nm hg
 have h1:=M.hr; have h2:=M.hp; have h3:=M.hn; have h4:=M.hb; have h5:=M.ha
 have e:=Gm.ofR g.b g.s g.w g.a g.r H
 have ey : g.bytes = y:=by unfold GmS.bytes; rw [N.ey,N.en]
 have ec : g.pages = c:=by unfold GmS.pages; rw [ey,N.ec]
 have eh : g.home = 2 + g.r:=rfl
 have ef : g.fast = 2 + g.r + g.pages + g.s * g.w:=rfl
 have es : g.slow = g.b + g.a:=rfl
 have w1 : IntKind.i64.wrap (2 + g.r + c) = 2 + g.r + c:=zAq (by omega) (by omega)
 have w2 : IntKind.i64.wrap (2 + g.r + c + n) = 2 + g.r + c + n:=zAq (by have:=N.hn; omega) (by have:=N.hn; omega)
 have w3 : IntKind.i64.wrap (g.b + g.a) = g.b + g.a:=zAq (by omega) (by omega)
 unfold Gm.ofL at e
 rw [N.g,cond_true,N.eb,N.ep,N.e2,N.wn,w1,w2,w3] at e
 unfold ofL8
 rw [ef,es,eh,ec,ey,N.en]
 exact e
end Go.Proofs.YtbmmnfeeapnhkaaGreat.G08
end
section
namespace Go.Proofs.YtbmmnfeeapnhkaaGreat.G08
open Go Go.Proofs.YtbmmnfeeapnhkaaGreat.Eng
theorem Mi.rooms {r : RgS} {m : MtS} {p : Nat} {s : Int} {T : List (List ImS)} (h : Mi r m p s T) : 0 ≤ m.room ∧ m.room ≤ m.g.r:=by
 have us:=h.used; have le:=h.ring.le; have n:=h.nums
 rw [zGg] at us
 unfold MtS.room
 omega
section
variable {h0 : zAa} {v : AV} {L : List (Int × Int)} (rs : RS 2 h0 v (prs L)) (hL : L.length ≤ 20) {q : RPl} {pm : Nat} {g : GmS} {cg : Nat} (kg : cellsOf h0 cg = some g.cells) {nn : Int} {M : Nat} (w8 : IntKind.i64.wrap nn = nn) (hM : nn.tmod 50 = (M : Int)) (hM5 : M ≤ 50)
include rs hL kg w8 hM hM5
end
end Go.Proofs.YtbmmnfeeapnhkaaGreat.G08
end
section
namespace Go.Proofs.YtbmmnfeeapnhkaaGreat.G08
open Go Go.Proofs.YtbmmnfeeapnhkaaGreat.Eng
theorem pad_inj {x y : List Int} (h : x.length = y.length) : padS x = padS y ↔ x = y:=by
 constructor
 ·intro e
  unfold padS at e
  exact (List.append_inj e h).1
 ·intro e; rw [e]
theorem piece_eq {b c : List Int} (hl : c.length = b.length) (i : Nat) : decide ((b.drop (48 * i)).take 48 = (c.drop (48 * i)).take 48) = decide (zC8 c i = zC8 b i):=by
 rw [Bool.eq_iff_iff,decide_eq_true_iff,decide_eq_true_iff]
 unfold zC8
 rw [pad_inj (by simp [hl])]
 exact ⟨fun h=>h.symm,fun h=>h.symm⟩
theorem zYt {H : zAa} {w : AV} {z : List Int} (b : BS H w z) (ok : zDz w) (h0 : z ≠ []) {from_ n : Nat} (h : from_ + n ≤ z.length) : ∃ w',zDa 1 w (some (.int .i64 (from_ : Int))) (some (.int .i64 ((from_ + n : Nat) : Int))) none = some w' ∧ BS H w' ((z.drop from_).take n):=by
 rcases b with ⟨_,rfl⟩ | ⟨b,o,l,e,cs,rfl,hc,hz,hl⟩
 ·exact absurd rfl h0
 ·have lk:=ok _ _ _ _ _ _ rfl
  have ln : ((z.drop from_).take n).length = n:=by rw [List.length_take,List.length_drop]; omega
  refine ⟨.sl b (o + from_) 1 n (l - from_) e,?_,.inr ⟨b,o + from_,l - from_,e,cs,by rw [ln],hc,fun i y hy=>?_,by rw [ln]; omega⟩⟩
  ·have c1 : (0 : Int) ≤ (from_ : Int) ∧ (from_ : Int) ≤ ((from_ + n : Nat) : Int) ∧ ((from_ + n : Nat) : Int) ≤ (l : Int):=⟨by omega,by omega,by omega⟩
   show (if (1 : Nat) ≠ 1 then none else some (from_ : Int) |>.bind fun l'=>(some ((from_ + n : Nat) : Int)).bind fun u=>if 0 ≤ l' ∧ l' ≤ u ∧ u ≤ (l : Int) then some (AV.sl b (o + l'.toNat * 1) 1 (u.toNat - l'.toNat) (l - l'.toNat) e) else none) = _
   rw [if_neg (by simp)]
   simp only [Option.bind_some]
   rw [if_pos c1]
   simp only [Int.toNat_natCast,Nat.mul_one]
   rw [show from_ + n - from_ = n by omega]
  ·rw [List.getElem?_take] at hy
   split at hy
   ·rw [List.getElem?_drop] at hy
    rw [Nat.add_assoc]; exact hz _ y hy
   ·cases hy
section
variable {K : zAa} {wb wc : AV} {zb zc : List Int} (bb : BS K wb zb) (bc : BS K wc zc) (okb : zDz wb) (okc : zDz wc) (ub : IsU8 zb) (uc : IsU8 zc) (hl : zc.length = zb.length) {g : GmS} (hg : g.good = true) (hb : (zb.length : Int) = g.bytes) {cg : Nat} (kg : cellsOf K cg = some g.cells)
include bb bc okb okc ub uc hl hg hb kg
set_option maxHeartbeats 8000000 in
theorem roomsL0 (x0 x1 x3 x5 x6 x7 x8 x10 x16 x17 x18 x19 x20 x21 x22 x23 x24 x25 x26 x27 x28 x29 x30 x31 x32 x33 x34 x35 x36 x37 x38 x39 x40 x41 x42 x43 x44 x45 x46 x47 x48 x49 x50 x51 x52 x53 x54 x55 x56 x57 x58 x59 x60 x61 x62 x63 x64 x65 x66 x67 x68 x69 x70 x71 x72 x73 x74 x75 x76 x77 x78 x79 x80 x81 x82 x83 x84 x85 x86 x87 x88 x89 x125 x126 x127 x128 x129 x130 x131 x132 x133 x134 x135 x136 x137 x138 x139 x140 x141 x142 x143 x144 x145 x146 x147 x148 x149 x150 x151 x152 x153 x154 x155 x156 x157 x158 x159 x160 x161 x162 x163 x164 x165 x166 x167 x168 x169 x170 x171 x172 x173 x174 x175 : AV) : ∀ (k i d : Nat) (j14 j15 j90 j91 j92 j93 j94 j95 j96 j97 j98 j99 j100 j101 j102 j103 j104 j105 j106 j107 j108 j109 j110 j111 j112 j113 j114 j115 j116 j117 j118 j119 j120 j121 j122 j123 j124 : AV),((i + k : Nat) : Int) = g.pages → d + (zF6 (i : Int) ((cutS zb).drop i) ((cutS zc).drop i)).length = (zBl zb zc).length →
  Outs (LW l6x0 [x0,x1,.ptr cg 0,x3,.bool false,x5,x6,x7,x8,wb,x10,wc,.int .i64 (d : Int),.int .i64 (i : Int),j14,j15,x16,x17,x18,x19,x20,x21,x22,x23,x24,x25,x26,x27,x28,x29,x30,x31,x32,x33,x34,x35,x36,x37,x38,x39,x40,x41,x42,x43,x44,x45,x46,x47,x48,x49,x50,x51,x52,x53,x54,x55,x56,x57,x58,x59,x60,x61,x62,x63,x64,x65,x66,x67,x68,x69,x70,x71,x72,x73,x74,x75,x76,x77,x78,x79,x80,x81,x82,x83,x84,x85,x86,x87,x88,x89,j90,j91,j92,j93,j94,j95,j96,j97,j98,j99,j100,j101,j102,j103,j104,j105,j106,j107,j108,j109,j110,j111,j112,j113,j114,j115,j116,j117,j118,j119,j120,j121,j122,j123,j124,x125,x126,x127,x128,x129,x130,x131,x132,x133,x134,x135,x136,x137,x138,x139,x140,x141,x142,x143,x144,x145,x146,x147,x148,x149,x150,x151,x152,x153,x154,x155,x156,x157,x158,x159,x160,x161,x162,x163,x164,x165,x166,x167,x168,x169,x170,x171,x172,x173,x174,x175] K) fun e t K'=>e = .exit 2 ∧ K' = K ∧ ∃ fv : Nat → AV,t = [x0,x1,.ptr cg 0,x3,.bool false,x5,x6,x7,x8,wb,x10,wc,.int .i64 ((zBl zb zc).length : Int),(fv 13),(fv 14),(fv 15),x16,x17,x18,x19,x20,x21,x22,x23,x24,x25,x26,x27,x28,x29,x30,x31,x32,x33,x34,x35,x36,x37,x38,x39,x40,x41,x42,x43,x44,x45,x46,x47,x48,x49,x50,x51,x52,x53,x54,x55,x56,x57,x58,x59,x60,x61,x62,x63,x64,x65,x66,x67,x68,x69,x70,x71,x72,x73,x74,x75,x76,x77,x78,x79,x80,x81,x82,x83,x84,x85,x86,x87,x88,x89,(fv 90),(fv 91),(fv 92),(fv 93),(fv 94),(fv 95),(fv 96),(fv 97),(fv 98),(fv 99),(fv 100),(fv 101),(fv 102),(fv 103),(fv 104),(fv 105),(fv 106),(fv 107),(fv 108),(fv 109),(fv 110),(fv 111),(fv 112),(fv 113),(fv 114),(fv 115),(fv 116),(fv 117),(fv 118),(fv 119),(fv 120),(fv 121),(fv 122),(fv 123),(fv 124),x125,x126,x127,x128,x129,x130,x131,x132,x133,x134,x135,x136,x137,x138,x139,x140,x141,x142,x143,x144,x145,x146,x147,x148,x149,x150,x151,x152,x153,x154,x155,x156,x157,x158,x159,x160,x161,x162,x163,x164,x165,x166,x167,x168,x169,x170,x171,x172,x173,x174,x175]:=by
 intro k
 obtain ⟨L0,hL0⟩ : ∃ L,L = LW l6x0:=⟨_,rfl⟩
 have lo:=zBc hL0
 rw [← hL0]
 have N:=g.nm hg
 have Np:=N.hp; have Nc:=N.hc; have Ny:=N.hy
 have gl : g.cells.length = 5:=rfl
 have gt : g.cells.take 5 = g.cells:=rfl
 have ep:=pagesP hg K
 have cb : ((cutS zb).length : Int) = g.pages:=by rw [zCe]; unfold zB1; omega
 have cc : (cutS zc).length = (cutS zb).length:=by rw [zCe,zCe,hl]
 have wlb:=bb.len
 have wlc:=bc.len
 induction k with
 | zero =>
  intro i d j14 j15 j90 j91 j92 j93 j94 j95 j96 j97 j98 j99 j100 j101 j102 j103 j104 j105 j106 j107 j108 j109 j110 j111 j112 j113 j114 j115 j116 j117 j118 j119 j120 j121 j122 j123 j124 hi hd'
  have hd : decide ((i : Int) < g.pages) = false:=decide_eq_false (by omega)
  rw [zPs (by omega),List.length_nil,Nat.add_zero] at hd'
  rw [← hd']
  generalize g.cells = GC at *
  rw [lo]
  unfold l6x0
  simp -implicitDefEqProofs (maxSteps:=5000000) only [go_sem,simprocAttr,go_sem,itr,itq,zD9,kg,gl,gt,ep,hd,zAu,zAc]
  exact exF rfl
 | succ k ih =>
  intro i d j14 j15 j90 j91 j92 j93 j94 j95 j96 j97 j98 j99 j100 j101 j102 j103 j104 j105 j106 j107 j108 j109 j110 j111 j112 j113 j114 j115 j116 j117 j118 j119 j120 j121 j122 j123 j124 hi hd'
  have hd : decide ((i : Int) < g.pages) = true:=decide_eq_true (by omega)
  have e2 : IntKind.i64.wrap ((i : Int) + 1) = ((i + 1 : Nat) : Int):=by rw [zAq (by omega) (by omega)]; omega
  have il : i < (cutS zb).length:=by omega
  obtain ⟨n,hn⟩ : ∃ n,n = min 48 (zb.length - 48 * i):=⟨_,rfl⟩
  have i48 : 48 * i < zb.length:=by
   rw [zCe] at il
   unfold zB1 at il
   omega
  have w0 : IntKind.i64.wrap ((i : Int) * 48) = ((48 * i : Nat) : Int):=by rw [zAq (by omega) (by omega)]; push_cast; omega
  have w1 : IntKind.i64.wrap (((i + 1 : Nat) : Int) * 48) = ((48 * (i + 1) : Nat) : Int):=by rw [zAq (by omega) (by omega)]; push_cast; omega
  have mn : (if ((48 * (i + 1) : Nat) : Int) < (zb.length : Int) then ((48 * (i + 1) : Nat) : Int) else (zb.length : Int)) = ((48 * i + n : Nat) : Int):=by
   split <;> omega
  have d1 : decide (((48 * i : Nat) : Int) > ((48 * i + n : Nat) : Int)) = false:=decide_eq_false (by omega)
  have d2 : decide (((48 * i + n : Nat) : Int) > (zc.length : Int)) = false:=decide_eq_false (by omega)
  obtain ⟨xb,sb,bxb⟩:=zYt bb okb (fun e=>by rw [e] at i48; simp at i48) (from_:=48 * i) (n:=n) (by omega)
  obtain ⟨xc,sc,bxc⟩:=zYt bc okc (fun e=>by rw [e] at hl; simp at hl; omega) (from_:=48 * i) (n:=n) (by omega)
  have tb : (zb.drop (48 * i)).take n = (zb.drop (48 * i)).take 48:=by
   by_cases q : n = 48
   ·rw [q]
   ·rw [List.take_of_length_le (by rw [List.length_drop]; omega),List.take_of_length_le (by rw [List.length_drop]; omega)]
  have tc : (zc.drop (48 * i)).take n = (zc.drop (48 * i)).take 48:=by
   by_cases q : n = 48
   ·rw [q]
   ·rw [List.take_of_length_le (by rw [List.length_drop]; omega),List.take_of_length_le (by rw [List.length_drop]; omega)]
  rw [tb] at bxb
  rw [tc] at bxc
  have ek:=keepB bxb bxc (fun y hy=>ub y (List.mem_of_mem_drop (List.mem_of_mem_take hy))) (fun y hy=>uc y (List.mem_of_mem_drop (List.mem_of_mem_take hy)))
  rw [piece_eq hl] at ek
  have ilb:=il
  rw [zCe] at ilb
  rw [zPr (zSn ilb) (zSn (show i < zB1 zc.length by rw [hl]; exact ilb)),List.length_append] at hd'
  by_cases q : zC8 zc i = zC8 zb i
  ·rw [decide_eq_true q] at ek
   rw [if_pos q,List.length_nil,Nat.zero_add] at hd'
   generalize g.cells = GC at *
   rw [lo]
   unfold l6x0
   simp -implicitDefEqProofs (maxSteps:=5000000) only [go_sem,simprocAttr,go_sem,itr,itq,zD9,kg,gl,gt,ep,hd,w0,e2,w1,wlb,wlc,mn,d1,d2,sb,sc,ek]
   exact ih (i + 1) d _ _ _ _ _ _ _ _ _ _ _ _ _ _ _ _ _ _ _ _ _ _ _ _ _ _ _ _ _ _ _ _ _ _ _ _ _ (by omega) hd'
  ·rw [decide_eq_false q] at ek
   rw [if_neg q,List.length_singleton] at hd'
   have e3 : IntKind.i64.wrap ((d : Int) + 1) = ((d + 1 : Nat) : Int):=by
    have:=zK9 (cutS zb) (cutS zc) 0
    have hD : (zBl zb zc).length ≤ (cutS zc).length:=this
    rw [zAq (by omega) (by omega)]; omega
   generalize g.cells = GC at *
   rw [lo]
   unfold l6x0
   simp -implicitDefEqProofs (maxSteps:=5000000) only [go_sem,simprocAttr,go_sem,itr,itq,zD9,kg,gl,gt,ep,hd,w0,e2,w1,wlb,wlc,mn,d1,d2,sb,sc,ek,e3]
   exact ih (i + 1) (d + 1) _ _ _ _ _ _ _ _ _ _ _ _ _ _ _ _ _ _ _ _ _ _ _ _ _ _ _ _ _ _ _ _ _ _ _ _ _ (by omega) (by omega)
end
end Go.Proofs.YtbmmnfeeapnhkaaGreat.G08
end
section
namespace Go.Proofs.YtbmmnfeeapnhkaaGreat.G08
open Go Go.Proofs.YtbmmnfeeapnhkaaGreat.Eng
section
variable {h0 : zAa} {v : AV} {L : List (AV × List (Int × Int))} (rs : RS 1 h0 v (L.map fun x=>[x.1])) (rd : ∀ x ∈ L,RS 2 h0 x.1 (prs x.2) ∧ x.2.length ≤ 9223372036854775807) (hL : L.length ≤ 30) {q : RPl} {pm : Nat} {g : GmS} {cg : Nat} (kg : cellsOf h0 cg = some g.cells)
include rs rd hL kg
set_option maxHeartbeats 16000000 in
theorem roomsL1 (x0 x3 x6 x8 x18 x19 x20 x21 x22 x23 x24 x25 x26 x27 x28 x29 x30 x31 x32 x33 x34 x35 x36 x37 x38 x39 x40 x41 x42 x43 x44 x45 x46 x47 x48 x49 x50 x51 x52 x53 x54 x55 x56 x57 x58 x59 x60 x61 x62 x63 x64 x65 x66 x67 x68 x69 x70 x169 x170 x171 x172 x173 x174 x175 : AV) : ∀ (k i n : Nat) (H : zAa) (r : RgS) (m : MtS) (F G : Nat → Prop) (wn : AV) (j11 j12 j13 j14 j15 j16 j17 j71 j72 j73 j74 j75 j76 j77 j78 j79 j80 j81 j82 j83 j84 j85 j86 j87 j88 j89 j90 j91 j92 j93 j94 j95 j96 j97 j98 j99 j100 j101 j102 j103 j104 j105 j106 j107 j108 j109 j110 j111 j112 j113 j114 j115 j116 j117 j118 j119 j120 j121 j122 j123 j124 j125 j126 j127 j128 j129 j130 j131 j132 j133 j134 j135 j136 j137 j138 j139 j140 j141 j142 j143 j144 j145 j146 j147 j148 j149 j150 j151 j152 j153 j154 j155 j156 j157 j158 j159 j160 j161 j162 j163 j164 j165 j166 j167 j168 : AV),LS h0 H q pm n r m F G → n ≤ 1000 + i * 100 → m.gen ≤ (i : Int) + 1 → m.next ≤ (i : Int) + 1 → m.g = g → BS H wn m.b → zDz wn → (∀ b,slb wn = some b → ¬ F b ∧ b ≠ pm) → i + k = L.length →
  Outs (LW l6x1 [x0,v,.ptr cg 0,x3,.bool false,.ptr q.p 0,x6,.ptr pm 0,x8,wn,.int .i64 (i : Int),j11,j12,j13,j14,j15,j16,j17,x18,x19,x20,x21,x22,x23,x24,x25,x26,x27,x28,x29,x30,x31,x32,x33,x34,x35,x36,x37,x38,x39,x40,x41,x42,x43,x44,x45,x46,x47,x48,x49,x50,x51,x52,x53,x54,x55,x56,x57,x58,x59,x60,x61,x62,x63,x64,x65,x66,x67,x68,x69,x70,j71,j72,j73,j74,j75,j76,j77,j78,j79,j80,j81,j82,j83,j84,j85,j86,j87,j88,j89,j90,j91,j92,j93,j94,j95,j96,j97,j98,j99,j100,j101,j102,j103,j104,j105,j106,j107,j108,j109,j110,j111,j112,j113,j114,j115,j116,j117,j118,j119,j120,j121,j122,j123,j124,j125,j126,j127,j128,j129,j130,j131,j132,j133,j134,j135,j136,j137,j138,j139,j140,j141,j142,j143,j144,j145,j146,j147,j148,j149,j150,j151,j152,j153,j154,j155,j156,j157,j158,j159,j160,j161,j162,j163,j164,j165,j166,j167,j168,x169,x170,x171,x172,x173,x174,x175] H) fun e t H'=>(e = .ret ∧ getT t 4 = .bool true) ∨ (e = .exit 0 ∧ ∃ n' r' m' F' G' wn',LS h0 H' q pm n' r' m' F' G' ∧ BS H' wn' m'.b ∧ ∃ fv : Nat → AV,t = [x0,v,.ptr cg 0,x3,.bool false,.ptr q.p 0,x6,.ptr pm 0,x8,(fv 9),(fv 10),(fv 11),(fv 12),(fv 13),(fv 14),(fv 15),(fv 16),(fv 17),x18,x19,x20,x21,x22,x23,x24,x25,x26,x27,x28,x29,x30,x31,x32,x33,x34,x35,x36,x37,x38,x39,x40,x41,x42,x43,x44,x45,x46,x47,x48,x49,x50,x51,x52,x53,x54,x55,x56,x57,x58,x59,x60,x61,x62,x63,x64,x65,x66,x67,x68,x69,x70,(fv 71),(fv 72),(fv 73),(fv 74),(fv 75),(fv 76),(fv 77),(fv 78),(fv 79),(fv 80),(fv 81),(fv 82),(fv 83),(fv 84),(fv 85),(fv 86),(fv 87),(fv 88),(fv 89),(fv 90),(fv 91),(fv 92),(fv 93),(fv 94),(fv 95),(fv 96),(fv 97),(fv 98),(fv 99),(fv 100),(fv 101),(fv 102),(fv 103),(fv 104),(fv 105),(fv 106),(fv 107),(fv 108),(fv 109),(fv 110),(fv 111),(fv 112),(fv 113),(fv 114),(fv 115),(fv 116),(fv 117),(fv 118),(fv 119),(fv 120),(fv 121),(fv 122),(fv 123),(fv 124),(fv 125),(fv 126),(fv 127),(fv 128),(fv 129),(fv 130),(fv 131),(fv 132),(fv 133),(fv 134),(fv 135),(fv 136),(fv 137),(fv 138),(fv 139),(fv 140),(fv 141),(fv 142),(fv 143),(fv 144),(fv 145),(fv 146),(fv 147),(fv 148),(fv 149),(fv 150),(fv 151),(fv 152),(fv 153),(fv 154),(fv 155),(fv 156),(fv 157),(fv 158),(fv 159),(fv 160),(fv 161),(fv 162),(fv 163),(fv 164),(fv 165),(fv 166),(fv 167),(fv 168),x169,x170,x171,x172,x173,x174,x175] ∧ fv 9 = wn'):=by
 intro k
 obtain ⟨L0,hL0⟩ : ∃ L,L = LW l6x1:=⟨_,rfl⟩
 have lo:=zBc hL0
 rw [← hL0]
 have wl:=rs.len
 rw [List.length_map] at wl
 induction k with
 | zero =>
  intro i n H r m F G wn j11 j12 j13 j14 j15 j16 j17 j71 j72 j73 j74 j75 j76 j77 j78 j79 j80 j81 j82 j83 j84 j85 j86 j87 j88 j89 j90 j91 j92 j93 j94 j95 j96 j97 j98 j99 j100 j101 j102 j103 j104 j105 j106 j107 j108 j109 j110 j111 j112 j113 j114 j115 j116 j117 j118 j119 j120 j121 j122 j123 j124 j125 j126 j127 j128 j129 j130 j131 j132 j133 j134 j135 j136 j137 j138 j139 j140 j141 j142 j143 j144 j145 j146 j147 j148 j149 j150 j151 j152 j153 j154 j155 j156 j157 j158 j159 j160 j161 j162 j163 j164 j165 j166 j167 j168 l hn hg hx hG bn ln wF hi
  obtain rfl : i = L.length:=by omega
  have hd : decide ((L.length : Int) < (L.length : Int)) = false:=by simp
  rw [lo]
  unfold l6x1
  simp -implicitDefEqProofs (maxSteps:=5000000) only [go_sem,simprocAttr,go_sem,itr,itq,wl,hd,zAu,zAc]
  exact .inr ⟨n,r,m,F,G,wn,l,bn,exF2 rfl rfl⟩
 | succ k ih =>
  intro i n H r m F G wn j11 j12 j13 j14 j15 j16 j17 j71 j72 j73 j74 j75 j76 j77 j78 j79 j80 j81 j82 j83 j84 j85 j86 j87 j88 j89 j90 j91 j92 j93 j94 j95 j96 j97 j98 j99 j100 j101 j102 j103 j104 j105 j106 j107 j108 j109 j110 j111 j112 j113 j114 j115 j116 j117 j118 j119 j120 j121 j122 j123 j124 j125 j126 j127 j128 j129 j130 j131 j132 j133 j134 j135 j136 j137 j138 j139 j140 j141 j142 j143 j144 j145 j146 j147 j148 j149 j150 j151 j152 j153 j154 j155 j156 j157 j158 j159 j160 j161 j162 j163 j164 j165 j166 j167 j168 l hn hg hx hG bn ln wF hi
  have hlt : i < L.length:=by omega
  have hd : decide ((i : Int) < (L.length : Int)) = true:=decide_eq_true (by omega)
  have e2 : IntKind.i64.wrap ((i : Int) + 1) = ((i + 1 : Nat) : Int):=by rw [zAq (by omega) (by omega)]; omega
  have hx':=List.getElem?_eq_getElem hlt
  obtain ⟨rx,lx⟩:=rd _ (List.getElem_mem hlt)
  generalize L[i] = x at *
  obtain ⟨w,tl⟩:=x
  simp only at rx lx
  obtain ⟨b,cs,ix,hcs,hf,_,hle,_⟩:=rs.idx (by omega) (i:=i) (r:=[w]) (by rw [List.getElem?_map,hx']; rfl) .i64
  have f0:=hf 0 (by omega)
  rw [Nat.add_zero,Nat.mul_one] at f0
  rw [Nat.mul_one] at ix
  simp only [List.getElem?_cons_zero] at f0
  have wx:=rx.len
  rw [zNf] at wx
  have q0:=l.old.cells hcs
  by_cases h30 : (tl.length : Int) > 30
  ·have d3:=decide_eq_true h30
   rw [lo]
   unfold l6x1
   simp -implicitDefEqProofs (maxSteps:=5000000) only [go_sem,simprocAttr,go_sem,itr,itq,zD9,zHu,wl,hd,ix,q0,f0,wx,d3,zAc]
   exact .inl trivial
  have d3:=decide_eq_false h30
  have bl:=l.ok.bl
  have N:=m.g.nm l.ok.g; have Ny:=N.hy
  obtain ⟨v2,X2,o2,_,e3⟩:=turnedC bn (by omega) (rx.adds l.old) (by omega)
  obtain ⟨ok2,sl2⟩:=own_ok o2
  obtain ⟨z,hz⟩ : ∃ z,z = zKb m.b tl:=⟨_,rfl⟩
  have zl : z.length = m.b.length:=by rw [hz]; exact zHw _ _
  have uz : IsU8 z:=by rw [hz]; exact zRk tl l.ok.bu
  rw [← hz] at o2
  have a1 : Adds H (H ++ X2):=⟨X2,rfl⟩
  have l1:=l.more a1
  have b2:=o2.bs
  have bn1:=a1.bs bn
  have al:=a1.len
  have pml:=l.c.lt _ l.pmG
  have sF : ∀ b,slb v2 = some b → ¬ F b ∧ b ≠ pm:=fun b hb=>by
   have:=sl2 b hb
   exact ⟨fun h=>by have:=l.ra.lt b h; omega,by omega⟩
  have k1:=l1.old.cells kg
  have er1:=l1.c.room l1.ok
  have ed1 : (envL prog).call 39 [.ptr q.p 0] (H ++ X2) = some (.int .i64 r.done,H ++ X2):=zV0 l1.ra.rin
  have p0:=roomsL0 bn1 b2 ln ok2 l.ok.bu uz zl (g:=g) (by rw [← hG]; exact l.ok.g) (by rw [← hG]; exact bl) k1 (k:=g.pages.toNat) (i:=0) (d:=0)
  rw [show ((0 : Nat) : Int) = 0 from rfl] at p0
  obtain ⟨v3,X3,o3,_,e5⟩:=Bt.app_copy b2 (by omega)
  obtain ⟨ok3,sl3⟩:=own_ok o3
  have l3:=l1.more ⟨X3,rfl⟩
  obtain ⟨n4,K4,F4,G4,hn4,l4,⟨w1,w2,w3,w4⟩,fr,hF,ec⟩:=l3.commit (by omega) (by omega) (by omega) o3.bs ok3 uz zl (fun b hb=>by
   have:=sl3 b hb
   exact ⟨fun h=>by have:=l1.ra.lt b h; omega,by omega⟩)
  obtain ⟨p,s,T,mi⟩:=l.mi
  obtain ⟨_,_,_,_,_,_,_,c8,c9⟩:=mi.commit zl uz (by omega) (by omega) l.up
  obtain ⟨r1,r2⟩:=mi.rooms
  have dle:=mi.dlen zl uz (by omega) (by omega)
  have nm:=mi.nums
  have er4:=l4.c.room l4.ok
  have ed4 : (envL prog).call 39 [.ptr q.p 0] K4 = some (.int .i64 (zBi r m z).1.done,K4):=zV0 l4.ra.rin
  have k4:=l4.old.cells kg
  have g4 : g.cells[4]? = some (.int .i64 g.r):=rfl
  have n0 : ((0 : Int) != 0) = false:=rfl
  have a3 : Adds (H ++ X2) ((H ++ X2) ++ X3):=⟨X3,rfl⟩
  have b4 : BS K4 v2 (zBi r m z).2.1.b:=by
   rw [w1]
   exact (a3.bs b2).fr fr fun b hb h=>h.elim (sF b hb).1 (sF b hb).2
  have sF4 : ∀ b,slb v2 = some b → ¬ F4 b ∧ b ≠ pm:=fun b hb=>by
   have h2:=sl2 b hb
   refine ⟨fun h=>?_,(sF b hb).2⟩
   rcases hF b h with h | h
   ·exact (sF b hb).1 h
   ·have:=a3.len; omega
  have hn4' : n4 ≤ 1000 + (i + 1) * 100:=by omega
  have gg : (zBi r m z).2.1.g = g:=by rw [w2,hG]
  have gi : (zBi r m z).2.1.gen ≤ ((i + 1 : Nat) : Int) + 1:=by push_cast; omega
  have ni : (zBi r m z).2.1.next ≤ ((i + 1 : Nat) : Int) + 1:=by push_cast; omega
  have grr : m.g.r = g.r:=by rw [hG]
  have gpp : 0 ≤ g.pages:=by rw [← hG]; omega
  obtain ⟨D,hD⟩ : ∃ D : Nat,D = (zBl m.b z).length:=⟨_,rfl⟩
  rw [← hD] at p0
  have wa : IntKind.i64.wrap ((D : Int) + 1) = (D : Int) + 1:=zAq (by omega) (by omega)
  have wb : IntKind.i64.wrap (m.room - (D : Int)) = m.room - (D : Int):=zAq (by omega) (by omega)
  have wc : IntKind.i64.wrap (m.room - (D : Int) - 1) = m.room - (D : Int) - 1:=zAq (by omega) (by omega)
  have wd : IntKind.i64.wrap (g.r - (D : Int)) = g.r - (D : Int):=zAq (by omega) (by omega)
  have we : IntKind.i64.wrap (g.r - (D : Int) - 1) = g.r - (D : Int) - 1:=zAq (by omega) (by omega)
  have next:=ih (i + 1) n4 K4 (zBi r m z).1 (zBi r m z).2.1 F4 G4 v2
  have q4:=l4.old.cells hcs
  have q1:=l1.old.cells hcs
  rw [← hD] at c9
  generalize (zBi r m z).2.1 = m4 at *
  generalize (zBi r m z).1 = r4 at *
  generalize hK3 : (H ++ X2) ++ X3 = K3 at *
  generalize hK1 : H ++ X2 = K1 at *
  generalize g.cells = GC at *
  rw [lo]
  unfold l6x1
  simp -implicitDefEqProofs (maxSteps:=5000000) only [go_sem,simprocAttr,go_sem,itr,itq,zD9,zUv,zA6,wl,hd,ix,q0,f0,wx,d3,e3]
  unfold LW at p0
  generalize (envL prog).loop (runC (envX prog XW) (l6x0 (envX prog XW))) = LL at p0 ⊢
  refine zBo (fun x=>seqR (seqR (zBr 1 (seqR (zBr 2 x) _)) _) _) (p0 _ _ _ _ _ _ _ _ _ _ _ _ _ _ _ _ _ _ _ _ _ _ _ _ _ _ _ _ _ _ _ _ _ _ _ _ _ _ _ _ _ _ _ _ _ _ _ _ _ _ _ _ _ _ _ _ _ _ _ _ _ _ _ _ _ _ _ _ _ _ _ _ _ _ _ _ _ _ _ _ _ _ _ _ _ _ _ _ _ _ _ _ _ _ _ _ _ _ _ _ _ _ _ _ _ _ _ _ _ _ _ _ _ _ _ _ _ _ _ _ _ _ _ _ _ _ _ _ _ _ _ _ _ _ _ _ _ _ _ _ _ _ _ _ _ _ _ _ _ _ _ _ _ _ _ _ _ _ _ _ _ _ _ _ _ _ _ _ _ _ (by omega) (by rw [hD,Nat.zero_add,List.drop_zero,List.drop_zero]; rfl)) ?_
  rintro e t K' ⟨rfl,rfl,fv,rfl⟩
  by_cases hD0 : zBl m.b z = []
  ·have D0 : D = 0:=by rw [hD,hD0]; rfl
   subst D0
   rw [if_pos hD0] at c9
   have z0 : (((0 : Nat) : Int) == 0) = true:=rfl
   have n1 : (m4.room != m.room) = false:=by rw [c9]; simp
   have n2 : (r4.done != r.done) = false:=by rw [c8 hD0]; simp
   simp -implicitDefEqProofs (maxSteps:=5000000) only [go_sem,simprocAttr,go_sem,itr,itq,zD9,er1,ed1,e5,ec,n0,z0,er4,n1,ed4,n2,e2]
   exact next _ _ _ _ _ _ _ _ _ _ _ _ _ _ _ _ _ _ _ _ _ _ _ _ _ _ _ _ _ _ _ _ _ _ _ _ _ _ _ _ _ _ _ _ _ _ _ _ _ _ _ _ _ _ _ _ _ _ _ _ _ _ _ _ _ _ _ _ _ _ _ _ _ _ _ _ _ _ _ _ _ _ _ _ _ _ _ _ _ _ _ _ _ _ _ _ _ _ _ _ _ _ _ _ _ l4 hn4' gi ni gg b4 ok2 sF4 (by omega)
  ·have Dp : 0 < D:=by rw [hD]; exact List.length_pos_iff.2 hD0
   have z0 : ((D : Int) == 0) = false:=by simp; omega
   rw [if_neg hD0] at c9
   by_cases hr : (D : Int) + 1 > m.room
   ·rw [if_pos hr,grr] at c9
    have dl:=decide_eq_false (show ¬ (D : Int) + 1 ≤ m.room by omega)
    have n1 : (m4.room != g.r - (D : Int) - 1) = false:=by rw [c9]; simp
    simp -implicitDefEqProofs (maxSteps:=5000000) only [go_sem,simprocAttr,go_sem,itr,itq,zD9,er1,ed1,e5,ec,n0,z0,er4,wa,dl,k4,g4,wd,we,n1,e2]
    exact next _ _ _ _ _ _ _ _ _ _ _ _ _ _ _ _ _ _ _ _ _ _ _ _ _ _ _ _ _ _ _ _ _ _ _ _ _ _ _ _ _ _ _ _ _ _ _ _ _ _ _ _ _ _ _ _ _ _ _ _ _ _ _ _ _ _ _ _ _ _ _ _ _ _ _ _ _ _ _ _ _ _ _ _ _ _ _ _ _ _ _ _ _ _ _ _ _ _ _ _ _ _ _ _ _ l4 hn4' gi ni gg b4 ok2 sF4 (by omega)
   ·rw [if_neg hr] at c9
    have dl:=decide_eq_true (show (D : Int) + 1 ≤ m.room by omega)
    have n1 : (m4.room != m.room - (D : Int) - 1) = false:=by rw [c9]; simp
    simp -implicitDefEqProofs (maxSteps:=5000000) only [go_sem,simprocAttr,go_sem,itr,itq,zD9,er1,ed1,e5,ec,n0,z0,er4,wa,dl,wb,wc,n1,e2]
    exact next _ _ _ _ _ _ _ _ _ _ _ _ _ _ _ _ _ _ _ _ _ _ _ _ _ _ _ _ _ _ _ _ _ _ _ _ _ _ _ _ _ _ _ _ _ _ _ _ _ _ _ _ _ _ _ _ _ _ _ _ _ _ _ _ _ _ _ _ _ _ _ _ _ _ _ _ _ _ _ _ _ _ _ _ _ _ _ _ _ _ _ _ _ _ _ _ _ _ _ _ _ _ _ _ _ l4 hn4' gi ni gg b4 ok2 sF4 (by omega)
end
set_option maxHeartbeats 16000000 in
theorem metaRooms (b s w a r : Int) (v : AV) (h : zAa) (d : DatC h (.sl [.sl [.int .i64,.int .i64]]) v) : ∃ h',zCm prog (envX prog XW) 6 [.agg [.int .i64 b,.int .i64 s,.int .i64 w,.int .i64 a,.int .i64 r],v] h = some (.bool true,h'):=by
 obtain ⟨L,rs,rd⟩:=zU2 d
 obtain ⟨g,hgD⟩ : ∃ g : GmS,g = ⟨b,s,w,a,r⟩:=⟨_,rfl⟩
 have eg : [AV.int .i64 b,.int .i64 s,.int .i64 w,.int .i64 a,.int .i64 r] = g.cells:=by rw [hgD]; rfl
 rw [eg,d6]
 refine zWw ?_
 unfold b6
 generalize hQ : (fun (e : Ex) (t : T) (h1 : zAa)=>fin [.tmp 4] (some (e,t,h1)) = some (AV.bool true,h1)) = Q
 obtain ⟨h0,e0⟩ : ∃ h0,h0 = h ++ [ABlk.rw g.cells]:=⟨_,rfl⟩
 have a0 : Adds h h0:=⟨_,e0⟩
 have cg : cellsOf h0 h.length = some g.cells:=by rw [e0]; unfold cellsOf; simp
 have e0:=e0.symm
 have wl:=rs.len
 rw [List.length_map] at wl
 have vc : zA7 v = some [v]:=by
  cases d with
  | nil=>rfl
  | sl=>rfl
 have el:=lightC g h0
 have eG : ∀ H,(envL prog).call 34 [.agg g.cells] H = some (.bool g.good,H):=fun H=>Gm.goodR g.b g.s g.w g.a g.r H
 have gl : g.cells.length = 5:=rfl
 have gt : g.cells.take 5 = g.cells:=rfl
 by_cases hz : (L.length : Int) > 30
 ·have dz:=decide_eq_true hz
  generalize g.cells = GC at *
  simp -implicitDefEqProofs (maxSteps:=5000000) only [go_sem,simprocAttr,itr,itq,zD9,zHu,e0,wl,dz,zAc]
  subst hQ
  simp -implicitDefEqProofs (maxSteps:=5000000) only [go_sem,simprocAttr]
 have dz:=decide_eq_false hz
 cases hL : zXa g with
 | false =>
  rw [hL] at el
  generalize g.cells = GC at *
  simp -implicitDefEqProofs (maxSteps:=5000000) only [go_sem,simprocAttr,itr,itq,zD9,zHu,e0,wl,dz,cg,gl,gt,el,zAc]
  subst hQ
  simp -implicitDefEqProofs (maxSteps:=5000000) only [go_sem,simprocAttr]
 | true =>
 rw [hL] at el
 cases hg : g.good with
 | false =>
  rw [hg] at eG
  generalize g.cells = GC at *
  simp -implicitDefEqProofs (maxSteps:=5000000) only [go_sem,simprocAttr,itr,itq,zD9,zHu,e0,wl,dz,cg,gl,gt,el,eG,zAc]
  subst hQ
  simp -implicitDefEqProofs (maxSteps:=5000000) only [go_sem,simprocAttr]
 | true =>
 rw [hg] at eG
 obtain ⟨q,H1,F,m1,A1,oF,en,pm,n,H3,F3,G,hn,l,mk,ef⟩:=beginC hg h0
 have cg1:=A1.cells cg
 have e35:=fastP hg h0
 have e36:=slowP hg h0
 have eO:=ofC hg H1
 have oL : (ofL8 g)[0]? = some (.int .i64 g.bytes):=rfl
 have oll : (ofL8 g).length = 8:=rfl
 have cg2 : cellsOf (H1 ++ [.rw (u8s (List.replicate g.bytes.toNat 0))]) h.length = some g.cells:=zAy cg1
 have cg3:=l.old.cells cg
 have n0 : ((0 : Int) != 0) = false:=rfl
 have N:=g.nm hg
 have Ny:=N.hy
 have eO3:=ofC hg H3
 have er3:=l.c.room l.ok
 have rm3 : (zEg g (List.replicate g.bytes.toNat 0)).room = g.r:=by show g.r - 0 = g.r; omega
 rw [rm3] at er3
 have g4 : g.cells[4]? = some (.int .i64 g.r):=rfl
 have nr : (g.r != g.r) = false:=by simp
 have mk2:=makeB (n:=g.bytes.toNat) (by omega) H3
 rw [show ((g.bytes.toNat : Nat) : Int) = g.bytes by omega] at mk2
 have l4:=l.more ⟨[.rw (u8s (List.replicate g.bytes.toNat 0))],rfl⟩
 have bs4 : BS (H3 ++ [.rw (u8s (List.replicate g.bytes.toNat 0))]) (.sl H3.length 0 1 (List.replicate g.bytes.toNat (0 : Int)).length g.bytes.toNat true) (List.replicate g.bytes.toNat 0):=BS.block (by simp)
 rw [List.length_replicate] at bs4
 have bw : ∀ b,slb (AV.sl H3.length 0 1 g.bytes.toNat g.bytes.toNat true) = some b → ¬ F3 b ∧ b ≠ pm:=fun b hb=>by
  injection hb with hb
  exact ⟨fun h=>by have:=l.ra.lt b h; omega,by have:=l.c.lt _ l.pmG; omega⟩
 have p1:=roomsL1 (rs.adds a0) (fun x hx=>⟨(rd x hx).1.adds a0,(rd x hx).2⟩) (by omega) (q:=q) (pm:=pm) (g:=g) cg (k:=L.length) (i:=0) (n:=n) (H:=H3 ++ [.rw (u8s (List.replicate g.bytes.toNat 0))]) (r:=(opsS (zGd g.fast.toNat g.slow.toNat) (zBd g (List.replicate g.bytes.toNat 0))).1) (m:=zEg g (List.replicate g.bytes.toNat 0)) (F:=F3) (G:=G) (wn:=.sl H3.length 0 1 g.bytes.toNat g.bytes.toNat true)
 rw [show ((0 : Nat) : Int) = 0 from rfl] at p1
 generalize hOL : ofL8 g = OL at *
 generalize hH2 : H1 ++ [ABlk.rw (u8s (List.replicate g.bytes.toNat 0))] = H2 at *
 generalize hH4 : H3 ++ [ABlk.rw (u8s (List.replicate g.bytes.toNat 0))] = H4 at *
 generalize hGC : g.cells = GC at *
 simp -implicitDefEqProofs (maxSteps:=5000000) only [go_sem,simprocAttr,itr,itq,zD9,zUv,zA6,e0,wl,dz,cg,gl,gt,el,eG,e35,e36,en,cg1,eO,oL,oll,mk,cg2,ef,cg3,n0,er3,g4,nr,eO3,mk2]
 unfold LW at p1
 generalize (envL prog).loop (runC (envX prog XW) (l6x1 (envX prog XW))) = LL at p1 ⊢
 refine zBo (fun r=>seqR (zBr 0 r) _) (p1 _ _ _ _ _ _ _ _ _ _ _ _ _ _ _ _ _ _ _ _ _ _ _ _ _ _ _ _ _ _ _ _ _ _ _ _ _ _ _ _ _ _ _ _ _ _ _ _ _ _ _ _ _ _ _ _ _ _ _ _ _ _ _ _ _ _ _ _ _ _ _ _ _ _ _ _ _ _ _ _ _ _ _ _ _ _ _ _ _ _ _ _ _ _ _ _ _ _ _ _ _ _ _ _ _ _ _ _ _ _ _ _ _ _ _ _ _ _ _ _ _ _ _ _ _ _ _ _ _ _ _ _ _ _ _ _ _ _ _ _ _ _ _ _ _ _ _ _ _ _ _ _ _ _ _ _ _ _ _ _ _ _ _ _ _ _ _ _ _ l4 (by omega) (by show (1 : Int) ≤ 0 + 1; omega) (by show (1 : Int) ≤ 0 + 1; omega) rfl bs4 (fun b o s n l e he=>by injection he; omega) bw (by omega)) ?_
 rintro e t H5 (⟨rfl,h4⟩ | ⟨rfl,n',r',m',F',G',wn',l5,b5,fv,rfl,h9⟩)
 ·simp -implicitDefEqProofs (maxSteps:=5000000) only [go_sem,simprocAttr,zAc]
  subst hQ
  simp -implicitDefEqProofs (maxSteps:=5000000) only [go_sem,simprocAttr,h4]
 obtain ⟨v6,X6,o6,e6⟩:=l5.c.bytes l5.ok
 have a6 : Adds H5 (H5 ++ X6):=⟨X6,rfl⟩
 have eb:=keepB o6.bs (a6.bs b5) l5.ok.bu l5.ok.bu
 rw [decide_eq_true rfl] at eb
 simp -implicitDefEqProofs (maxSteps:=5000000) only [go_sem,simprocAttr,itr,itq,zD9,zHu,h9,e6,eb,zAc]
 subst hQ
 simp -implicitDefEqProofs (maxSteps:=5000000) only [go_sem,simprocAttr]
end Go.Proofs.YtbmmnfeeapnhkaaGreat.G08
end
