/- What the functions that the law reaches answer, for every argument. No condition but those in each statement. -/
import Derived.Test.YtbmmnfeeapnhkaaGRB
import Derived.Test.YtbmmnfeeapnhkaaE6
set_option linter.unusedSimpArgs false
set_option linter.unusedVariables false
set_option linter.unusedSectionVars false
set_option maxRecDepth 10000
section
namespace Go.Proofs.Ytbmmnfeeapnhkaa.G98
open Go Go.Proofs.Ytbmmnfeeapnhkaa.Eng
theorem under_bs {H : zAa} {v : AV} {z : List Int} (b : BS H v z) {n : Nat} (h : ∀ b,slb v = some b → b < n) : v.under n = true:=by
 rcases b with ⟨rfl,_⟩ | ⟨b,o,l,e,cs,rfl,_⟩
 ·rfl
 ·simp [AV.under]; exact h b rfl
theorem under_gr {k : Nat} {H : zAa} {B : Nat} {v : AV} {l : List (List AV)} (g : GR k H B v l) {n : Nat} (h : ∀ b,slb v = some b → b < n) : v.under n = true:=by
 rcases g with ⟨_,rfl⟩ | ⟨_,b,_,rfl,_⟩
 ·rfl
 ·simp [AV.under]; exact h b rfl
theorem MtS.Ok.carry {m : MtS} (o : m.Ok) : (zE4 m).Ok :=
 ⟨o.g,o.bl,o.bu,by
  have N:=m.g.nm o.g
  have bl:=o.bl
  have hc:=N.hc; have hp:=N.hp
  show ((cutS m.b).length : Int) = m.g.pages
  rw [zDr]; unfold zCf; omega,zFu o.bu,by
  show 0 ≤ (m.gen + 1) % 4294967296 ∧ (m.gen + 1) % 4294967296 < 4294967296
  omega,by
  show 1 - m.place = 0 ∨ 1 - m.place = 1
  have:=o.place; omega,o.tail,o.next,by show (0 : Int) ≤ 0 ∧ (0 : Int) ≤ 100000; omega⟩
theorem MtS.Ok.fit {m : MtS} (o : m.Ok) : (zE0 m).Fit:=by
 have g:=o.carry.gen
 have t:=o.tail; have N:=m.g.nm o.g; have r:=N.hr
 exact ⟨fitG o.g,g,⟨t.1,by show m.tail < 65536; omega⟩,o.next⟩
theorem zV2 {r : RgS} {m : MtS} {R1 R2 R3 R4 : RgS × Int} (h1 : R1 = opsS r (zFz m.g.home 0 (cutS m.b) m.home)) (h2 : R2 = R1.1.flush 0) (h3 : R3 = oneS R2.1 (some (1 - m.place,zF7 (zE0 m)))) (h4 : R4 = R3.1.flush 0) : opsS r (zBb m) = if R1.2 = 0 then (if R2.2 = 0 then (if R3.2 = 0 then R4 else R3) else R2) else R1:=by
 unfold zBb
 have e2 : oneS R1.1 none = R2:=h2.symm
 have e4 : oneS R3.1 none = R4:=h4.symm
 rw [zMb,← h1,zGc,zGc,zGo,e2,← h3,e4]
section
variable {q : RPl} {H : zAa} {n : Nat} {r : RgS} {F : Nat → Prop} (m : zA2 q H n r F) {mt : MtS} (ok : mt.Ok) {pm : Nat} {G : Nat → Prop} (c : MtH H pm q.p mt G) (d : ∀ b,G b → ¬ F b) (hn : n + 100 ≤ 1000000000)
include m ok c d hn
set_option maxHeartbeats 16000000 in
theorem carryC : ∃ n' H' F',n' ≤ n + 30 ∧ zA2 q H' n' (opsS r (zBb mt)).1 F' ∧
  (((opsS r (zBb mt)).2 = 0 ∧ zBi H (fun b=>F b ∨ b = pm) H' F' ∧ ∃ G',MtH H' pm q.p (zE4 mt) G' ∧ (∀ b,G' b → G b ∨ H.length ≤ b) ∧ (∀ b,G' b → ¬ F' b)) ∨ ((opsS r (zBb mt)).2 ≠ 0 ∧ zBi H F H' F')) ∧
  (envL prog).call 41 [.ptr pm 0] H = some (.int .i64 (opsS r (zBb mt)).2,H'):=by
 obtain ⟨at0,seq0,vb,vh,mc⟩:=c
 have N:=mt.g.nm ok.g
 have Ny:=N.hy; have Np:=N.hp; have Nc:=N.hc
 have bl:=ok.bl
 obtain ⟨w,K0,a0,g0,ec⟩:=cutC mc.b mc.lb ok.bu (by omega)
 have L0:=a0.len
 have cl : (cutS mt.b).length ≤ 21:=by rw [zDr]; unfold zCf; omega
 have clh : (cutS mt.b).length = mt.home.length:=by have a : ((cutS mt.b).length : Int) = mt.g.pages:=ok.carry.hl; have:=ok.hl; omega
 have ll : lenSl w = some (.int .i64 ((cutS mt.b).length : Int)):=by have:=g0.len; rw [List.length_map] at this; exact this
 have m0 : zA2 q K0 n r F:=by obtain ⟨X,rfl⟩:=a0; exact m.adds X
 have s0 : zBi H F K0 F:=by obtain ⟨X,rfl⟩:=a0; exact zBi.adds _ _ _
 have nF : ∀ b,H.length ≤ b → ¬ F b:=fun b hb hf=>by have:=m.lt b hf; omega
 have np:=d _ mc.gp
 have wF : ∀ b,slb w = some b → ¬ F b:=fun b hb=>nF b (g0.out b hb).1
 have hF : ∀ b,slb vh = some b → ¬ F b:=fun b hb=>d b (mc.gh b hb).1
 have pl:=mc.lt _ mc.gp
 have kp:=zAi mc.blk
 have kp0:=a0.cells kp
 have gh0 : GR 48 K0 0 vh (mt.home.map u8s):=by obtain ⟨X,rfl⟩:=a0; exact mc.h.mono X
 have k9 : (zA4 q.p mt at0 seq0 vb vh)[9]? = some vb:=rfl
 have k8 : (zA4 q.p mt at0 seq0 vb vh)[8]? = some (.ptr q.p 0):=rfl
 have k5 : (zA4 q.p mt at0 seq0 vb vh)[5]? = some (.int .u32 mt.gen):=rfl
 have k11 : (zA4 q.p mt at0 seq0 vb vh)[11]? = some (.int .i64 mt.place):=rfl
 have k12 : (zA4 q.p mt at0 seq0 vb vh)[12]? = some (.int .i64 mt.tail):=rfl
 have k13 : (zA4 q.p mt at0 seq0 vb vh)[13]? = some (.int .u32 mt.next):=rfl
 have kg : (zA4 q.p mt at0 seq0 vb vh).take 5 = mt.g.cells:=rfl
 have kl : (zA4 q.p mt at0 seq0 vb vh).length = 15:=rfl
 have l1:=carryL m0 ok.g kp0 kl k8 (show (zA4 q.p mt at0 seq0 vb vh)[10]? = some vh from rfl) kg np g0 wF gh0 hF (zFu ok.bu) ok.hh clh (by omega) (by omega) (k:=(cutS mt.b).length) (i:=0) (K:=K0) (r':=r) (F':=F)
 rw [show ((0 : Nat) : Int) = 0 from rfl,List.drop_zero,List.drop_zero] at l1
 obtain ⟨R1,hR1⟩ : ∃ R,R = opsS r (zFz mt.g.home 0 (cutS mt.b) mt.home):=⟨_,rfl⟩
 obtain ⟨R2,hR2⟩ : ∃ R,R = R1.1.flush 0:=⟨_,rfl⟩
 obtain ⟨R3,hR3⟩ : ∃ R,R = oneS R2.1 (some (1 - mt.place,zF7 (zE0 mt))):=⟨_,rfl⟩
 obtain ⟨R4,hR4⟩ : ∃ R,R = R3.1.flush 0:=⟨_,rfl⟩
 have eR:=zV2 hR1 hR2 hR3 hR4
 rw [← hR1] at l1
 have key : Outs (runC (envL prog) (b41 (envL prog)) ([.ptr pm 0] ++ List.replicate (122 - [AV.ptr pm 0].length) .undef) H) fun e' t K=>fin [.tmp 2] (some (e',t,K)) = some (.int .i64 (opsS r (zBb mt)).2,K) ∧ ∃ n' F',n' ≤ n + 30 ∧ zA2 q K n' (opsS r (zBb mt)).1 F' ∧
   (((opsS r (zBb mt)).2 ≠ 0 ∧ zBi H F K F') ∨ ((opsS r (zBb mt)).2 = 0 ∧ zBi H (fun b=>F b ∨ b = pm) K F' ∧ (∀ b,b < K0.length → ¬ F b → ¬ F' b) ∧ K0.length ≤ K.length ∧ Fr K0 K (fun b=>F b ∨ b = pm) ∧ K[pm]? = some (.rw (zA4 q.p (zE4 mt) mt.tail mt.next vb w)))):=by
  unfold b41
  generalize hQ : (fun (e' : Ex) (t : T) (K : zAa)=>fin [.tmp 2] (some (e',t,K)) = some (.int .i64 (opsS r (zBb mt)).2,K) ∧ ∃ n' F',n' ≤ n + 30 ∧ zA2 q K n' (opsS r (zBb mt)).1 F' ∧
   (((opsS r (zBb mt)).2 ≠ 0 ∧ zBi H F K F') ∨ ((opsS r (zBb mt)).2 = 0 ∧ zBi H (fun b=>F b ∨ b = pm) K F' ∧ (∀ b,b < K0.length → ¬ F b → ¬ F' b) ∧ K0.length ≤ K.length ∧ Fr K0 K (fun b=>F b ∨ b = pm) ∧ K[pm]? = some (.rw (zA4 q.p (zE4 mt) mt.tail mt.next vb w))))) = Q
  simp -implicitDefEqProofs (maxSteps:=5000000) only [go_sem,simprocAttr,itr,itq,zA9,kp,k9,ec,ll]
  unfold LP1 at l1
  generalize (envL prog).loop (runC (envL prog) (l41x0 (envL prog))) = LL at l1 ⊢
  refine zBq (fun r=>seqR (zBp 0 r) _) (l1 _ _ _ _ _ _ _ _ _ _ _ _ _ _ _ _ _ _ _ _ _ _ _ _ _ _ _ _ _ _ _ _ _ _ _ _ _ _ _ _ _ _ _ _ _ _ _ _ _ _ _ _ _ _ _ _ _ _ _ _ _ _ _ _ _ _ _ _ _ _ _ _ _ _ _ _ _ _ _ _ _ _ _ _ _ _ _ _ _ _ _ _ _ _ _ _ _ _ _ _ _ _ _ _ _ _ _ _ _ _ _ _ _ _ _ _ _ m0 (zBi.refl _ _) (by omega)) ?_
  rintro e t K1 ⟨n1,F1,m1,hn1,st1,fv,rfl,⟨rfl,h0⟩ | ⟨rfl,h6,h0⟩⟩
  rotate_left
  ·simp -implicitDefEqProofs (maxSteps:=5000000) only [go_sem,simprocAttr,itr,itq,zAc]
   subst hQ
   rw [eR,if_neg h0]
   refine ⟨?_,n1,F1,by omega,m1,.inl ⟨h0,s0.trans st1⟩⟩
   simp -implicitDefEqProofs (maxSteps:=5000000) only [go_sem,simprocAttr,h6]
  have kp1:=st1.1.cells kp0 np
  obtain ⟨K2,m2,st2,L2,ef2⟩:=zKj m1 0
  have ns1 : ∀ b,b < K0.length → ¬ F b → ¬ F1 b:=fun b hb hf h=>(st1.2 b h).elim hf fun h=>by omega
  have kp2:=st2.1.cells kp1 (ns1 _ (by omega) np)
  have kp2':=fun X : zAa=>zAz (x:=X) kp2
  obtain ⟨GC,hGC⟩ : ∃ GC,GC = mt.g.cells:=⟨_,rfl⟩
  obtain ⟨PC,hPC⟩ : ∃ PC,PC = (zE0 mt).cells:=⟨_,rfl⟩
  have fx : zHe [AV.int .i64 0,.int .i64 0,.int .i64 0,.int .i64 0,.int .i64 0,.int .u32 0,.int .i64 0,.int .u32 0] [(0,5,.agg GC),(5,1,.int .u32 (IntKind.u32.wrap (mt.gen + 1))),(6,1,.int .i64 mt.tail),(7,1,.int .u32 mt.next)] = some PC:=by
   rw [hGC,hPC]; rfl
  have wpl : IntKind.i64.wrap (1 - mt.place) = 1 - mt.place:=zAt (by have:=ok.place; omega) (by have:=ok.place; omega)
  have pcl : PC.length = 8:=by rw [hPC]; rfl
  have pca : PC.all AV.isCell = true:=by rw [hPC]; rfl
  have pct : PC.take 8 = PC:=List.take_of_length_le (by omega)
  have spx : zBl [AV.int .i64 0,.int .i64 0,.int .i64 0,.int .i64 0,.int .i64 0,.int .u32 0,.int .i64 0,.int .u32 0] 0 PC = PC:=by
   rw [zAq _ _ _ (by omega),List.drop_of_length_le (by simp [pcl])]; simp
  have fp:=ok.fit
  have es:=fun X=>zS3 fp (K2 ++ X)
  obtain ⟨n4,K4,F4,hn4,m4,st4,ew⟩:=mputC (m2.adds [.rw PC]) (1 - mt.place) (zM0 fp.gen) (show zF3 (zEz (zE0 mt)).m (zEz (zE0 mt)).i = true from rfl) (by omega)
  have ew : (envL prog).call 34 [.ptr q.p 0,.int .i64 (1 - mt.place),.agg (zEz (zE0 mt)).cells] (K2 ++ [.rw PC]) = some (.int .i64 (opsS (R1.1.flush 0).1 [some (1 - mt.place,zF7 (zE0 mt))]).2,K4):=ew
  have m4 : zA2 q K4 n4 (opsS (R1.1.flush 0).1 [some (1 - mt.place,zF7 (zE0 mt))]).1 F4:=m4
  rw [zGo,← hR2,← hR3] at ew m4
  have L1:=st1.1.1; have L4:=st4.1.1
  simp only [List.length_append,List.length_cons,List.length_nil] at L4 hn4
  have s2 : zBi K0 F K2 F1:=st1.trans st2
  have s4 : zBi K0 F K4 F4:=(s2.trans (zBi.adds K2 [.rw PC] F1)).trans st4
  have ns4 : ∀ b,b < K0.length → ¬ F b → ¬ F4 b:=fun b hb hf h=>(s4.2 b h).elim hf fun h=>by omega
  have kp4:=s4.1.cells kp0 np
  have q4 : cellsOf K4 K2.length = some PC:=st4.1.cells (by unfold cellsOf; simp) (fun hf=>by have:=m2.lt _ hf; omega)
  obtain ⟨K5,m5,st5,L5,ef5⟩:=zKj m4 0
  have s5 : zBi K0 F K5 F4:=s4.trans st5
  have kp5:=s5.1.cells kp0 np
  have q5 : cellsOf K5 K2.length = some PC:=st5.1.cells q4 (fun hf=>(st4.2 _ hf).elim (fun h=>by have:=m2.lt _ h; omega) fun h=>by simp at h; omega)
  have b5 : K5[pm]? = some (.rw (zA4 q.p mt at0 seq0 vb vh)):=s5.1.at (a0.at mc.blk) np
  rw [← hR2] at ef2 m2
  rw [← hR4] at ef5 m5
  have lp5:=zAk b5
  have sS : ∀ C : List AV,cellsOf (K5.set pm (.rw C)) K2.length = some PC:=fun C=>(zBf _ _ _ _ (by omega)).trans q5
  have s2s : ∀ X Y : List AV,(K5.set pm (.rw X)).set pm (.rw Y) = K5.set pm (.rw Y):=fun X Y=>List.set_set ..
  have pS : ∀ C : List AV,cellsOf (K5.set pm (.rw C)) pm = some C:=fun C=>zAi (zA1 _ _ _ lp5)
  have wc:=g0.cells
  obtain ⟨C1,hC1⟩ : ∃ C,C = (zE0 mt).cells ++ [.ptr q.p 0,vb,vh,.int .i64 mt.place,.int .i64 mt.tail,.int .u32 mt.next,.int .i64 mt.used]:=⟨_,rfl⟩
  obtain ⟨C2,hC2⟩ : ∃ C,C = (zE0 mt).cells ++ [.ptr q.p 0,vb,vh,.int .i64 (1 - mt.place),.int .i64 mt.tail,.int .u32 mt.next,.int .i64 mt.used]:=⟨_,rfl⟩
  obtain ⟨C3,hC3⟩ : ∃ C,C = (zE0 mt).cells ++ [.ptr q.p 0,vb,vh,.int .i64 (1 - mt.place),.int .i64 mt.tail,.int .u32 mt.next,.int .i64 0]:=⟨_,rfl⟩
  obtain ⟨C4,hC4⟩ : ∃ C,C = zA4 q.p (zE4 mt) mt.tail mt.next vb w:=⟨_,rfl⟩
  have w1 : zAy K5 pm 0 PC = some (K5.set pm (.rw C1)):=by
   rw [zAs b5,if_pos ⟨by rw [pcl]; show 0 + 8 ≤ 15; omega,pca⟩,zAq _ _ _ (by omega),pcl,hC1,hPC]; rfl
  have w2 : zAy (K5.set pm (.rw C1)) pm 11 [.int .i64 (1 - mt.place)] = some (K5.set pm (.rw C2)):=by
   rw [zAs (zA1 _ _ _ lp5),if_pos ⟨by rw [hC1]; show 11 + 1 ≤ 15; omega,rfl⟩,zAv,s2s,hC1,hC2]; rfl
  have w3 : zAy (K5.set pm (.rw C2)) pm 14 [.int .i64 0] = some (K5.set pm (.rw C3)):=by
   rw [zAs (zA1 _ _ _ lp5),if_pos ⟨by rw [hC2]; show 14 + 1 ≤ 15; omega,rfl⟩,zAv,s2s,hC2,hC3]; rfl
  have w4 : zAy (K5.set pm (.rw C3)) pm 10 [w] = some (K5.set pm (.rw C4)):=by
   rw [zAs (zA1 _ _ _ lp5),if_pos ⟨by rw [hC3]; show 10 + 1 ≤ 15; omega,by simp [wc.2]⟩,zAv,s2s,hC3,hC4]; rfl
  rw [← hGC] at kg
  have gcl : GC.length = 5:=by rw [hGC]; rfl
  rw [← hPC] at es
  generalize hMC : zA4 q.p mt at0 seq0 vb vh = MC at *
  generalize hSC : (zEz (zE0 mt)).cells = SC at *
  by_cases e2 : R2.2 = 0
  rotate_left
  ·have n2 : (R2.2 != 0) = true:=by simpa using e2
   simp -implicitDefEqProofs (maxSteps:=5000000) only [go_sem,simprocAttr,itr,itq,kp1,k8,ef2,n2,zAc]
   subst hQ
   rw [eR,if_pos h0,if_neg e2]
   refine ⟨?_,n1,F1,by omega,m2,.inl ⟨e2,s0.trans s2⟩⟩
   simp -implicitDefEqProofs (maxSteps:=5000000) only [go_sem,simprocAttr]
  have n2 : (R2.2 != 0) = false:=by rw [e2]; rfl
  by_cases e3 : R3.2 = 0
  rotate_left
  ·have n3 : (R3.2 != 0) = true:=by simpa using e3
   simp -implicitDefEqProofs (maxSteps:=5000000) only [go_sem,simprocAttr,itr,itq,kp1,k8,ef2,n2,kp2,kp2',kg,kl,gcl,k5,k11,k12,k13,fx,spx,pcl,pca,pct,wpl,es,ew,kp4,q4,n3,zAc]
   subst hQ
   rw [eR,if_pos h0,if_pos e2,if_neg e3]
   refine ⟨?_,n4,F4,by omega,m4,.inl ⟨e3,s0.trans s4⟩⟩
   simp -implicitDefEqProofs (maxSteps:=5000000) only [go_sem,simprocAttr]
  have n3 : (R3.2 != 0) = false:=by rw [e3]; rfl
  by_cases e4 : R4.2 = 0
  rotate_left
  ·have n4' : (R4.2 != 0) = true:=by simpa using e4
   simp -implicitDefEqProofs (maxSteps:=5000000) only [go_sem,simprocAttr,itr,itq,kp1,k8,ef2,n2,kp2,kp2',kg,kl,gcl,k5,k11,k12,k13,fx,spx,pcl,pca,pct,wpl,es,ew,kp4,q4,n3,ef5,n4',zAc]
   subst hQ
   rw [eR,if_pos h0,if_pos e2,if_pos e3]
   refine ⟨?_,n4,F4,by omega,m5,.inl ⟨e4,s0.trans s5⟩⟩
   simp -implicitDefEqProofs (maxSteps:=5000000) only [go_sem,simprocAttr]
  have n4' : (R4.2 != 0) = false:=by rw [e4]; rfl
  simp -implicitDefEqProofs (maxSteps:=5000000) only [go_sem,simprocAttr,itr,itq,kp1,k8,ef2,n2,kp2,kp2',kg,kl,gcl,k5,k11,k12,k13,fx,spx,pcl,pca,pct,wpl,es,ew,kp4,q4,n3,ef5,n4',kp5,q5,zAu,wc.1,w1,w2,w3,w4,sS,pS,zAc]
  subst hQ
  rw [eR,if_pos h0,if_pos e2,if_pos e3,e4]
  have fS : Fr K5 (K5.set pm (.rw C4)) (· = pm):=Fr.set _ _ rfl
  have mS : zA2 q (K5.set pm (.rw C4)) n4 R4.1 F4:=m5.fr fS fun b hb e=>ns4 pm (by omega) np (e ▸ hb)
  have fA : Fr K0 (K5.set pm (.rw C4)) (fun b=>F b ∨ b = pm):=(s5.1.mono fun b _ hb=>.inl hb).trans (fS.mono fun b _ hb=>.inr hb) fun _ _ h=>h
  refine ⟨?_,n4,F4,by omega,mS,.inr ⟨rfl,zBi.trans (F':=fun b=>F b ∨ b = pm) ⟨s0.1.mono fun b _ hb=>.inl hb,fun b hb=>.inl hb⟩ ⟨fA,fun b hb=>(s5.2 b hb).imp .inl id⟩,ns4,by simp; omega,fA,by rw [← hC4]; exact zA1 _ _ _ lp5⟩⟩
  simp -implicitDefEqProofs (maxSteps:=5000000) only [go_sem,simprocAttr]
 obtain ⟨e',t,K,hr,hf,n',F',hn',mK,⟨h0,sK⟩ | ⟨h0,sK,ns,lK,fK,bK⟩⟩:=key
 ·obtain ⟨H',F'',et,mt',st',_⟩:=m.trim mK sK (.int .i64 (opsS r (zBb mt)).2)
  exact ⟨_,H',F'',hn',mt',.inr ⟨h0,st'⟩,by rw [c41,hr,hf]; exact et⟩
 ·have wu : w.under H.length = false:=by
   rcases g0.under with ⟨h,_⟩ | h
   ·exfalso
    have:=congrArg List.length h
    rw [List.length_map,zDr] at this
    unfold zCf at this
    simp at this
    omega
   ·exact h
  have et : trim H (some (AV.int .i64 (opsS r (zBb mt)).2,K)) = some (.int .i64 (opsS r (zBb mt)).2,K):=by
   refine zDw pm _ _ w mc.blk bK (by simp [ABlk.vals,zA4]) wu fun x hx=>?_
   have vu:=under_bs mc.b fun b hb=>mc.lt b (mc.gb b hb).1
   have hu:=under_gr mc.h fun b hb=>mc.lt b (mc.gh b hb).1
   have pu:=m.p_lt
   simp only [ABlk.vals,zA4,GmS.cells,List.cons_append,List.nil_append,List.mem_cons,List.not_mem_nil,or_false] at hx
   rcases hx with rfl | rfl | rfl | rfl | rfl | rfl | rfl | rfl | rfl | rfl | rfl | rfl | rfl | rfl | rfl
   all_goals first | rfl | exact vu | exact hu | simpa [AV.under] using pu
  have wb : ∀ b,slb w = some b → H.length ≤ b ∧ b < K0.length:=g0.out
  refine ⟨n',K,F',hn',mK,.inl ⟨h0,sK,fun b=>G b ∨ (H.length ≤ b ∧ b < K0.length),⟨mt.tail,mt.next,vb,w,⟨bK,?_,mc.lb,?_,.inl mc.gp,?_,?_,?_⟩⟩,?_,?_⟩,?_⟩
  ·exact (a0.bs mc.b).fr fK fun b hb h=>h.elim (d b (mc.gb b hb).1) (mc.gb b hb).2
  ·exact (g0.low (Nat.zero_le _)).frS fK fun b hb h=>by
    have:=wb b hb
    rcases h with h | h
    ·exact nF b this.1 h
    ·omega
  ·exact fun b hb=>⟨.inl (mc.gb b hb).1,(mc.gb b hb).2⟩
  ·exact fun b hb=>by have:=wb b hb; exact ⟨.inr this,by omega⟩
  ·exact fun b hb=>hb.elim (fun h=>by have:=mc.lt b h; omega) fun h=>by omega
  ·exact fun b hb=>hb.imp id fun h=>h.1
  ·exact fun b hb=>hb.elim (fun h=>ns b (by have:=mc.lt b h; omega) (d b h)) fun h=>ns b h.2 (nF b h.1)
  ·rw [c41,hr,hf]; exact et
end
end Go.Proofs.Ytbmmnfeeapnhkaa.G98
end
section
namespace Go.Proofs.Ytbmmnfeeapnhkaa.G98
open Go Go.Proofs.Ytbmmnfeeapnhkaa.Eng
theorem mt_vals {p : Nat} {m : MtS} {a0 s0 : Int} {vb vh a : AV} (h : a ∈ zA4 p m a0 s0 vb vh) {x : Nat} (hx : slb a = some x) : slb vb = some x ∨ slb vh = some x:=by
 simp only [zA4,GmS.cells,List.cons_append,List.nil_append,List.mem_cons,List.not_mem_nil,or_false] at h
 rcases h with rfl | rfl | rfl | rfl | rfl | rfl | rfl | rfl | rfl | rfl | rfl | rfl | rfl | rfl | rfl
 all_goals first | exact .inl hx | exact .inr hx | cases hx
theorem MtC.slb_lt {H : zAa} {pm p : Nat} {m : MtS} {a0 s0 : Int} {vb vh : AV} {G : Nat → Prop} (c : MtC H pm p m a0 s0 vb vh G) : ∀ k,H[pm]? = some k → ∀ a ∈ k.vals,∀ x,slb a = some x → x < H.length:=fun k hk a ha x hx=>by
 rw [c.blk] at hk; injection hk with hk
 rw [← hk] at ha
 rcases mt_vals ha hx with h | h
 ·exact c.lt _ (c.gb _ h).1
 ·exact c.lt _ (c.gh _ h).1
theorem bs_same {H H' : zAa} {v : AV} {z : List Int} (b : BS H v z) (e : ∀ b,slb v = some b → H'[b]? = H[b]?) : BS H' v z:=by
 rcases b with h | ⟨b,o,l,x,cs,rfl,hc,h⟩
 ·exact .inl h
 ·exact .inr ⟨b,o,l,x,cs,rfl,(zDh (e b rfl)).trans hc,h⟩
structure MStep (q : RPl) (pm : Nat) (H : zAa) (F G : Nat → Prop) (H' : zAa) (n' : Nat) (r' : RgS) (F' : Nat → Prop) (mt' : MtS) (G' : Nat → Prop) : Prop where
 m : zA2 q H' n' r' F'
 c : MtH H' pm q.p mt' G'
 fr : Fr H H' (fun b=>F b ∨ b = pm)
 hF : ∀ b,F' b → F b ∨ H.length ≤ b
 hG : ∀ b,G' b → G b ∨ H.length ≤ b
 d : ∀ b,G' b → ¬ F' b
theorem MStep.trim {q : RPl} {pm c0 n' : Nat} {r0 r' : RgS} {H K : zAa} {F G F' G' : Nat → Prop} {mt mt' : MtS} (m0 : zA2 q H c0 r0 F) (g0 : MtH H pm q.p mt G) (s : MStep q pm H F G K n' r' F' mt' G') (v : AV) : ∃ H' F'' G'',trim H (some (v,K)) = some (v,H') ∧ MStep q pm H F G H' n' r' F'' mt' G'':=by
 rcases zJl H v K with ⟨t,e⟩ | e
 ·obtain ⟨A0,A1,m0,_,_⟩:=m0
  obtain ⟨m,c,fr,hF,hG,d⟩:=s
  obtain ⟨L0,L1,m,h1,h2⟩:=m
  have lt : ∀ b,q.fp L0 L1 b → b < H.length:=fun b hb=>by
   rcases hb with rfl | (rfl | rfl | hb) | (rfl | rfl | hb)
   ·exact zAk m0.blk
   ·exact zBj m0.k0.ptr
   ·exact zAk m0.k0.blk
   ·exact zPp t m0.k0.blk m0.k0.vs m.k0.blk hb
   ·exact zBj m0.k1.ptr
   ·exact zAk m0.k1.blk
   ·exact zPp t m0.k1.blk m0.k1.vs m.k1.blk hb
  have hl : (K.take H.length).length = H.length:=by rw [List.length_take]; have:=t.1; omega
  obtain ⟨_,_,_,_,g0⟩:=g0
  obtain ⟨a1,s1,vb,vh,c⟩:=c
  have pl:=g0.lt _ g0.gp
  have tb:=zPs t pl c.blk (a:=vb) (by simp [zA4]) g0.slb_lt
  have th:=zPs t pl c.blk (a:=vh) (by simp [zA4]) g0.slb_lt
  refine ⟨K.take H.length,fun b=>F' b ∧ b < H.length,fun b=>G' b ∧ b < H.length,e,⟨⟨L0,L1,⟨?_,?_,?_,m.e0,m.e1,m.dis,m.n0,m.n1⟩,fun b hb=>⟨h1 b hb,lt b hb⟩,fun b hb=>by rw [hl]; exact hb.2⟩,⟨a1,s1,vb,vh,?_⟩,?_,fun b hb=>hF b hb.1,fun b hb=>hG b hb.1,fun b hb h=>d b hb.1 h.1⟩⟩
  ·exact (zD7 (lt _ (.inl rfl))).trans m.blk
  ·exact m.k0.same fun b hb=>zD7 (lt b (.inr (.inl hb)))
  ·exact m.k1.same fun b hb=>zD7 (lt b (.inr (.inr hb)))
  ·exact ⟨(zD7 pl).trans c.blk,bs_same c.b fun b hb=>zD7 (tb b hb),c.lb,c.h.same fun b hb=>zD7 (th b hb),⟨c.gp,pl⟩,fun b hb=>⟨⟨(c.gb b hb).1,tb b hb⟩,(c.gb b hb).2⟩,fun b hb=>⟨⟨(c.gh b hb).1,th b hb⟩,(c.gh b hb).2⟩,fun b hb=>by rw [hl]; exact hb.2⟩
  ·exact ⟨by omega,fun b hb hn=>(zD7 hb).trans (fr.2 b hb hn)⟩
 ·exact ⟨K,F',G',e,s⟩
theorem zQl : ∀ (l m : List (List Int)) (i : Int),0 ≤ i → i + m.length ≤ 65536 → (∀ y ∈ m,B48 y) → ∀ x ∈ zIq i l m,ImOk x
 | [],_,_,_,_,_=>fun x hx=>by cases hx
 | _ :: _,[],_,_,_,_=>fun x hx=>by cases hx
 | a :: l,b :: m,i,h0,h1,h=>fun x hx=>by
  have hx : x ∈ (if b = a then [] else [(⟨i,b⟩ : ImS)]) ++ zIq (i + 1) l m:=hx
  simp only [List.length_cons] at h1
  rcases List.mem_append.1 hx with hx | hx
  ·split at hx
   ·cases hx
   ·rw [List.mem_singleton.1 hx]; exact ⟨h0,by show i ≤ 65535; omega,h b (by simp)⟩
  ·exact zQl l m (i + 1) (by omega) (by omega) (fun y hy=>h y (by simp [hy])) x hx
theorem zQk {was now : List Int} (hu : IsU8 now) (hn : now.length ≤ 100000) : (∀ x ∈ zFt was now,ImOk x) ∧ (zFt was now).length ≤ zCf now.length:=by
 refine ⟨zQl _ _ 0 (Int.le_refl 0) ?_ (zFu hu),by unfold zFt; rw [← zDr]; exact zN4 _ _ _⟩
 rw [zDr]; unfold zCf; omega
theorem roomC2 {H : zAa} {pm p : Nat} {m : MtS} {a0 s0 : Int} {vb vh : AV} (kp : cellsOf H pm = some (zA4 p m a0 s0 vb vh)) (ok : m.Ok) : (envL prog).call 11 [.ptr pm 0] H = some (.int .i64 m.room,H):=by
 have k4 : (zA4 p m a0 s0 vb vh)[4]? = some (.int .i64 m.g.r):=rfl
 have k14 : (zA4 p m a0 s0 vb vh)[14]? = some (.int .i64 m.used):=rfl
 have N:=m.g.nm ok.g; have hr:=N.hr; have hu:=ok.used; have hp:=N.hp
 have w : IntKind.i64.wrap (m.g.r - m.used) = m.room:=zAt (by omega) (by omega)
 generalize zA4 p m a0 s0 vb vh = MC at *
 rw [c11]
 unfold b11
 simp -implicitDefEqProofs (maxSteps:=5000000) only [go_sem,simprocAttr,itr,itq,kp,k4,k14,w]
end Go.Proofs.Ytbmmnfeeapnhkaa.G98
end
section
namespace Go.Proofs.Ytbmmnfeeapnhkaa.G98
open Go Go.Proofs.Ytbmmnfeeapnhkaa.Eng
theorem zWb {r : RgS} {f c a s : Int} {l : List ImS} (h : (zCn r f c a s l).2.2 = 0) : (zCn r f c a s l).2.1 = (a + (l.length : Int) + 1).tmod c ∧ (l.length : Int) ≤ c - 1:=by
 unfold zCn at h ⊢
 split at h
 ·rename_i h1
  rw [if_pos h1]
  split at h
  ·rename_i h2
   rw [if_pos h2]
   split at h
   ·rename_i h3
    rw [if_pos h3]
    split at h
    ·rename_i h4
     rw [if_pos h4]
     split at h
     ·rename_i h5
      rw [if_pos h5]
      split at h
      ·rename_i h6
       rw [if_pos h6]
       split at h
       ·rename_i h7
        rw [if_pos h7]
        exact ⟨rfl,h2.2⟩
       ·rename_i h7; exact absurd h h7
      ·rename_i h6; exact absurd h h6
     ·rename_i h5; exact absurd h h5
    ·rename_i h4; exact absurd h h4
   ·cases h
  ·cases h
 ·cases h
theorem zLq {r : RgS} {m : MtS} (o : m.Ok) {b : List Int} {l : List ImS} (hb : b.length = m.b.length) (hu : IsU8 b) (hl : m.used + (l.length : Int) + 1 ≤ 100000) : (zEd r m b l).2.1.Ok:=by
 unfold zEd
 split
 ·rename_i h
  obtain ⟨ht,_⟩:=zWb h
  have N:=m.g.nm o.g
  have hr:=N.hr; have hp:=N.hp; have t:=o.tail; have us:=o.used
  refine ⟨o.g,?_,hu,o.hl,o.hh,o.gen,o.place,?_,?_,?_⟩
  ·show (b.length : Int) = m.g.bytes
   rw [hb]; exact o.bl
  ·show 0 ≤ (zCn r 2 m.g.r m.tail m.next l).2.1 ∧ (zCn r 2 m.g.r m.tail m.next l).2.1 < m.g.r
   rw [ht]
   exact ⟨Int.tmod_nonneg _ (by omega),Int.tmod_lt_of_pos _ (by omega)⟩
  ·show 0 ≤ (m.next + 1) % 4294967296 ∧ (m.next + 1) % 4294967296 < 4294967296
   omega
  ·show 0 ≤ m.used + (l.length : Int) + 1 ∧ m.used + (l.length : Int) + 1 ≤ 100000
   omega
 ·exact o
theorem zR5 {r : RgS} {m : MtS} (o : m.Ok) {b : List Int} (hu : IsU8 b) : (zEc r m b).2.1.Ok:=by
 have N:=m.g.nm o.g
 have hr:=N.hr; have hp:=N.hp; have us:=o.used; have bl:=o.bl; have hy:=N.hy
 unfold zEc
 split
 ·rename_i hb
  have dl:=(zQk (was:=m.b) (now:=b) hu (by omega)).2
  unfold zCf at dl
  split
  ·exact o
  ·split
   ·split
    ·exact zLq o.carry hb hu (by show 0 + ((zFt m.b b).length : Int) + 1 ≤ 100000; omega)
    ·exact o
   ·rename_i h
    unfold MtS.room at h
    exact zLq o hb hu (by omega)
 ·exact o
section
variable {q : RPl} {pm n2 : Nat} {r2 : RgS} {H K2 : zAa} {F G F2 G2 : Nat → Prop} {mt2 : MtS} (s : MStep q pm H F G K2 n2 r2 F2 mt2 G2) (ok : mt2.Ok) (hn : n2 + 100 ≤ 1000000000) (pH : pm < H.length)
 {B : Nat} {v : AV} {D : List ImS} (g : GR 49 K2 B v (zBo D)) (gF : ∀ b,slb v = some b → ¬ F2 b) (hD : ∀ x ∈ D,ImOk x) (hl : D.length ≤ 50)
 {w : AV} {z : List Int} (bw : BS K2 w z) (lw : zEj w) (wF : ∀ b,slb w = some b → ¬ F2 b) (hz : z.length ≤ 1000)
include s ok hn pH g gF hD hl bw lw wF hz
set_option maxHeartbeats 4000000 in
theorem tailC : ∃ at2 seq2 vb vh M,M = zA4 q.p mt2 at2 seq2 vb vh ∧ cellsOf K2 pm = some M ∧ ∃ n3 K3 F3 G3 KE,n3 ≤ n2 + 60 ∧ MStep q pm H F G KE n3 (zEd r2 mt2 z D).1 F3 (zEd r2 mt2 z D).2.1 G3 ∧ cellsOf K3 pm = some M ∧
  (envL prog).call 42 [.ptr q.p 0,.int .i64 2,.int .i64 mt2.g.r,.int .i64 mt2.tail,.int .u32 mt2.next,v] K2 = some (.tup [.int .i64 (zCn r2 2 mt2.g.r mt2.tail mt2.next D).2.1,.int .i64 (zCn r2 2 mt2.g.r mt2.tail mt2.next D).2.2],K3) ∧ (zEd r2 mt2 z D).2.2 = (zCn r2 2 mt2.g.r mt2.tail mt2.next D).2.2 ∧
  (((zCn r2 2 mt2.g.r mt2.tail mt2.next D).2.2 ≠ 0 ∧ KE = K3) ∨ ((zCn r2 2 mt2.g.r mt2.tail mt2.next D).2.2 = 0 ∧ ∃ v' K4 C1 C2 C3,(envL prog).call 25 [w] K3 = some (v',K4) ∧ cellsOf K4 pm = some M ∧ zA3 v' = some [v'] ∧
   zAy K4 pm 9 [v'] = some (K4.set pm (.rw C1)) ∧ zAy (K4.set pm (.rw C1)) pm 12 [.int .i64 (zCn r2 2 mt2.g.r mt2.tail mt2.next D).2.1] = some (K4.set pm (.rw C2)) ∧ zAy (K4.set pm (.rw C2)) pm 13 [.int .u32 (IntKind.u32.wrap (mt2.next + 1))] = some (K4.set pm (.rw C3)) ∧ zAy (K4.set pm (.rw C3)) pm 14 [.int .i64 (mt2.used + (D.length : Int) + 1)] = some KE ∧
   (∀ C,cellsOf (K4.set pm (.rw C)) pm = some C) ∧ C1[13]? = M[13]? ∧ C1[14]? = M[14]? ∧ C2[13]? = M[13]? ∧ C2[14]? = M[14]? ∧ C3[14]? = M[14]?)):=by
 obtain ⟨m,⟨at2,seq2,vb,vh,mc⟩,fr,hF,hG,d⟩:=s
 have np : ¬ F2 pm:=d _ mc.gp
 have kp:=zAi mc.blk
 obtain ⟨n3,K3,F3,hn3,m3,st3,ea⟩:=appdC m (f:=2) (c:=mt2.g.r) (a:=mt2.tail) ok.next g gF (fun x hx=>(hD x hx).2.2) (by omega) (by omega)
 obtain ⟨M,hM⟩ : ∃ M,M = zA4 q.p mt2 at2 seq2 vb vh:=⟨_,rfl⟩
 refine ⟨at2,seq2,vb,vh,M,hM,by rw [hM]; exact kp,n3,K3,F3,?_⟩
 have kp3:=st3.1.cells kp np
 have b3:=st3.1.at mc.blk np
 have mc3:=mc.fr st3.1 d
 have fr3 : Fr H K3 (fun b=>F b ∨ b = pm):=fr.trans st3.1 fun b hb h=>(hF b h).elim .inl fun h=>by omega
 have L2:=fr.1
 have hF3 : ∀ b,F3 b → F b ∨ H.length ≤ b:=fun b hb=>(st3.2 b hb).elim (hF b) fun h=>.inr (by omega)
 have d3 : ∀ b,G2 b → ¬ F3 b:=fun b hb h=>(st3.2 b h).elim (d b hb) fun h=>by have:=mc.lt b hb; omega
 obtain ⟨A,hA⟩ : ∃ A,A = zCn r2 2 mt2.g.r mt2.tail mt2.next D:=⟨_,rfl⟩
 rw [← hA] at ea m3
 have eA : zEd r2 mt2 z D = if A.2.2 = 0 then (A.1,{ mt2 with b:=z,tail:=A.2.1,next:=IntKind.u32.wrap (mt2.next + 1),used:=mt2.used + (D.length : Int) + 1 },0) else (A.1,mt2,A.2.2):=by rw [hA]; rfl
 rw [eA,← hA]
 by_cases h0 : A.2.2 = 0
 rotate_left
 ·rw [if_neg h0]
  exact ⟨G2,K3,by omega,⟨m3,⟨at2,seq2,vb,vh,mc3⟩,fr3,hF3,hG,d3⟩,by rw [hM]; exact kp3,ea,rfl,.inl ⟨h0,rfl⟩⟩
 rw [if_pos h0]
 obtain ⟨v',X,o,ec⟩:=Bt.cloneC (bw.fr st3.1 wF) (by omega)
 have b4 : (K3 ++ X)[pm]? = some (.rw M):=by rw [hM,List.getElem?_append_left (zAk b3)]; exact b3
 obtain ⟨K4,hK4⟩ : ∃ K,K = K3 ++ X:=⟨_,rfl⟩
 have ob:=o.bs
 rw [← hK4] at ec b4 ob
 have lp4:=zAk b4
 have a34 : Adds K3 K4:=⟨X,hK4⟩
 have s2s : ∀ X Y : List AV,(K4.set pm (.rw X)).set pm (.rw Y) = K4.set pm (.rw Y):=fun X Y=>List.set_set ..
 have vo : ∀ b,slb v' = some b → K3.length ≤ b ∧ b < K4.length:=fun b hb=>by
  have l4 : K4.length = K3.length + X.length:=by rw [hK4,List.length_append]
  rcases o with ⟨_,⟨rfl,_⟩ | ⟨rfl,rfl⟩⟩ | ⟨_,rfl,rfl⟩
  ·cases hb
  ·injection hb with hb; subst hb
   simp only [List.length_cons,List.length_nil] at l4; omega
  ·injection hb with hb; subst hb
   simp only [List.length_cons,List.length_nil] at l4; omega
 have lv : zEj v':=fun b o' s' n' l' e' he=>by
  rcases o with ⟨_,⟨rfl,_⟩ | ⟨rfl,rfl⟩⟩ | ⟨_,rfl,rfl⟩
  ·cases he
  ·injection he; omega
  ·injection he; omega
 have vc:=ob.is.cells
 have vcell : v'.isCell = true:=by
  rcases ob with ⟨rfl,_⟩ | ⟨_,_,_,_,_,rfl,_⟩ <;> rfl
 obtain ⟨ME,hME⟩ : ∃ ME : MtS,ME = { mt2 with b:=z,tail:=A.2.1,next:=IntKind.u32.wrap (mt2.next + 1),used:=mt2.used + (D.length : Int) + 1 }:=⟨_,rfl⟩
 obtain ⟨C4,hC4⟩ : ∃ C,C = zA4 q.p ME at2 seq2 v' vh:=⟨_,rfl⟩
 have e4 : C4 = (((M.set 9 v').set 12 (.int .i64 A.2.1)).set 13 (.int .u32 (IntKind.u32.wrap (mt2.next + 1)))).set 14 (.int .i64 (mt2.used + (D.length : Int) + 1)):=by rw [hC4,hM,hME]; rfl
 have l15 : M.length = 15:=by rw [hM]; rfl
 have L3:=st3.1.1; have L4:=a34.len
 have fS : Fr K4 (K4.set pm (.rw C4)) (· = pm):=Fr.set _ _ rfl
 have nv : ∀ b,slb v' = some b → b ≠ pm:=fun b hb e=>by have:=vo b hb; have:=zAk b3; omega
 rw [← hME]
 have pS : ∀ C : List AV,cellsOf (K4.set pm (.rw C)) pm = some C:=fun C=>zAi (zA1 _ _ _ lp4)
 have w1 : zAy K4 pm 9 [v'] = some (K4.set pm (.rw (M.set 9 v'))):=by
  rw [zAs b4,if_pos ⟨by rw [l15]; show 9 + 1 ≤ 15; omega,by rw [List.all_cons,vcell]; rfl⟩,zAv]
 have w2 : zAy (K4.set pm (.rw (M.set 9 v'))) pm 12 [.int .i64 A.2.1] = some (K4.set pm (.rw ((M.set 9 v').set 12 (.int .i64 A.2.1)))):=by
  rw [zAs (zA1 _ _ _ lp4),if_pos ⟨by simp [l15],rfl⟩,zAv,s2s]
 have w3 : zAy (K4.set pm (.rw ((M.set 9 v').set 12 (.int .i64 A.2.1)))) pm 13 [.int .u32 (IntKind.u32.wrap (mt2.next + 1))] = some (K4.set pm (.rw (((M.set 9 v').set 12 (.int .i64 A.2.1)).set 13 (.int .u32 (IntKind.u32.wrap (mt2.next + 1)))))):=by
  rw [zAs (zA1 _ _ _ lp4),if_pos ⟨by simp [l15],rfl⟩,zAv,s2s]
 have w4 : zAy (K4.set pm (.rw (((M.set 9 v').set 12 (.int .i64 A.2.1)).set 13 (.int .u32 (IntKind.u32.wrap (mt2.next + 1)))))) pm 14 [.int .i64 (mt2.used + (D.length : Int) + 1)] = some (K4.set pm (.rw C4)):=by
  rw [zAs (zA1 _ _ _ lp4),if_pos ⟨by simp [l15],rfl⟩,zAv,s2s,e4]
 have m4 : zA2 q K4 n3 A.1 F3:=by rw [hK4]; exact m3.adds X
 refine ⟨fun b=>G2 b ∨ (K3.length ≤ b ∧ b < K4.length),K4.set pm (.rw C4),by omega,⟨m4.fr fS fun b hb e=>d3 pm mc.gp (e ▸ hb),⟨at2,seq2,v',vh,⟨?_,?_,lv,?_,.inl mc.gp,fun b hb=>⟨.inr (vo b hb),nv b hb⟩,fun b hb=>⟨.inl (mc.gh b hb).1,(mc.gh b hb).2⟩,?_⟩⟩,?_,hF3,?_,?_⟩,by rw [hM]; exact kp3,ea,h0.symm,.inr ⟨h0,v',K4,_,_,_,ec,zAi b4,vc,w1,w2,w3,w4,pS,?_,?_,?_,?_,?_⟩⟩
 ·rw [hC4]; exact zA1 _ _ _ lp4
 ·have : BS (K4.set pm (.rw C4)) v' z:=ob.fr fS nv
  rw [hME]; exact this
 ·have g3:=(mc3.h.frS (Fr.adds a34 (fun _=>False)) fun _ _ h=>h).frS fS fun b hb=>(mc.gh b hb).2
  rw [hME]; exact g3
 ·intro b hb
  rw [List.length_set]
  exact hb.elim (fun h=>by have:=mc3.lt b h; omega) fun h=>h.2
 ·exact (fr3.trans (Fr.adds a34 (fun _=>False)) fun _ _ h=>h.elim).trans (fS.mono fun b _ hb=>.inr hb) fun _ _ h=>h
 ·exact fun b hb=>hb.elim (hG b) fun h=>.inr (by omega)
 ·exact fun b hb h=>hb.elim (fun hb=>d3 b hb h) fun hb=>by have:=m3.lt b h; omega
 all_goals simp [List.getElem?_set,l15]
end
end Go.Proofs.Ytbmmnfeeapnhkaa.G98
end
section
namespace Go.Proofs.Ytbmmnfeeapnhkaa.G98
open Go Go.Proofs.Ytbmmnfeeapnhkaa.Eng
theorem bs_lt {H : zAa} {v : AV} {z : List Int} (b : BS H v z) {x : Nat} (hx : slb v = some x) : x < H.length:=by
 rcases b with ⟨rfl,_⟩ | ⟨b,o,l,e,cs,rfl,hc,_⟩
 ·cases hx
 ·injection hx with hx; subst hx; exact zBj hc
theorem zVq {w : AV} (H : zAa) : (envL prog).call 9 [.nilPtr,w] H = some (.int .i64 1,H):=by
 rw [c9]
 unfold b9
 simp -implicitDefEqProofs (maxSteps:=5000000) only [go_sem,simprocAttr,itr,itq]
section
variable {q : RPl} {H : zAa} {n : Nat} {r : RgS} {F : Nat → Prop} (m : zA2 q H n r F) {mt : MtS} (ok : mt.Ok) {pm : Nat} {G : Nat → Prop} (c : MtH H pm q.p mt G) (d : ∀ b,G b → ¬ F b) (hn : n + 300 ≤ 1000000000)
 {w : AV} {z : List Int} (bw : BS H w z) (lw : zEj w) (uz : IsU8 z) (wF : ∀ b,slb w = some b → ¬ F b ∧ b ≠ pm)
include m ok c d hn bw lw uz wF
set_option maxHeartbeats 16000000 in
theorem zVr : ∃ n' H' F' G',n' ≤ n + 100 ∧ MStep q pm H F G H' n' (zEc r mt z).1 F' (zEc r mt z).2.1 G' ∧ (envL prog).call 9 [.ptr pm 0,w] H = some (.int .i64 (zEc r mt z).2.2,H'):=by
 obtain ⟨at0,seq0,vb,vh,mc⟩:=id c
 have N:=mt.g.nm ok.g
 have Ny:=N.hy; have Np:=N.hp; have Nc:=N.hc; have Nr:=N.hr
 have bl:=ok.bl; have us:=ok.used
 have pl:=mc.lt _ mc.gp
 have s0 : ∀ K,Adds H K → MStep q pm H F G K n r F mt G:=fun K a=>by
  obtain ⟨X,rfl⟩:=a
  exact ⟨m.adds X,c.adds X,(Fr.adds ⟨X,rfl⟩ _),fun _ h=>.inl h,fun _ h=>.inl h,d⟩
 obtain ⟨M,hM⟩ : ∃ M,M = zA4 q.p mt at0 seq0 vb vh:=⟨_,rfl⟩
 have k9 : M[9]? = some vb:=by rw [hM]; rfl
 have kp : cellsOf H pm = some M:=by rw [hM]; exact zAi mc.blk
 have lb:=mc.b.len
 have lz:=bw.len
 have wc:=bw.is.cells
 by_cases hl : z.length = mt.b.length
 rotate_left
 ·have eC : zEc r mt z = (r,mt,1):=by unfold zEc; rw [if_neg hl]
  rw [eC]
  have ne : ((z.length : Int) != (mt.b.length : Int)) = true:=by rw [bne_iff_ne]; omega
  refine ⟨n,H,F,G,by omega,s0 H (Adds.refl H),?_⟩
  rw [c9]
  unfold b9
  simp -implicitDefEqProofs (maxSteps:=5000000) only [go_sem,simprocAttr,itr,itq,kp,k9,lb,lz,ne]
 have ne : ((z.length : Int) != (mt.b.length : Int)) = false:=by rw [hl]; simp
 have ed:=differC pm wc H
 obtain ⟨K0,hK0⟩ : ∃ K : zAa,K = H ++ [.rw [.ptr pm 0],.rw [w]]:=⟨_,rfl⟩
 rw [← hK0] at ed
 have a0 : Adds H K0:=⟨_,hK0⟩
 have K0l : K0.length = H.length + 2:=by rw [hK0]; simp
 obtain ⟨v,K1,ec,a1,g1⟩:=collectD (H:=K0) (a0.bs mc.b) mc.lb ok.bu (a0.bs bw) lw uz (by omega) hl (pm:=pm) (c1:=H.length) (c2:=H.length + 1) (MC:=M) (by rw [hK0]; unfold cellsOf; simp) (a0.cells kp) k9 (by rw [hK0]; unfold cellsOf; simp)
 have a01:=a0.trans a1
 obtain ⟨D,hD⟩ : ∃ D,D = zFt mt.b z:=⟨_,rfl⟩
 rw [← hD] at g1
 obtain ⟨dok,dlen⟩:=zQk (was:=mt.b) (now:=z) uz (by omega)
 rw [← hD] at dok dlen
 unfold zCf at dlen
 have ll : lenSl v = some (.int .i64 (D.length : Int)):=by have:=g1.len; rw [show (zBo D).length = D.length by simp [zBo]] at this; exact this
 have kp1:=a01.cells kp
 have eC : zEc r mt z = if D = [] then (r,mt,0) else if (D.length : Int) + 1 > mt.room then (if (opsS r (zBb mt)).2 = 0 then zEd (opsS r (zBb mt)).1 (zE4 mt) z D else ((opsS r (zBb mt)).1,mt,(opsS r (zBb mt)).2)) else zEd r mt z D:=by
  unfold zEc
  rw [if_pos hl,hD]
 by_cases h0 : D = []
 ·rw [eC,if_pos h0]
  have e0 : ((D.length : Int) == 0) = true:=by rw [h0]; rfl
  have et : trim H (some (AV.int .i64 0,K1)) = some (.int .i64 0,H):=a01.trimS rfl
  refine ⟨n,H,F,G,by omega,s0 H (Adds.refl H),?_⟩
  rw [c9]
  unfold b9
  simp -implicitDefEqProofs (maxSteps:=5000000) only [go_sem,simprocAttr,itr,itq,kp,k9,lb,lz,ne,ed,ec,ll,e0,et]
 rw [eC,if_neg h0]
 have dp : 0 < D.length:=List.length_pos_iff.2 h0
 have e0 : ((D.length : Int) == 0) = false:=by simpa using h0
 have wd : IntKind.i64.wrap ((D.length : Int) + 1) = (D.length : Int) + 1:=zAt (by omega) (by omega)
 have er : (envL prog).call 11 [.ptr pm 0] K1 = some (.int .i64 mt.room,K1):=roomC2 (by rw [hM] at kp1; exact kp1) ok
 have ring : ∀ (K : zAa),(envL prog).call 19 [.agg mt.g.cells] K = some (.int .i64 2,K):=fun K=>ringP ok.g K
 have s1:=s0 K1 a01
 have gF : ∀ b,slb v = some b → ¬ F b:=fun b hb h=>by have:=g1.out b hb; have:=m.lt b h; omega
 have gpm : ∀ b,slb v = some b → b ≠ pm:=fun b hb e=>by have:=g1.out b hb; omega
 have mz : ∀ (a s : Int) (vb vh : AV) (mt : MtS),(zA4 q.p mt a s vb vh)[4]? = some (.int .i64 mt.g.r) ∧ (zA4 q.p mt a s vb vh)[8]? = some (.ptr q.p 0) ∧ (zA4 q.p mt a s vb vh)[12]? = some (.int .i64 mt.tail) ∧ (zA4 q.p mt a s vb vh)[13]? = some (.int .u32 mt.next) ∧ (zA4 q.p mt a s vb vh)[14]? = some (.int .i64 mt.used) ∧ (zA4 q.p mt a s vb vh).take 5 = mt.g.cells ∧ (zA4 q.p mt a s vb vh).length = 15:=fun a s vb vh mt=>⟨rfl,rfl,rfl,rfl,rfl,rfl,rfl⟩
 have gcl : mt.g.cells.length = 5:=rfl
 have gct : mt.g.cells.take 5 = mt.g.cells:=rfl
 by_cases hr : (D.length : Int) + 1 > mt.room
 ·have e1 : decide ((D.length : Int) + 1 > mt.room) = true:=decide_eq_true hr
  rw [if_pos hr]
  obtain ⟨n2,K2,F2,hn2,m2,hc2,eca⟩:=carryC s1.m ok s1.c d (by omega)
  rcases hc2 with ⟨hz,st2,G2,mc2,hG2,d2⟩ | ⟨hz,st2⟩
  ·rw [if_pos hz]
   rw [hz] at eca
   have s2 : MStep q pm H F G K2 n2 (opsS r (zBb mt)).1 F2 (zE4 mt) G2:=⟨m2,mc2,s1.fr.trans st2.1 fun _ _ h=>h,fun b hb=>(st2.2 b hb).elim (fun h=>h.elim .inl fun h=>by obtain ⟨_,_,_,_,x⟩:=mc2; exact absurd (h ▸ hb) (d2 pm x.gp)) fun h=>.inr (by have:=a01.len; omega),fun b hb=>(hG2 b hb).elim .inl fun h=>.inr (by have:=a01.len; omega),d2⟩
   obtain ⟨at2,seq2,vb2,vh2,M2,hM2,kp2,n3,K3,F3,G3,KE,hn3,s3,kp3,ea,eA,htl⟩:=tailC s2 ok.carry (by omega) pl ((g1.low (Nat.zero_le _)).frS st2.1 fun b hb h=>h.elim (gF b hb) (gpm b hb)) (fun b hb h=>(st2.2 b h).elim (fun h=>h.elim (gF b hb) (gpm b hb)) fun h=>by have:=(g1.out b hb).2; omega) dok (by omega) ((a01.bs bw).fr st2.1 fun b hb h=>h.elim (wF b hb).1 (wF b hb).2) lw (fun b hb h=>(st2.2 b h).elim (fun h=>h.elim (wF b hb).1 (wF b hb).2) fun h=>by have:=bs_lt bw hb; have:=a01.len; omega) (by omega)
   obtain ⟨H',F4,G4,et,s4⟩:=MStep.trim m c s3 (.int .i64 (zEd (opsS r (zBb mt)).1 (zE4 mt) z D).2.2)
   refine ⟨n3,H',F4,G4,by omega,s4,?_⟩
   obtain ⟨z4,z8,z12,z13,z14,zg,zl⟩:=mz at2 seq2 vb2 vh2 (zE4 mt)
   rw [← hM2] at z4 z8 z12 z13 z14 zg zl
   have zg : M2.take 5 = mt.g.cells:=zg
   have ring2:=ring K2
   rw [eA] at et ⊢
   clear hM hM2
   generalize mt.g.cells = GC at *
   obtain ⟨A,hA⟩ : ∃ A,A = zCn (opsS r (zBb mt)).1 2 (zE4 mt).g.r (zE4 mt).tail (zE4 mt).next D:=⟨_,rfl⟩
   rw [← hA] at ea et htl ⊢
   rcases htl with ⟨hb,rfl⟩ | ⟨hb,v',K4,C1,C2,C3,ecl,kp4,vc,w1,w2,w3,w4,pS,x1,x2,x3,x4,x5⟩
   ·have nb : (A.2.2 != 0) = true:=by simpa using hb
    rw [c9]
    unfold b9
    simp -implicitDefEqProofs (maxSteps:=5000000) only [go_sem,simprocAttr,itr,itq,kp,k9,lb,lz,ne,ed,ec,ll,e0,wd,er,e1,eca,kp2,z4,z8,z12,z13,zg,zl,gcl,gct,ring2,ea,nb,kp3,et]
   ·rw [hb] at et ea ⊢
    have u0 : (zE4 mt).used = 0:=rfl
    rw [u0] at w4 z14
    have wa1 : IntKind.i64.wrap (0 + (D.length : Int)) = 0 + (D.length : Int):=zAt (by omega) (by omega)
    have wa2 : IntKind.i64.wrap (0 + (D.length : Int) + 1) = 0 + (D.length : Int) + 1:=zAt (by omega) (by omega)
    rw [z13] at x1 x3
    rw [z14] at x2 x4 x5
    rw [c9]
    unfold b9
    simp -implicitDefEqProofs (maxSteps:=5000000) only [go_sem,simprocAttr,itr,itq,kp,k9,lb,lz,ne,ed,ec,ll,e0,wd,er,e1,eca,kp2,z4,z8,z12,z13,z14,zg,zl,gcl,gct,ring2,ea,kp3,ecl,kp4,zAu,vc,w1,w2,w3,w4,pS,x1,x2,x3,x4,x5,wa1,wa2,et]
  ·rw [if_neg hz]
   have s2 : MStep q pm H F G K2 n2 (opsS r (zBb mt)).1 F2 mt G:=⟨m2,s1.c.fr st2.1 d,s1.fr.trans st2.1 fun _ _ h=>.inl h,fun b hb=>(st2.2 b hb).imp id fun h=>by have:=a01.len; omega,fun b hb=>.inl hb,fun b hb h=>(st2.2 b h).elim (d b hb) fun h=>by have:=mc.lt b hb; have:=a01.len; omega⟩
   obtain ⟨H',F4,G4,et,s4⟩:=MStep.trim m c s2 (.int .i64 (opsS r (zBb mt)).2)
   refine ⟨n2,H',F4,G4,by omega,s4,?_⟩
   have nb : ((opsS r (zBb mt)).2 != 0) = true:=by simpa using hz
   rw [c9]
   unfold b9
   simp -implicitDefEqProofs (maxSteps:=5000000) only [go_sem,simprocAttr,itr,itq,kp,k9,lb,lz,ne,ed,ec,ll,e0,wd,er,e1,eca,nb,et]
 ·have e1 : decide ((D.length : Int) + 1 > mt.room) = false:=decide_eq_false hr
  rw [if_neg hr]
  obtain ⟨at2,seq2,vb2,vh2,M2,hM2,kp2,n3,K3,F3,G3,KE,hn3,s3,kp3,ea,eA,htl⟩:=tailC s1 ok (by omega) pl (g1.low (Nat.zero_le _)) gF dok (by omega) (a01.bs bw) lw (fun b hb=>(wF b hb).1) (by omega)
  obtain ⟨H',F4,G4,et,s4⟩:=MStep.trim m c s3 (.int .i64 (zEd r mt z D).2.2)
  refine ⟨n3,H',F4,G4,by omega,s4,?_⟩
  obtain ⟨z4,z8,z12,z13,z14,zg,zl⟩:=mz at2 seq2 vb2 vh2 mt
  rw [← hM2] at z4 z8 z12 z13 z14 zg zl
  have zg : M2.take 5 = mt.g.cells:=zg
  have ring2:=ring K1
  rw [eA] at et ⊢
  clear hM hM2
  generalize mt.g.cells = GC at *
  obtain ⟨A,hA⟩ : ∃ A,A = zCn r 2 mt.g.r mt.tail mt.next D:=⟨_,rfl⟩
  rw [← hA] at ea et htl ⊢
  rcases htl with ⟨hb,rfl⟩ | ⟨hb,v',K4,C1,C2,C3,ecl,kp4,vc,w1,w2,w3,w4,pS,x1,x2,x3,x4,x5⟩
  ·have nb : (A.2.2 != 0) = true:=by simpa using hb
   rw [c9]
   unfold b9
   simp -implicitDefEqProofs (maxSteps:=5000000) only [go_sem,simprocAttr,itr,itq,kp,k9,lb,lz,ne,ed,ec,ll,e0,wd,er,e1,kp2,z4,z8,z12,z13,zg,zl,gcl,gct,ring2,ea,nb,kp3,et]
  ·rw [hb] at et ea ⊢
   have wa1 : IntKind.i64.wrap (mt.used + (D.length : Int)) = mt.used + (D.length : Int):=zAt (by omega) (by omega)
   have wa2 : IntKind.i64.wrap (mt.used + (D.length : Int) + 1) = mt.used + (D.length : Int) + 1:=zAt (by omega) (by omega)
   rw [z13] at x1 x3
   rw [z14] at x2 x4 x5
   rw [c9]
   unfold b9
   simp -implicitDefEqProofs (maxSteps:=5000000) only [go_sem,simprocAttr,itr,itq,kp,k9,lb,lz,ne,ed,ec,ll,e0,wd,er,e1,kp2,z4,z8,z12,z13,z14,zg,zl,gcl,gct,ring2,ea,kp3,ecl,kp4,zAu,vc,w1,w2,w3,w4,pS,x1,x2,x3,x4,x5,wa1,wa2,et]
end
end Go.Proofs.Ytbmmnfeeapnhkaa.G98
end
section
namespace Go.Proofs.Ytbmmnfeeapnhkaa.G98
open Go Go.Proofs.Ytbmmnfeeapnhkaa.Eng
def wG : GmS:=⟨8,2,2,4,12⟩
def wB : List Int:=List.replicate 126 0
def wC : List Int:=wB.set 50 7
def wR : RgS:=(opsS (zHd 30 20) (zCm wG wB)).1
def wS : RgS × MtS × Int:=zEc wR (zFp wG wB) wC
def wO : Option MtS × Int:=zE9 (wS.1.crash [] [])
theorem w1 : mayS (zHd 30 20) wG wB = true ∧ (opsS (zHd 30 20) (zCm wG wB)).2 = 0:=by decide +kernel
theorem w2 : wS.2.2 = 0 ∧ wS.2.1.room = 10:=by decide +kernel
theorem w3 : wO.2 = 0 ∧ wO.1.map (fun m=>(m.b,m.g,m.room)) = some (wC,wG,10):=by decide +kernel
end Go.Proofs.Ytbmmnfeeapnhkaa.G98
end
section
namespace Go.Proofs.Ytbmmnfeeapnhkaa.G98
open Go Go.Proofs.Ytbmmnfeeapnhkaa.Eng
theorem nilBytes (H : zAa) : (envL prog).call 10 [.nilPtr] H = some (.nilSl,H):=by
 rw [c10]
 unfold b10
 simp -implicitDefEqProofs (maxSteps:=5000000) only [go_sem,simprocAttr,itr,itq]
theorem nilRoom (H : zAa) : (envL prog).call 11 [.nilPtr] H = some (.int .i64 0,H):=by
 rw [c11]
 unfold b11
 simp -implicitDefEqProofs (maxSteps:=5000000) only [go_sem,simprocAttr,itr,itq]
theorem nilGeom (H : zAa) : (envL prog).call 12 [.nilPtr] H = some (.agg (⟨0,0,0,0,0⟩ : GmS).cells,H):=by
 rw [c12]
 unfold b12 GmS.cells
 simp -implicitDefEqProofs (maxSteps:=5000000) only [go_sem,simprocAttr,itr,itq]
section
variable {H : zAa} {pm p : Nat} {mt : MtS} {G : Nat → Prop} (c : MtH H pm p mt G) (ok : mt.Ok)
include c ok
theorem MtH.room : (envL prog).call 11 [.ptr pm 0] H = some (.int .i64 mt.room,H):=by
 obtain ⟨a,s,vb,vh,c⟩:=c
 exact roomC2 (zAi c.blk) ok
theorem MtH.geom : (envL prog).call 12 [.ptr pm 0] H = some (.agg mt.g.cells,H):=by
 obtain ⟨a,s,vb,vh,c⟩:=c
 have kp:=zAi c.blk
 have kg : (zA4 p mt a s vb vh).take 5 = mt.g.cells:=rfl
 have kl : 5 ≤ (zA4 p mt a s vb vh).length:=by show 5 ≤ 15; omega
 have gl : mt.g.cells.length = 5:=rfl
 have gt : mt.g.cells.take 5 = mt.g.cells:=rfl
 have ga : mt.g.cells.all AV.isCell = true:=rfl
 have sp : zBl [AV.int .i64 0,.int .i64 0,.int .i64 0,.int .i64 0,.int .i64 0] 0 mt.g.cells = mt.g.cells:=by rw [zAq _ _ _ (by rw [gl]; omega),gl]; simp
 have kp':=fun X : zAa=>zAz (x:=X) kp
 have tr : trim H (some (AV.agg mt.g.cells,H ++ [ABlk.rw mt.g.cells])) = some (.agg mt.g.cells,H):=Adds.trimS ⟨[ABlk.rw mt.g.cells],rfl⟩ rfl
 generalize zA4 p mt a s vb vh = MC at *
 generalize mt.g.cells = GC at *
 rw [c12]
 unfold b12
 simp -implicitDefEqProofs (maxSteps:=5000000) only [go_sem,simprocAttr,itr,itq,kp',kg,kl,gl,gt,ga,sp,tr]
theorem MtH.bytes : ∃ v X,Bt.Own H v X mt.b ∧ (envL prog).call 10 [.ptr pm 0] H = some (v,H ++ X):=by
 obtain ⟨a,s,vb,vh,c⟩:=c
 have kp:=zAi c.blk
 have k9 : (zA4 p mt a s vb vh)[9]? = some vb:=rfl
 have N:=mt.g.nm ok.g; have Ny:=N.hy; have bl:=ok.bl
 obtain ⟨v,X,o,ec⟩:=Bt.cloneC c.b (by omega)
 refine ⟨v,X,o,?_⟩
 have tr : trim H (some (v,H ++ X)) = some (v,H ++ X):=by
  rcases o with ⟨_,⟨rfl,rfl⟩ | ⟨rfl,rfl⟩⟩ | ⟨_,rfl,rfl⟩
  ·rw [List.append_nil]; exact zB2 rfl
  ·exact zA7 (by simp [AV.under])
  ·exact zA7 (by simp [AV.under])
 generalize zA4 p mt a s vb vh = MC at *
 rw [c10]
 unfold b10
 simp -implicitDefEqProofs (maxSteps:=5000000) only [go_sem,simprocAttr,itr,itq,kp,k9,ec,tr]
end
theorem eqG (g g' : GmS) : binV .eql (.flat 5) (.agg g.cells) (.agg g'.cells) = some (.bool (decide (g = g'))):=by
 obtain ⟨b,s,w,a,r⟩:=g
 obtain ⟨b',s',w',a',r'⟩:=g'
 have e : (decide (⟨b,s,w,a,r⟩ = (⟨b',s',w',a',r'⟩ : GmS))) = (decide (b = b') && (decide (s = s') && (decide (w = w') && (decide (a = a') && decide (r = r'))))):=by
  rw [Bool.eq_iff_iff]
  simp
 rw [e]
 simp [binV,eqV,GmS.cells,zEb,zLg]
 rfl
end Go.Proofs.Ytbmmnfeeapnhkaa.G98
end
section
namespace Go.Proofs.Ytbmmnfeeapnhkaa.G98
open Go Go.Proofs.Ytbmmnfeeapnhkaa.Eng
theorem smallC (h : zAa) : (envL prog).call 14 [] h = some (.agg wG.cells,h):=by
 rw [c14]
 unfold b14 wG GmS.cells
 simp -implicitDefEqProofs (maxSteps:=5000000) only [go_sem,simprocAttr,itr,itq]
theorem makeB {n : Nat} (hn : n ≤ 100000) (h : zAa) : zCs (ty 1 false 1 [.int .u8 0]) (.int .i64 n) (.int .i64 n) h = some (.sl h.length 0 1 n n true,h ++ [.rw (u8s (List.replicate n 0))]):=by
 have e:=zJ4 1 1 n false [.int .u8 0] (by omega) (by omega) (by unfold roomy; omega) h
 have q : (List.replicate n [AV.int .u8 0]).flatten = u8s (List.replicate n 0):=by
  unfold u8s
  induction n with
  | zero=>rfl
  | succ n ih=>rw [List.replicate_succ,List.flatten_cons,ih (by omega) (zJ4 1 1 n false [.int .u8 0] (by omega) (by omega) (by unfold roomy; omega) h)]; rfl
 rw [← q]; exact e
theorem zSt (f : Nat) (args : List AV) (h : zAa) : (envX prog Over.none).call f args h = (envL prog).call f args h:=rfl
theorem zRt {r : RgS} {g : GmS} {b : List Int} (h : mayS r g b = true) (hu : IsU8 b) : (zFp g b).Ok:=by
 unfold mayS at h
 simp only [Bool.and_eq_true,decide_eq_true_eq] at h
 obtain ⟨⟨hg,_⟩,hb⟩:=h
 have N:=g.nm hg
 have hc:=N.hc; have hr:=N.hr; have hp:=N.hp
 refine ⟨hg,hb,hu,?_,zFu hu,⟨by show (0 : Int) ≤ 1; omega,by show (1 : Int) < _; omega⟩,.inl rfl,⟨Int.le_refl 0,by show (0 : Int) < g.r; omega⟩,⟨by show (0 : Int) ≤ 1; omega,by show (1 : Int) < _; omega⟩,⟨Int.le_refl 0,by show (0 : Int) ≤ 100000; omega⟩⟩
 show ((cutS b).length : Int) = g.pages
 rw [zDr]; unfold zCf; omega
set_option maxHeartbeats 32000000 in
theorem wakesC : ∃ h1,zCb prog (envX prog Over.none) 5 [] [] = some (.bool true,h1):=by
 obtain ⟨H0,hH0⟩ : ∃ H : zAa,H = [ABlk.rw wG.cells]:=⟨_,rfl⟩
 have l0 : H0.length = 1:=by rw [hH0]; rfl
 have k0 : cellsOf H0 0 = some wG.cells:=by rw [hH0]; rfl
 obtain ⟨H1,F1,li,en⟩:=rinNew (n0:=30) (n1:=20) (by omega) (by omega) (by omega) (by omega) H0
 rw [show ((30 : Nat) : Int) = 30 from rfl,show ((20 : Nat) : Int) = 20 from rfl] at en
 obtain ⟨q,hq,m1⟩:=li.m.at
 have a1:=li.old
 have l1:=a1.len
 have o1 : ∀ b,F1 b → 1 ≤ b:=fun b hb=>by have:=li.out b hb; omega
 obtain ⟨H2,hH2⟩ : ∃ H : zAa,H = H1 ++ [.rw (u8s wB)]:=⟨_,rfl⟩
 have m2 : zA2 q H2 0 (zHd 30 20) F1:=by rw [hH2]; exact m1.adds _
 have b2 : H2[H1.length]? = some (.rw (u8s wB)):=by rw [hH2]; simp
 have bs2 : ∀ e,BS H2 (.sl H1.length 0 1 126 126 e) wB:=fun e=>BS.block (zs:=wB) b2
 have nb1 : ¬ F1 H1.length:=fun h=>by have:=m1.lt _ h; omega
 obtain ⟨n3,H3,F3,hn3,m3,st3,hf⟩:=zRu m2 (g:=wG) (bs2 true) (fun b o s n l e he=>by injection he; omega) (by unfold IsU8; decide) (by decide) (by omega) (fun b hb=>by injection hb with hb; rw [← hb]; exact nb1) w1.1
 rcases hf with ⟨_,pm,G3,c3,d3,ef⟩ | ⟨h,_⟩
 rotate_left
 ·exact absurd w1.2 h
 have ef : (envL prog).call 8 [.ptr q.p 0,.agg wG.cells,.sl H1.length 0 1 126 126 true] H2 = some (.tup [.ptr pm 0,.int .i64 0],H3):=ef
 have k3:=st3.1.cells (show cellsOf H2 0 = some wG.cells by rw [hH2]; exact zAz (a1.cells k0)) (fun h=>by have:=o1 _ h; omega)
 have b3 : H3[H1.length]? = some (.rw (u8s wB)):=st3.1.at b2 nb1
 have l2 : H2.length = H1.length + 1:=by rw [hH2]; simp
 obtain ⟨H4,hH4⟩ : ∃ H : zAa,H = H3.set H1.length (.rw (u8s wC)):=⟨_,rfl⟩
 have w4 : zAy H3 H1.length 50 [.int .u8 7] = some H4:=by
  rw [zAs b3,if_pos ⟨by rw [zAd]; decide,rfl⟩,zAv,hH4]; rfl
 have f4 : Fr H3 H4 (· = H1.length):=by rw [hH4]; exact Fr.set _ _ rfl
 have L4 : H4.length = H3.length:=by rw [hH4]; simp
 have L23:=st3.1.1
 have m4 : zA2 q H4 n3 wR F3:=m3.fr f4 fun b hb e=>by
  rcases st3.2 b hb with h | h
  ·exact nb1 (e ▸ h)
  ·omega
 have c4 : MtH H4 pm q.p (zFp wG wB) G3:=c3.fr f4 fun b hb e=>by have:=(d3 b hb).1; omega
 have ok4 : (zFp wG wB).Ok:=zRt w1.1 (by unfold IsU8; decide)
 have k4 : cellsOf H4 0 = some wG.cells:=f4.cells k3 (by omega)
 have b4 : H4[H1.length]? = some (.rw (u8s wC)):=by rw [hH4]; exact zA1 _ _ _ (zAk b3)
 have pmG : ∀ {H : zAa} {mt : MtS} {G : Nat → Prop},MtH H pm q.p mt G → G pm:=fun c=>by obtain ⟨_,_,_,_,c⟩:=c; exact c.gp
 have pm2:=(d3 pm (pmG c4)).1
 obtain ⟨n5,H5,F5,G5,hn5,s5,ec⟩:=zVr m4 ok4 c4 (fun b hb=>(d3 b hb).2) (by omega) (BS.block (l:=126) (e:=true) b4) (fun b o s n l e he=>by injection he; have : wC.length = 126:=rfl; omega) (by unfold IsU8; decide) (fun b hb=>by
  injection hb with hb; subst hb
  refine ⟨fun h=>?_,by omega⟩
  rcases st3.2 _ h with h | h
  ·exact nb1 h
  ·omega)
 have ec : (envL prog).call 9 [.ptr pm 0,.sl H1.length 0 1 126 126 true] H4 = some (.int .i64 0,H5):=by rw [← w2.1]; exact ec
 have c5 : MtH H5 pm q.p wS.2.1 G5:=s5.c
 have m5 : zA2 q H5 n5 wS.1 F5:=s5.m
 have ok5 : wS.2.1.Ok:=zR5 ok4 (by unfold IsU8; decide)
 have er4:=c4.room ok4
 have er5:=c5.room ok5
 rw [show (zFp wG wB).room = 12 from rfl] at er4
 rw [w2.2] at er5
 have n00 : ¬ F3 0:=fun h=>by
  rcases st3.2 _ h with h | h
  ·have:=o1 _ h; omega
  ·omega
 have k5:=s5.fr.cells k4 (fun h=>h.elim n00 fun h=>by omega)
 have L45:=s5.fr.1
 have u0 : IsU8 []:=fun z hz=>by cases hz
 obtain ⟨H6,m6,st6,L6,ek⟩:=atCrash m5 (BS.nil _) (BS.nil _) u0 u0 (fun b o s n l e h=>by cases h) (fun b o s n l e h=>by cases h) (fun b hb=>by cases hb) (fun b hb=>by cases hb)
 have c6:=c5.fr st6.1 s5.d
 have n05 : ¬ F5 0:=fun h=>by
  rcases s5.hF _ h with h | h
  ·exact n00 h
  ·omega
 have k6:=st6.1.cells k5 n05
 rcases openC m6 with ⟨mm,pn,G7,H7,eO,a7,c7,d7,eo⟩ | ⟨h,_⟩
 rotate_left
 ·exfalso
  have:=w3.2
  rw [show wO = zE9 (wS.1.crash [] []) from rfl,h] at this
  cases this
 have hmm : mm.b = wC ∧ mm.g = wG ∧ mm.room = 10:=by
  have:=w3.2
  rw [show wO = zE9 (wS.1.crash [] []) from rfl,eO] at this
  simpa using this
 have ok7 : mm.Ok:=(openS_ok (fun i=>zSm m6 0 i) (by rw [eO])).1
 have k7:=a7.cells k6
 obtain ⟨v1,X1,o1',eb1⟩:=c7.bytes ok7
 have c8:=c7.adds X1
 obtain ⟨v2,X2,o2',eb2⟩:=c8.bytes ok7
 obtain ⟨H9,hH9⟩ : ∃ H : zAa,H = (H7 ++ X1) ++ X2:=⟨_,rfl⟩
 rw [← hH9] at eb2
 have k8 : cellsOf (H7 ++ X1) 0 = some wG.cells:=zAz k7
 have k9 : cellsOf H9 0 = some wG.cells:=by rw [hH9]; exact zAz k8
 have c9 : MtH H9 pn q.p mm G7:=by rw [hH9]; exact c8.adds X2
 have eg:=c9.geom ok7
 have er9:=c9.room ok7
 have l1' : lenSl v1 = some (.int .i64 126):=by have:=o1'.bs.len; rw [hmm.1] at this; exact this
 have b9:=o2'.bs
 rw [hmm.1,← hH9] at b9
 obtain ⟨v2b,v2o,rfl⟩ : ∃ b o,v2 = .sl b o 1 126 126 false:=by
  rcases o2' with ⟨h,_⟩ | ⟨_,h,_⟩
  ·rw [hmm.1] at h; cases h
  ·rw [hmm.1] at h; exact ⟨_,_,h⟩
 obtain ⟨ad,ix,ld⟩:=b9.idx (show wC[50]? = some 7 from rfl) .i64
 have ix : zB1 1 (AV.sl v2b v2o 1 126 126 false) (.int .i64 50) = some ad:=ix
 have ix0 : zB1 1 (AV.sl H1.length 0 1 126 126 true) (.int .i64 50) = some (.ptr H1.length 50):=by simp [zB1,asI]
 rw [hmm.2.1] at eg
 rw [hmm.2.2] at er9
 have eq:=eqG wG wG
 rw [decide_eq_true rfl] at eq
 have a69 : Adds H6 H9:=a7.trans ⟨X1 ++ X2,by rw [hH9,List.append_assoc]⟩
 have m9 : zA2 q H9 n5 (wS.1.crash [] []) F5:=by obtain ⟨X,rfl⟩:=a69; exact m6.adds X
 have c9' : MtH H9 pm q.p wS.2.1 G5:=by obtain ⟨X,rfl⟩:=a69; exact c6.adds X
 obtain ⟨n10,H10,F10,Go.Proofs.Ytbmmnfeeapnhkaa.G10,hn10,s10,ec10⟩:=zVr m9 ok5 c9' s5.d (by omega) (BS.nil _) (fun b o s n l e he=>by cases he) u0 (fun b hb=>by cases hb)
 have e10 : (zEc (wS.1.crash [] []) wS.2.1 []).2.2 = 1:=by
  have h : wS.2.1.b.length = 126:=by decide +kernel
  unfold zEc
  rw [if_neg (by rw [h]; decide)]
 rw [e10] at ec10
 have k10:=s10.fr.cells k9 (fun h=>h.elim n05 fun h=>by omega)
 have eS:=fun H=>smallC H
 have gl : wG.cells.length = 5:=rfl
 have gt : wG.cells.take 5 = wG.cells:=rfl
 have ga : wG.cells.all AV.isCell = true:=rfl
 have mk:=makeB (n:=126) (by omega) H1
 rw [show ((126 : Nat) : Int) = 126 from rfl,show List.replicate 126 (0 : Int) = wB from rfl,← hH2] at mk
 have sp : zBl [AV.int .i64 0,.int .i64 0,.int .i64 0,.int .i64 0,.int .i64 0] 0 wG.cells = wG.cells:=by rw [zAq _ _ _ (by rw [gl]; omega),gl]; simp
 have cg:=zAi b4
 have cb3:=zAi b3
 have hp : (H1.length : Nat) = H1.length:=rfl
 have k2 : cellsOf H2 0 = some wG.cells:=by rw [hH2]; exact zAz (a1.cells k0)
 rw [l0,hH0] at en
 have q1 : q.p = 1:=by rw [hq,l0]
 rw [q1] at ef ek eo
 rw [d5]
 refine zUb ?_
 unfold b5
 generalize hQ : (fun (e : Ex) (t : T) (h1 : zAa)=>fin [.tmp 0] (some (e,t,h1)) = some (AV.bool true,h1)) = Q
 generalize wG.cells = GC at *
 simp -implicitDefEqProofs (maxSteps:=5000000) only [go_sem,simprocAttr,itr,itq,zSt,eS,gl,gt,ga,sp,en,mk,k2,ef,ix0,cb3,zAu,w4,er4,ec,er5,ek,eo,eb1,l1',eb2,ix,ld,k7,k8,k9,eg,eq,er9,ec10,k10,zAc]
 subst hQ
 simp -implicitDefEqProofs (maxSteps:=5000000) only [go_sem,simprocAttr]
end Go.Proofs.Ytbmmnfeeapnhkaa.G98
end
section
namespace Go.Proofs.Ytbmmnfeeapnhkaa.G98
open Go Go.Proofs.Ytbmmnfeeapnhkaa.Eng
theorem x_miss {X : Over} {k f : Nat} {R : List AV → zAa → Option (AV × zAa)} (args : List AV) (h : zAa) (e : (f == k) = false) : (envX prog (X.with k R)).call f args h = (envX prog X).call f args h:=by
 have : ¬ f = k:=by simpa using e
 unfold envX Over.with
 simp [this]
theorem x_hit {X : Over} {k : Nat} {R : List AV → zAa → Option (AV × zAa)} {args : List AV} {h : zAa} {r : AV × zAa} (e : R args h = some r) : (envX prog (X.with k R)).call k args h = some r:=by
 unfold envX Over.with
 simp [e]
theorem okP : Go.Proofs.Ytbmmnfeeapnhkaa.Eng.Good prog:=zUz (by kernel_rfl) (by kernel_rfl)
noncomputable def XW : Over:=Over.none.with 5 wakeR
theorem xw_ok : XW.Ok prog:=with_ok (zUd prog) (wake_ok okP (zUd prog) wakesC.choose_spec)
theorem zOm (f : Nat) (args : List AV) (h : zAa) (ew : (f == 5) = false) : (envX prog XW).call f args h = (envL prog).call f args h:=by
 unfold XW; rw [x_miss _ _ ew,zSt]
theorem zLt (h : zAa) : (envX prog XW).call 5 [] h = some (.bool true,h):=x_hit rfl
def zUn (g : GmS) : Bool:=!(g.good) || (decide (g.r ≤ 60) && decide (g.b ≤ 20))
theorem lightC (g : GmS) (H : zAa) : (envL prog).call 4 [.agg g.cells] H = some (.bool (zUn g),H):=by
 have eg : ∀ H,(envL prog).call 13 [.agg g.cells] H = some (.bool g.good,H):=fun H=>Gm.goodR g.b g.s g.w g.a g.r H
 have gl : g.cells.length = 5:=rfl
 have gt : g.cells.take 5 = g.cells:=rfl
 have g0 : g.cells[0]? = some (.int .i64 g.b):=rfl
 have g4 : g.cells[4]? = some (.int .i64 g.r):=rfl
 unfold zUn
 generalize g.cells = GC at *
 rw [c4]
 unfold b4
 cases hg : g.good <;> cases h1 : decide (g.r ≤ 60) <;> cases h2 : decide (g.b ≤ 20) <;> simp -implicitDefEqProofs (maxSteps:=5000000) only [go_sem,simprocAttr,itr,itq,eg,gl,gt,g0,g4,hg,h1,h2]
end Go.Proofs.Ytbmmnfeeapnhkaa.G98
end
section
namespace Go.Proofs.Ytbmmnfeeapnhkaa.G98
open Go Go.Proofs.Ytbmmnfeeapnhkaa.Eng
theorem noneO : (zE9 (zHd 8 9)).1.isNone = true ∧ (zE9 (zHd 8 9)).2 = 11:=by decide +kernel
theorem noneF (g : GmS) (z : List Int) : mayS (zHd 8 9) g z = false:=by
 unfold mayS
 cases hg : g.good with
 | false=>rfl
 | true =>
  have N:=g.nm hg
  have h1:=N.hr; have h2:=N.hp; have h3:=N.hc; have h4:=N.hb; have h5:=N.hn
  have hb : g.bytes = 10 + g.s * g.w + g.b + 8 * (4 + (g.b + 7) / 8 + g.b):=rfl
  have : zL7 (zHd 8 9) g = false:=by
   unfold zL7
   have : decide (((zHd 8 9).a.length : Int) ≥ g.fast) = false:=by
    refine decide_eq_false ?_
    have : (zHd 8 9).a.length = 8:=rfl
    rw [this]
    unfold GmS.fast
    omega
   rw [this]; rfl
  rw [this]; rfl
set_option maxHeartbeats 8000000 in
theorem metaNone (b s w a r : Int) (vb : AV) (h : zAa) (db : DatC h (.sl [.int .u8]) vb) : ∃ h',zCb prog (envX prog XW) 3 [.agg [.int .i64 b,.int .i64 s,.int .i64 w,.int .i64 a,.int .i64 r],vb] h = some (.bool true,h'):=by
 obtain ⟨z,bz,uz,okb⟩:=db.bytes
 obtain ⟨g,hg⟩ : ∃ g : GmS,g = ⟨b,s,w,a,r⟩:=⟨_,rfl⟩
 have eg : [AV.int .i64 b,.int .i64 s,.int .i64 w,.int .i64 a,.int .i64 r] = g.cells:=by rw [hg]; rfl
 rw [eg,d3]
 refine zUb ?_
 unfold b3
 generalize hQ : (fun (e : Ex) (t : T) (h1 : zAa)=>fin [.tmp 4] (some (e,t,h1)) = some (AV.bool true,h1)) = Q
 obtain ⟨h0,e0⟩ : ∃ h0,h0 = h ++ [ABlk.rw g.cells]:=⟨_,rfl⟩
 have a0 : Adds h h0:=⟨_,e0⟩
 have cg : cellsOf h0 h.length = some g.cells:=by rw [e0]; unfold cellsOf; simp
 have e0:=e0.symm
 have bc:=bz.is.cells
 have wl:=bz.len
 have el:=lightC g h0
 have gl : g.cells.length = 5:=rfl
 have gt : g.cells.take 5 = g.cells:=rfl
 by_cases hz : (z.length : Int) > 2000
 ·have dz:=decide_eq_true hz
  generalize g.cells = GC at *
  simp -implicitDefEqProofs (maxSteps:=5000000) only [go_sem,simprocAttr,itr,itq,zOm,zLt,e0,wl,dz,zAc]
  subst hQ
  simp -implicitDefEqProofs (maxSteps:=5000000) only [go_sem,simprocAttr]
 have dz:=decide_eq_false hz
 cases hL : zUn g with
 | false =>
  rw [hL] at el
  generalize g.cells = GC at *
  simp -implicitDefEqProofs (maxSteps:=5000000) only [go_sem,simprocAttr,itr,itq,zOm,zLt,e0,wl,dz,cg,gl,gt,el,zAc]
  subst hQ
  simp -implicitDefEqProofs (maxSteps:=5000000) only [go_sem,simprocAttr]
 | true =>
  rw [hL] at el
  have eo:=openNil h0
  obtain ⟨H1,F,li,en⟩:=rinNew (n0:=8) (n1:=9) (by omega) (by omega) (by omega) (by omega) h0
  rw [show ((8 : Nat) : Int) = 8 from rfl,show ((9 : Nat) : Int) = 9 from rfl] at en
  obtain ⟨q,hq,m1⟩:=li.m.at
  have a1:=li.old
  have cg1:=a1.cells cg
  have eb:=zU2 m1 (a1.bs (a0.bs bz)) okb uz (by omega) (by omega) (fun b hb hF=>by have:=li.out b hF; have:=bs_lt (a0.bs bz) hb; omega) (noneF g z)
  rcases openC m1 with ⟨mm,_,_,_,hO,_⟩ | ⟨hO,ep⟩
  ·exfalso
   have:=noneO.1
   rw [hO] at this
   cases this
  rw [noneO.2] at ep
  rw [hq] at ep eb
  have ec:=zVq (w:=vb) H1
  have e1:=nilBytes H1
  have e2:=nilRoom H1
  have e3:=nilGeom H1
  have eq : binV .eql (.flat 5) (.agg (⟨0,0,0,0,0⟩ : GmS).cells) (.agg [.int .i64 0,.int .i64 0,.int .i64 0,.int .i64 0,.int .i64 0]) = some (.bool true):=rfl
  generalize (⟨0,0,0,0,0⟩ : GmS).cells = ZC at *
  generalize g.cells = GC at *
  simp -implicitDefEqProofs (maxSteps:=5000000) only [go_sem,simprocAttr,itr,itq,zOm,zLt,e0,wl,dz,cg,gl,gt,el,eo,en,ep,cg1,eb,ec,e1,e2,e3,eq,zAc]
  subst hQ
  simp -implicitDefEqProofs (maxSteps:=5000000) only [go_sem,simprocAttr]
end Go.Proofs.Ytbmmnfeeapnhkaa.G98
end
