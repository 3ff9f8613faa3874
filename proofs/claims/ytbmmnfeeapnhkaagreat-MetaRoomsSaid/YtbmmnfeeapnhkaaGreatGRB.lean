/- What the functions that the law reaches answer, for every argument. No condition but those in each statement. -/
import Derived.Test.YtbmmnfeeapnhkaaGreatGRA
import Derived.Test.YtbmmnfeeapnhkaaGreatE6
set_option linter.unusedSimpArgs false
set_option linter.unusedVariables false
set_option linter.unusedSectionVars false
set_option maxRecDepth 10000
section
namespace Go.Proofs.YtbmmnfeeapnhkaaGreat.G08
open Go Go.Proofs.YtbmmnfeeapnhkaaGreat.Eng
section
variable {q : RPl} {H : zAa} {n : Nat} {r : RgS} {F : Nat → Prop} (m : zA3 q H n r F) {f c a seq : Int} (hq : 0 ≤ seq ∧ seq < 4294967296)
 {B : Nat} {w : AV} {l : List ImS} (g : GR 49 H B w (zBt l)) (gF : ∀ b,slb w = some b → ¬ F b) (h48 : ∀ x ∈ l,B48 x.b) (hl : l.length ≤ 1000) (hn : n + l.length + 1 ≤ 1000000000)
include m hq g gF h48 hl hn
set_option maxHeartbeats 16000000 in
theorem appdC : ∃ n' H' F',n' ≤ n + l.length + 1 ∧ zA3 q H' n' (zBu r f c a seq l).1 F' ∧ zBm H F H' F' ∧ (envL prog).call 73 [.ptr q.p 0,.int .i64 f,.int .i64 c,.int .i64 a,.int .u32 seq,w] H = some (.tup [.int .i64 (zBu r f c a seq l).2.1,.int .i64 (zBu r f c a seq l).2.2],H'):=by
 have gd:=fun X=>goodC (m.adds X) f c a
 have wl:=g.len
 unfold zBt at wl
 rw [List.length_map] at wl
 have key : Outs (runC (envL prog) (b73 (envL prog)) ([.ptr q.p 0,.int .i64 f,.int .i64 c,.int .i64 a,.int .u32 seq,w] ++ List.replicate (110 - [AV.ptr q.p 0,.int .i64 f,.int .i64 c,.int .i64 a,.int .u32 seq,w].length) .undef) H) fun e' t K=>∃ n' F',n' ≤ n + l.length + 1 ∧ zA3 q K n' (zBu r f c a seq l).1 F' ∧ zBm H F K F' ∧ fin [.tmp 12,.tmp 13] (some (e',t,K)) = some (.tup [.int .i64 (zBu r f c a seq l).2.1,.int .i64 (zBu r f c a seq l).2.2],K):=by
  unfold b73
  have sA : ∀ X : zAa,zBm H F (H ++ X) F:=fun X=>⟨Fr.adds ⟨X,rfl⟩ F,fun b h=>.inl h⟩
  by_cases hg : zGr r f c a
  ·have dg:=decide_eq_true hg
   obtain ⟨hf,hc,hc2,hfl,ha,ha2⟩:=id hg
   have hal : r.a.length ≤ 4096:=m.rin.ok.2.2.1
   have w1 : IntKind.i64.wrap (c - 1) = c - 1:=zAq (by omega) (by omega)
   have eA : zBu r f c a seq l = zBu r f c a seq l:=rfl
   by_cases h1 : 1 ≤ l.length ∧ (l.length : Int) ≤ c - 1
   ·have d1 : decide ((l.length : Int) < 1) = false:=decide_eq_false (by omega)
    have d2 : decide ((l.length : Int) > c - 1) = false:=decide_eq_false (by omega)
    have l0:=appL0 (g.mono [.rw [.ptr q.p 0,.int .i64 f,.int .i64 c]]) (fun x hx=>(h48 x hx).1) hl (k:=l.length) (i:=0) (K:=H ++ [.rw [.ptr q.p 0,.int .i64 f,.int .i64 c]])
    rw [show ((0 : Nat) : Int) = 0 from rfl,List.drop_zero] at l0
    generalize hQ : (fun (e' : Ex) (t : T) (K : zAa)=>∃ n' F',n' ≤ n + l.length + 1 ∧ zA3 q K n' (zBu r f c a seq l).1 F' ∧ zBm H F K F' ∧ fin [.tmp 12,.tmp 13] (some (e',t,K)) = some (.tup [.int .i64 (zBu r f c a seq l).2.1,.int .i64 (zBu r f c a seq l).2.2],K)) = Q
    simp -implicitDefEqProofs (maxSteps:=5000000) only [go_sem,simprocAttr,itr,itq,zA6,gd,dg,wl,d1,d2,w1]
    unfold LP1 at l0
    generalize (envL prog).loop (runC (envL prog) (l73x0 (envL prog))) = L0 at l0 ⊢
    refine zBo (fun r=>seqR (zBr 1 r) _) (l0 _ _ _ _ _ _ _ _ _ _ _ _ _ _ _ _ _ _ _ _ _ _ _ _ _ _ _ _ _ _ _ _ _ _ _ _ _ _ _ _ _ _ _ _ _ _ _ _ _ _ _ _ _ _ _ _ _ _ _ _ _ _ _ _ _ _ _ _ _ _ _ _ _ _ _ _ _ _ _ _ _ _ _ _ _ _ _ _ _ _ _ _ _ _ _ _ _ _ _ _ _ _ _ _ _ _ _ (Adds.refl _) (by omega)) ?_
    rintro e t K0 ⟨a0,fv,rfl,⟨rfl,ho⟩ | ⟨rfl,f12,f13,ho⟩⟩
    ·have hs : f + c ≤ 1000000000:=by omega
     have l1:=appL1 m hf hc hc2 hs ha ha2 hq g gF h48 hl ho hn (k:=l.length) (i:=0) (K:=K0) (r':=r) (F':=F)
     rw [show ((0 : Nat) : Int) = 0 from rfl,List.drop_zero] at l1
     have m0 : zA3 q K0 (n + 0) r F:=by obtain ⟨G,rfl⟩:=a0; rw [List.append_assoc]; exact m.adds _
     have s0 : zBm (H ++ [.rw [.ptr q.p 0,.int .i64 f,.int .i64 c]]) F K0 F:=⟨Fr.adds a0 F,fun b h=>.inl h⟩
     have s00 : zBm H F (H ++ [.rw [.ptr q.p 0,.int .i64 f,.int .i64 c]]) F:=sA _
     have eA0 : zBu r f c a seq l = zBu r f c a seq l:=rfl
     conv at eA0=>rhs; unfold zBu; rw [if_pos hg,if_pos h1,if_pos ho]
     simp -implicitDefEqProofs (maxSteps:=5000000) only [go_sem,simprocAttr,itr,itq,zA6,wl]
     unfold LP1 at l1
     generalize zCa f c a seq r 0 l = P at l1 eA0
     obtain ⟨r1,e1⟩:=P
     simp only at l1 eA0
     generalize (envL prog).loop (runC (envL prog) (l73x1 (envL prog))) = L1 at l1 ⊢
     refine zBo (fun r=>seqR (zBr 3 r) _) (l1 _ _ _ _ _ _ _ _ _ _ _ _ _ _ _ _ _ _ _ _ _ _ _ _ _ _ _ _ _ _ _ _ _ _ _ _ _ _ _ _ _ _ _ _ _ _ _ _ _ _ _ _ _ _ _ _ _ _ _ _ _ _ _ _ _ _ _ _ _ _ _ _ _ _ _ _ _ _ _ _ _ _ _ _ _ _ _ _ _ _ _ _ _ _ _ _ _ _ _ _ _ _ _ _ m0 s0 (by omega)) ?_
     rintro e t K1 ⟨n1,F1,m1,hn1,st1,fv1,rfl,⟨rfl,hP⟩ | ⟨rfl,f12,f13,hP⟩⟩
     ·obtain ⟨K2,m2,st2,len2,ef⟩:=zLe m1 0
      rw [if_pos hP] at eA0
      have st12:=st1.trans st2
      have tK:=fun X : zAa=>zAy (x:=X) (st12.1.cells (b:=H.length) (cs:=[.ptr q.p 0,.int .i64 f,.int .i64 c]) (by unfold cellsOf; simp) fun h=>by have:=m.lt _ h; omega)
      have tK0:=st12.1.cells (b:=H.length) (cs:=[.ptr q.p 0,.int .i64 f,.int .i64 c]) (by unfold cellsOf; simp) fun h=>by have:=m.lt _ h; omega
      generalize r1.flush 0 = R2 at *
      obtain ⟨r2,e2⟩:=R2
      simp only at ef m2 eA0
      by_cases h2 : e2 = 0
      ·rw [if_pos h2] at eA0
       have n2 : (e2 != 0) = false:=by rw [h2]; rfl
       have pok : (zCh seq l.length).Ok:=⟨by show (0 : Int) ≤ 67 ∧ (67 : Int) ≤ 255; omega,hq,by show _ ≤ (l.length : Int) ∧ (l.length : Int) ≤ _; omega,zB7⟩
       have pen : zEx (zCh seq l.length).m (zCh seq l.length).i = true:=by
        show zEx 67 (l.length : Int) = true
        unfold zEx; rw [decide_eq_true (show 0 ≤ (l.length : Int) by omega),decide_eq_true (show (l.length : Int) ≤ 65535 by omega)]; rfl
       obtain ⟨K3,F3,m3,st3,ew⟩:=zVu m2 hf hc hs (show 0 ≤ a + (l.length : Int) by omega) pok pen (by omega)
       have ec : (zCh seq l.length).cells = .int .u8 67 :: .int .u32 seq :: .int .i64 (l.length : Int) :: u8s zA2:=rfl
       rw [ec] at ew
       have wa : IntKind.i64.wrap (a + (l.length : Int)) = a + (l.length : Int):=zAq (by omega) (by omega)
       have wb : IntKind.i64.wrap (a + (l.length : Int) + 1) = a + (l.length : Int) + 1:=zAq (by omega) (by omega)
       have rm:=zHo .none .i64 (a + (l.length : Int) + 1) c (by omega)
       have zl : zA2.length = 48:=zB7.1
       have st13:=st12.trans st3
       generalize zCq r2 f c (a + (l.length : Int)) (zCh seq l.length) = R3 at *
       obtain ⟨r3,e3⟩:=R3
       simp only at ew m3 eA0
       by_cases h3 : e3 = 0
       ·rw [if_pos h3] at eA0
        have n3 : (e3 != 0) = false:=by rw [h3]; rfl
        obtain ⟨K4,m4,st4,len4,eg⟩:=zLe m3 0
        have st14:=st13.trans st4
        generalize r3.flush 0 = R4 at *
        obtain ⟨r4,e4⟩:=R4
        simp only at eg m4 eA0
        by_cases h4 : e4 = 0
        ·rw [if_pos h4] at eA0
         have n4 : (e4 != 0) = false:=by rw [h4]; rfl
         simp -implicitDefEqProofs (maxSteps:=5000000) only [go_sem,simprocAttr,itr,itq,ef,n2,tK,tK0,wl,wa,wb,zBe,zAd,zl,ew,n3,eg,n4,rm,zAc]
         subst hQ
         rw [eA0]
         refine ⟨_,F3,by omega,m4,s00.trans st14,?_⟩
         simp -implicitDefEqProofs (maxSteps:=5000000) only [go_sem,simprocAttr]
        ·rw [if_neg h4] at eA0
         have n4 : (e4 != 0) = true:=by simpa using h4
         simp -implicitDefEqProofs (maxSteps:=5000000) only [go_sem,simprocAttr,itr,itq,ef,n2,tK,tK0,wl,wa,wb,zBe,zAd,zl,ew,n3,eg,n4,rm,zAc]
         subst hQ
         rw [eA0]
         refine ⟨_,F3,by omega,m4,s00.trans st14,?_⟩
         simp -implicitDefEqProofs (maxSteps:=5000000) only [go_sem,simprocAttr]
       ·rw [if_neg h3] at eA0
        have n3 : (e3 != 0) = true:=by simpa using h3
        simp -implicitDefEqProofs (maxSteps:=5000000) only [go_sem,simprocAttr,itr,itq,ef,n2,tK,tK0,wl,wa,wb,zBe,zAd,zl,ew,n3,zAc]
        subst hQ
        rw [eA0]
        refine ⟨_,F3,by omega,m3,s00.trans st13,?_⟩
        simp -implicitDefEqProofs (maxSteps:=5000000) only [go_sem,simprocAttr]
      ·rw [if_neg h2] at eA0
       have n2 : (e2 != 0) = true:=by simpa using h2
       simp -implicitDefEqProofs (maxSteps:=5000000) only [go_sem,simprocAttr,itr,itq,ef,n2,zAc]
       subst hQ
       rw [eA0]
       refine ⟨_,F1,by omega,m2,s00.trans st12,?_⟩
       simp -implicitDefEqProofs (maxSteps:=5000000) only [go_sem,simprocAttr]
     ·rw [if_neg hP] at eA0
      simp -implicitDefEqProofs (maxSteps:=5000000) only [go_sem,simprocAttr,zAc]
      subst hQ
      rw [eA0]
      refine ⟨_,F1,by omega,m1,s00.trans st1,?_⟩
      simp -implicitDefEqProofs (maxSteps:=5000000) only [go_sem,simprocAttr,f12,f13]
    ·simp -implicitDefEqProofs (maxSteps:=5000000) only [go_sem,simprocAttr,zAc]
     subst hQ
     have eA : zBu r f c a seq l = (r,(0,1)):=by
      unfold zBu
      rw [if_pos hg,if_pos h1,if_neg (by rw [ho]; simp)]
     rw [eA]
     obtain ⟨G,rfl⟩:=a0
     rw [List.append_assoc]
     refine ⟨n,F,by omega,m.adds _,sA _,?_⟩
     simp -implicitDefEqProofs (maxSteps:=5000000) only [go_sem,simprocAttr,f12,f13]
   ·have eA : zBu r f c a seq l = (r,(0,2)):=by
     unfold zBu
     rw [if_pos hg,if_neg h1]
    rw [eA]
    generalize hQ : (fun (e' : Ex) (t : T) (K : zAa)=>∃ n' F',n' ≤ n + l.length + 1 ∧ zA3 q K n' r F' ∧ zBm H F K F' ∧ fin [.tmp 12,.tmp 13] (some (e',t,K)) = some (.tup [.int .i64 0,.int .i64 2],K)) = Q
    by_cases h2 : l.length < 1
    ·have d1 : decide ((l.length : Int) < 1) = true:=decide_eq_true (by omega)
     simp -implicitDefEqProofs (maxSteps:=5000000) only [go_sem,simprocAttr,itr,itq,gd,dg,wl,d1,zAc]
     subst hQ
     refine ⟨n,F,by omega,m.adds _,sA _,?_⟩
     simp -implicitDefEqProofs (maxSteps:=5000000) only [go_sem,simprocAttr]
    ·have d1 : decide ((l.length : Int) < 1) = false:=decide_eq_false (by omega)
     have d2 : decide ((l.length : Int) > c - 1) = true:=decide_eq_true (by omega)
     simp -implicitDefEqProofs (maxSteps:=5000000) only [go_sem,simprocAttr,itr,itq,gd,dg,wl,d1,d2,w1,zAc]
     subst hQ
     refine ⟨n,F,by omega,m.adds _,sA _,?_⟩
     simp -implicitDefEqProofs (maxSteps:=5000000) only [go_sem,simprocAttr]
  ·have dg:=decide_eq_false hg
   have eA : zBu r f c a seq l = (r,(0,1)):=by
    unfold zBu
    rw [if_neg hg]
   rw [eA]
   generalize hQ : (fun (e' : Ex) (t : T) (K : zAa)=>∃ n' F',n' ≤ n + l.length + 1 ∧ zA3 q K n' r F' ∧ zBm H F K F' ∧ fin [.tmp 12,.tmp 13] (some (e',t,K)) = some (.tup [.int .i64 0,.int .i64 1],K)) = Q
   simp -implicitDefEqProofs (maxSteps:=5000000) only [go_sem,simprocAttr,itr,itq,gd,dg,zAc]
   subst hQ
   refine ⟨n,F,by omega,m.adds _,sA _,?_⟩
   simp -implicitDefEqProofs (maxSteps:=5000000) only [go_sem,simprocAttr]
 obtain ⟨e',t,K,hr,n',F',hn',mK,st,hf⟩:=key
 obtain ⟨H',F'',et,mt,stt,_⟩:=m.trim mK st (.tup [.int .i64 (zBu r f c a seq l).2.1,.int .i64 (zBu r f c a seq l).2.2])
 exact ⟨n',H',F'',hn',mt,stt,by rw [c73,hr,hf,et]⟩
end
end Go.Proofs.YtbmmnfeeapnhkaaGreat.G08
end
section
namespace Go.Proofs.YtbmmnfeeapnhkaaGreat.G08
open Go Go.Proofs.YtbmmnfeeapnhkaaGreat.Eng
theorem zVg {sz b off len cp i : Nat} {ex : Bool} (h1 : i ≤ len) (h2 : len ≤ cp) : zDa sz (.sl b off sz len cp ex) (some (.int .i64 (i : Int))) none none = some (.sl b (off + i * sz) sz (len - i) (cp - i) ex):=by
 simp [zDa,asI,h1]
 omega
theorem sl_mid {b off len cp i u : Nat} {ex : Bool} (h1 : i ≤ u) (h2 : u ≤ cp) : zDa 1 (.sl b off 1 len cp ex) (some (.int .i64 (i : Int))) (some (.int .i64 (u : Int))) (some (.int .i64 (u : Int))) = some (.sl b (off + i) 1 (u - i) (u - i) true):=by
 simp [zDa,asI,h1,h2]
theorem zR5 {z : List Int} (h : z.length ≤ 48) : (padS z).length = 48:=by simp [padS]; omega
theorem padS_u8 {z : List Int} (h : IsU8 z) : IsU8 (padS z):=fun x hx=>by
 rcases List.mem_append.1 hx with hx | hx
 ·exact h x hx
 ·rw [(List.mem_replicate.1 hx).2]; omega
theorem zTo {z : List Int} (h : IsU8 z) (i : Nat) : B48 (zC8 z i) :=
 ⟨zR5 (by simp; omega),padS_u8 fun x hx=>h x (List.mem_of_mem_drop (List.mem_of_mem_take hx))⟩
theorem zCe (z : List Int) : (cutS z).length = zB1 z.length:=by simp [cutS]
theorem zFg {z : List Int} (h : IsU8 z) : ∀ x ∈ cutS z,B48 x:=fun x hx=>by
 obtain ⟨i,_,rfl⟩:=List.mem_map.1 hx
 exact zTo h i
theorem zSn {z : List Int} {i : Nat} (h : i < zB1 z.length) : (cutS z)[i]? = some (zC8 z i):=by
 unfold cutS
 rw [List.getElem?_map,List.getElem?_range h]; rfl
theorem zIx (z : List Int) (i : Nat) : (zC8 z i).length = 48:=zR5 (by simp; omega)
theorem cutS_48 (z : List Int) : ∀ x ∈ cutS z,x.length = 48:=fun x hx=>by
 obtain ⟨i,_,rfl⟩:=List.mem_map.1 hx
 exact zIx z i
def cutR (z : List Int) (n : Nat) : List (List AV):=((List.range n).map (zC8 z)).map u8s
theorem zPt (z : List Int) (n : Nat) : cutR z (n + 1) = cutR z n ++ [u8s (zC8 z n)]:=by unfold cutR; rw [List.range_succ]; simp
theorem zSo (z : List Int) (n : Nat) : (cutR z n).length = n:=by simp [cutR]
theorem cutR_48 (z : List Int) (n : Nat) : ∀ r ∈ cutR z n,r.length = 48:=fun r hr=>by
 obtain ⟨x,hx,rfl⟩:=List.mem_map.1 hr
 obtain ⟨i,_,rfl⟩:=List.mem_map.1 hx
 rw [zAd,zIx]
noncomputable abbrev LP1' (l : Env → CT):=(envL prog).loop (runC (envL prog) (l (envL prog)))
def pcv (w : AV) (n i : Nat) : AV:=match w with
 | .sl b o _ _ _ _=>.sl b (o + 48 * i) 1 (min 48 (n - 48 * i)) (min 48 (n - 48 * i)) true
 | v=>v
def zY5 (y p q : Nat) (w : AV) (n : Nat) (Y : Nat → zAa → Prop) : Prop :=
 ∀ i K,Y i K → cellsOf K p = some [w] ∧ cellsOf K q = some [.int .i64 48] ∧ (48 * i < n → ∃ K',Y (i + 1) K' ∧ (envL prog).yield y [pcv w n i] K = some (.bool true,K'))
set_option maxHeartbeats 4000000 in
theorem chunkL {y p q n : Nat} {w : AV} {Y : Nat → zAa → Prop} (hY : zY5 y p q w n Y) (hw : lenSl w = some (.int .i64 (n : Int))) (hs : w = .nilSl ∧ n = 0 ∨ ∃ b o c e,w = .sl b o 1 n c e ∧ n ≤ c) (hn : n ≤ 1000000) (x3 : AV) : ∀ (m i : Nat) (K : zAa) (j5 j6 j7 j8 j9 j10 j11 j12 j13 j14 j15 j16 j17 j18 j19 j20 j21 j22 j23 j24 j25 j26 j27 j28 j29 j30 : AV),Y i K → i + m = zB1 n →
  Outs (LP1' l127x0 [.yld y,.ptr p 0,.ptr q 0,x3,.int .i64 ((48 * i : Nat) : Int),j5,j6,j7,j8,j9,j10,j11,j12,j13,j14,j15,j16,j17,j18,j19,j20,j21,j22,j23,j24,j25,j26,j27,j28,j29,j30] K) fun e t K'=>e = .exit 0 ∧ Y (zB1 n) K' ∧ ∃ fv : Nat → AV,t = [.yld y,.ptr p 0,.ptr q 0,x3,(fv 4),(fv 5),(fv 6),(fv 7),(fv 8),(fv 9),(fv 10),(fv 11),(fv 12),(fv 13),(fv 14),(fv 15),(fv 16),(fv 17),(fv 18),(fv 19),(fv 20),(fv 21),(fv 22),(fv 23),(fv 24),(fv 25),(fv 26),(fv 27),(fv 28),(fv 29),(fv 30)]:=by
 intro m
 obtain ⟨L,hL⟩ : ∃ L,L = LP1' l127x0:=⟨_,rfl⟩
 have lo:=zBc hL
 rw [← hL]
 induction m with
 | zero =>
  intro i K j5 j6 j7 j8 j9 j10 j11 j12 j13 j14 j15 j16 j17 j18 j19 j20 j21 j22 j23 j24 j25 j26 j27 j28 j29 j30 hK hi
  obtain rfl : i = zB1 n:=by omega
  obtain ⟨cp,cq,_⟩:=hY _ K hK
  have hd : decide (((48 * zB1 n : Nat) : Int) < (n : Int)) = false:=decide_eq_false (by unfold zB1; omega)
  rw [lo]
  unfold l127x0
  simp -implicitDefEqProofs (maxSteps:=5000000) only [go_sem,simprocAttr,cp,hw,hd,zAu,zAc]
  exact ⟨hK,exF rfl⟩
 | succ m ih =>
  intro i K j5 j6 j7 j8 j9 j10 j11 j12 j13 j14 j15 j16 j17 j18 j19 j20 j21 j22 j23 j24 j25 j26 j27 j28 j29 j30 hK hi
  have hlt : 48 * i < n:=by unfold zB1 at hi; omega
  obtain ⟨cp,cq,hy⟩:=hY _ K hK
  obtain ⟨K',hK',hy⟩:=hy hlt
  obtain ⟨cp',cq',_⟩:=hY _ K' hK'
  rcases hs with ⟨_,h0⟩ | ⟨b,o,c,e,rfl,hc⟩
  ·omega
  have hd : decide (((48 * i : Nat) : Int) < (n : Int)) = true:=decide_eq_true (by omega)
  have e2 : IntKind.i64.wrap (((48 * i : Nat) : Int) + 48) = ((48 * (i + 1) : Nat) : Int):=by rw [zAq (by omega) (by omega)]; omega
  have s1:=zVg (sz:=1) (b:=b) (off:=o) (len:=n) (cp:=c) (i:=48 * i) (ex:=e) (by omega) hc
  have mn : (if ((n - 48 * i : Nat) : Int) < 48 then ((n - 48 * i : Nat) : Int) else 48) = ((min 48 (n - 48 * i) : Nat) : Int):=by split <;> omega
  have e3 : IntKind.i64.wrap (((48 * i : Nat) : Int) + ((min 48 (n - 48 * i) : Nat) : Int)) = ((48 * i + min 48 (n - 48 * i) : Nat) : Int):=by rw [zAq (by omega) (by omega)]; omega
  have s2:=sl_mid (b:=b) (off:=o) (len:=n) (cp:=c) (i:=48 * i) (u:=48 * i + min 48 (n - 48 * i)) (ex:=e) (by omega) (by omega)
  rw [Nat.add_sub_cancel_left] at s2
  unfold pcv at hy
  simp only at hy
  generalize hW : AV.sl b o 1 n c e = W at *
  generalize hV : AV.sl b (o + 48 * i) 1 (min 48 (n - 48 * i)) (min 48 (n - 48 * i)) true = V at *
  rw [lo]
  unfold l127x0
  simp -implicitDefEqProofs (maxSteps:=5000000) only [go_sem,simprocAttr,cp,cq,cp',cq',hw,hd,s1,s2,mn,e3,hy,zE8,e2]
  exact ih (i + 1) _ _ _ _ _ _ _ _ _ _ _ _ _ _ _ _ _ _ _ _ _ _ _ _ _ _ _ hK' (by omega)
set_option maxHeartbeats 2000000 in
theorem chunkC {y p q n : Nat} {w : AV} {Y : Nat → zAa → Prop} (hY : zY5 y p q w n Y) (hw : lenSl w = some (.int .i64 (n : Int))) (hs : w = .nilSl ∧ n = 0 ∨ ∃ b o c e,w = .sl b o 1 n c e ∧ n ≤ c) (hn : n ≤ 1000000) {K : zAa} (hK : Y 0 K) :
  ∃ K',Y (zB1 n) K' ∧ (envL prog).call 127 [.yld y,.ptr p 0,.ptr q 0] K = trim K (some (.tup [],K')):=by
 have l0:=chunkL hY hw hs hn (m:=zB1 n) (i:=0)
 rw [show ((48 * 0 : Nat) : Int) = 0 from rfl] at l0
 have o : Outs (runC (envL prog) (b127 (envL prog)) ([.yld y,.ptr p 0,.ptr q 0] ++ List.replicate (31 - [AV.yld y,.ptr p 0,.ptr q 0].length) .undef) K) fun e' t K'=>Y (zB1 n) K' ∧ fin [] (some (e',t,K')) = some (.tup [],K'):=by
  unfold b127
  generalize hQ : (fun (e' : Ex) (t : T) (K' : zAa)=>Y (zB1 n) K' ∧ fin [] (some (e',t,K')) = some (.tup [],K')) = Q
  simp -implicitDefEqProofs (maxSteps:=5000000) only [go_sem,simprocAttr,zA6]
  unfold LP1' at l0
  generalize (envL prog).loop (runC (envL prog) (l127x0 (envL prog))) = L0 at l0 ⊢
  refine zBo (fun r=>zBr 0 r) (l0 _ _ _ _ _ _ _ _ _ _ _ _ _ _ _ _ _ _ _ _ _ _ _ _ _ _ _ _ hK (by omega)) ?_
  rintro e t H' ⟨rfl,hK',k,rfl⟩
  simp -implicitDefEqProofs (maxSteps:=5000000) only [go_sem,simprocAttr,zAc]
  subst hQ
  refine ⟨hK',?_⟩
  simp -implicitDefEqProofs (maxSteps:=5000000) only [go_sem,simprocAttr]
 obtain ⟨e',t,H',hr,hK',hf⟩:=o
 exact ⟨H',hK',by rw [c127,hr,hf]⟩
theorem chunk0 {w : AV} (hc : zA7 w = some [w]) (k : Int) (h1 : ¬ k < 1) (H : zAa) : (envL prog).call 100 [w,.int .i64 k] H = some (.fn 127 [.ptr H.length 0,.ptr (H.length + 1) 0],H ++ [.rw [w],.rw [.int .i64 k]]):=by
 have d1:=decide_eq_false h1
 rw [c100]
 unfold b100
 simp -implicitDefEqProofs (maxSteps:=5000000) only [go_sem,simprocAttr,itr,itq,hc,d1]
 all_goals exact zBa (by simp [AV.under,zAt])
end Go.Proofs.YtbmmnfeeapnhkaaGreat.G08
end
section
namespace Go.Proofs.YtbmmnfeeapnhkaaGreat.G08
open Go Go.Proofs.YtbmmnfeeapnhkaaGreat.Eng
theorem copy_at {d : TyD} (hd : d.size = 1) {H : zAa} {b off len c : Nat} {e : Bool} {ys zs : List Int} {y : AV} (hb : H[b]? = some (.rw (u8s ys))) (hl : off + zs.length ≤ ys.length) (hm : zs.length ≤ len) (s : Src 1 H y zs.length (u8s zs)) :
  ∃ H',zJc d (.sl b off 1 len c e) y H = some (.int .i64 (zs.length : Int),H') ∧ H' = H.set b (.rw (u8s (ys.take off ++ zs ++ ys.drop (off + zs.length)))):=by
 have hmin : min zs.length len = zs.length:=by omega
 unfold zJc
 rw [s.sl]
 simp only [Option.bind_some,hd,hmin,s.cells]
 rw [if_neg (by simp)]
 by_cases h0 : zs.length = 0
 ·obtain rfl : zs = []:=List.eq_nil_of_length_eq_zero h0
  rw [if_pos (show ([] : List Int).length = 0 from rfl)]
  refine ⟨_,rfl,?_⟩
  simp only [List.length_nil,Nat.add_zero,List.append_nil,List.take_append_drop]
  apply List.ext_getElem?
  intro i
  rw [List.getElem?_set]
  split
  ·rename_i q; subst q; rw [if_pos (zAl hb)]; exact hb
  ·rfl
 ·rw [if_neg h0]
  have w : zAz H b off (u8s zs) = some (H.set b (.rw (u8s (ys.take off ++ zs ++ ys.drop (off + zs.length))))):=by
   rw [zAv hb,if_pos ⟨by rw [zAd,zAd]; exact hl,zAo zs⟩]
   congr 3
   have sp : zBp (u8s ys) off (u8s zs) = (u8s ys).take off ++ u8s zs ++ (u8s ys).drop (off + zs.length):=by
    by_cases h1 : zs.length = 1
    ·obtain ⟨z,rfl⟩:=List.length_eq_one_iff.1 h1
     show (u8s ys).set off (.int .u8 z) = _
     have hh : off < (u8s ys).length:=by rw [zAd]; simp at hl; omega
     rw [List.set_eq_take_append_cons_drop,if_pos hh]
     simp [u8s]
    ·rw [zAs _ _ _ (by rw [zAd]; exact h1),zAd]
   rw [sp]
   simp [u8s]
  rw [w]
  exact ⟨_,rfl,rfl⟩
theorem zWk {H : zAa} {w : AV} {zs : List Int} (b : BS H w zs) (ok : zDz w) {i : Nat} (hi : 48 * i < zs.length) : Src 1 H (pcv w zs.length i) ((zs.drop (48 * i)).take 48).length (u8s ((zs.drop (48 * i)).take 48)):=by
 rcases b with ⟨_,rfl⟩ | ⟨b,o,l,e,cs,rfl,hc,hz,hl⟩
 ·simp at hi
 have le : ((zs.drop (48 * i)).take 48).length = min 48 (zs.length - 48 * i):=by simp
 refine BS.src (.inr ⟨b,o + 48 * i,min 48 (zs.length - 48 * i),true,cs,?_,hc,fun j z hj=>?_,by rw [le]; omega⟩)
 ·unfold pcv; simp only; rw [le]
 ·rw [List.getElem?_take] at hj
  split at hj
  ·rw [List.getElem?_drop] at hj
   rw [Nat.add_assoc]; exact hz _ z hj
  ·cases hj
noncomputable abbrev CutL (s : LoopState) (t : T) : ABlk:=.loop ⟨s,.normal,t,[8],zQq,zQp⟩
structure CutY (H : zAa) (w : AV) (zs : List Int) (s : LoopState) (t : T) (i : Nat) (K : zAa) : Prop where
 old : ∀ b,b < H.length → K[b]? = H[b]?
 len : H.length + 4 ≤ K.length
 out : ∃ l,K[H.length]? = some (.rw [l]) ∧ GR 48 K (H.length + 4) l (cutR zs i)
 pw : K[H.length + 1]? = some (.rw [w])
 pn : K[H.length + 2]? = some (.rw [.int .i64 48])
 lp : K[H.length + 3]? = some (CutL s t)
set_option maxHeartbeats 4000000 in
theorem cutRound {H : zAa} {w : AV} {zs : List Int} (b : BS H w zs) (ok : zDz w) (hu : IsU8 zs) (hn : zs.length ≤ 100000) {t : T} (ht : t.length = 17) (h3 : getT t 3 = .ptr H.length 0) {i : Nat} (hi : 48 * i < zs.length) {K : zAa} (y : CutY H w zs .ready t i K) :
  ∃ K',CutY H w zs .ready t (i + 1) K' ∧ (envL prog).yield (H.length + 3) [pcv w zs.length i] K = some (.bool true,K'):=by
 obtain ⟨l,hl,g⟩:=y.out
 have kl:=y.len
 have K1l : (K.set (H.length + 3) (CutL .busy t)).length = K.length:=by simp
 have a0 : (K.set (H.length + 3) (CutL .busy t))[H.length]? = some (.rw [l]):=by rw [zAf _ _ _ _ (by omega)]; exact hl
 have a1 : (K.set (H.length + 3) (CutL .busy t))[H.length + 1]? = some (.rw [w]):=by rw [zAf _ _ _ _ (by omega)]; exact y.pw
 have a2 : (K.set (H.length + 3) (CutL .busy t))[H.length + 2]? = some (.rw [.int .i64 48]):=by rw [zAf _ _ _ _ (by omega)]; exact y.pn
 have a3 : (K.set (H.length + 3) (CutL .busy t))[H.length + 3]? = some (CutL .busy t):=zA4 _ _ _ (by omega)
 have ao : ∀ b,b < H.length → (K.set (H.length + 3) (CutL .busy t))[b]? = H[b]?:=fun b hb=>by rw [zAf _ _ _ _ (by omega)]; exact y.old b hb
 have g1 : GR 48 (K.set (H.length + 3) (CutL .busy t)) (H.length + 4) l (cutR zs i):=g.frS (Fr.set (F:=(· = H.length + 3)) _ _ rfl) fun b hb=>by have:=(g.out b hb).1; omega
 have bs1 : BS (K.set (H.length + 3) (CutL .busy t)) w zs:=b.fr (F:=fun _=>False) ⟨by rw [K1l]; omega,fun x hx _=>ao x hx⟩ fun _ _ h=>h
 have st:=fun {ex : Ex} {t2 : T} {K2 : zAa} (hb : runC (envL prog) (zS0 (envL prog)) ((t.set 8 (pcv w zs.length i)).set 4 (pcv w zs.length i)) (K.set (H.length + 3) (CutL .busy t)) = some (ex,t2,K2)) (h2 : K2[H.length + 3]? = some (CutL .busy t)) =>
  zEz (P:=prog) (l:=H.length + 3) (args:=[pcv w zs.length i]) (K:=K) (eaq49x0 _) (ebq49x0 _) y.lp rfl (t1:=(t.set 8 (pcv w zs.length i)).set 4 (pcv w zs.length i)) (by
   unfold aq49x0
   simp -implicitDefEqProofs (maxSteps:=5000000) only [go_sem,simprocAttr,zBq,zC2,ht,List.length_set,Nat.reduceLT]) hb h2
 generalize hK1 : K.set (H.length + 3) (CutL .busy t) = K1 at *
 generalize hV : pcv w zs.length i = V at *
 have pl : ((zs.drop (48 * i)).take 48).length ≤ 48:=by simp; omega
 have sp:=zWk b ok hi
 have sv : Src 1 (K1 ++ [.rw (u8s (List.replicate 48 0))]) V ((zs.drop (48 * i)).take 48).length (u8s ((zs.drop (48 * i)).take 48)):=by rw [← hV]; exact (zWk bs1 ok hi).adds _
 obtain ⟨G,cp,hG⟩:=copy_at (d:=ty 1 false 1 [.int .u8 0]) rfl (H:=K1 ++ [.rw (u8s (List.replicate 48 0))]) (b:=K1.length) (off:=0) (len:=48) (c:=48) (e:=true) (ys:=List.replicate 48 0) (by simp) (by simp; omega) pl sv
 have ep : (List.replicate 48 (0 : Int)).take 0 ++ (zs.drop (48 * i)).take 48 ++ (List.replicate 48 (0 : Int)).drop (0 + ((zs.drop (48 * i)).take 48).length) = zC8 zs i:=by
  unfold zC8 padS
  rw [List.take_zero,List.nil_append,Nat.zero_add,List.drop_replicate]
 rw [ep] at hG
 have hG2 : G = K1 ++ [.rw (u8s (zC8 zs i))]:=by
  rw [hG,List.set_append_right _ _ (Nat.le_refl _),Nat.sub_self]; rfl
 have sA:=zCu (n:=48) (b:=K1.length) (off:=0) (H:=K1 ++ [.rw (u8s (List.replicate 48 0))]) (cs:=u8s (List.replicate 48 0)) (by unfold cellsOf; simp) (by rw [zAd]; simp)
 have zr : rep 48 (.int .u8 0) = u8s (List.replicate 48 0):=zKp 48 0
 have cG : cellsOf G K1.length = some (u8s (zC8 zs i)):=by rw [hG2]; unfold cellsOf; simp
 have pl48:=zIx zs i
 have gG : GR 48 (G ++ [.rw (u8s (zC8 zs i))]) (H.length + 4) l (cutR zs i):=by
  rw [hG2,List.append_assoc]; exact g1.mono _
 obtain ⟨l',K2,ha,g2,fr,sl',l2,c1,c2⟩:=zQr (k:=48) (by omega) (d:=ty 48 true 48 (rep 48 (.int .u8 0))) rfl (by decide) (s:=G.length) (r:=u8s (zC8 zs i)) gG (cutR_48 zs i) (by unfold cellsOf; simp) (by rw [zAd,pl48]) (zAo _) (by rw [zSo]; unfold roomy; show (_ + 1) * 48 ≤ _; omega) (by rw [List.length_append,hG2,List.length_append]; simp; omega)
 rw [← zPt] at g2
 have Gl : G.length = K1.length + 1:=by rw [hG2]; simp
 have oldK : ∀ b,b < K1.length → slb l ≠ some b → K2[b]? = K1[b]?:=fun b hb hne=>by
  rw [fr.2 b (by rw [List.length_append]; omega) hne,List.getElem?_append_left (by omega),hG2,List.getElem?_append_left hb]
 have lo : ∀ b,slb l = some b → H.length + 4 ≤ b:=fun b hb=>(g1.out b hb).1
 have k0 : K2[H.length]? = some (.rw [l]):=by rw [oldK _ (by omega) fun h=>by have:=lo _ h; omega]; exact a0
 have wr:=zJ8 (K:=K2) (b:=H.length) (x:=l) (y:=l') k0 c2
 have cG0 : cellsOf G H.length = some [l]:=by rw [hG2]; exact zAy (zAj a0)
 have l48 : ((48 : Nat) : Int) = 48:=rfl
 have rb : ∀ X : List AV,X.length = 48 → zHp (u8s (List.replicate 48 0)) [(0,48,.agg X)] = some X:=fun X hX=>by
  rw [zId,zFt]
  simp only [Option.bind_some]
  rw [if_pos ⟨hX,by rw [zAd]; simp⟩,zJ2,zAs _ _ _ (by omega),hX]
  simp [u8s]
 have rb1:=rb _ (by rw [zAd]; exact pl48)
 have hp48 : (u8s (zC8 zs i)).length = 48:=by rw [zAd]; exact pl48
 have tk : (u8s (zC8 zs i)).take 48 = u8s (zC8 zs i):=List.take_of_length_le (by omega)
 have ob : Outs (runC (envL prog) (zS0 (envL prog)) ((t.set 8 V).set 4 V) K1) fun e _ K'=>e = .normal ∧ K' = K2.set H.length (.rw [l']):=by
  unfold zS0
  generalize u8s (List.replicate 48 0) = Z at *
  generalize u8s (zC8 zs i) = R at *
  rw [zr,Gl] at ha
  simp -implicitDefEqProofs (maxSteps:=5000000) only [go_sem,simprocAttr,zC2,ht,h3,List.length_set,Nat.reduceLT,zr,sA,cp,cG0,cG,hp48,tk,rb1,Gl,ha,zAw,c1,wr,zAc]
 obtain ⟨e,t2,K',er,rfl,rfl⟩:=ob
 have e1:=st er (by rw [zAf _ _ _ _ (by omega),oldK _ (by omega) fun h=>by have:=lo _ h; omega]; exact a3)
 simp only [Ex.isNormal,if_true] at e1
 have k2 : ((K2.set H.length (.rw [l'])).set (H.length + 3) (CutL .ready t))[H.length]? = some (.rw [l']):=by rw [zAf _ _ _ _ (by omega),zA4 _ _ _ (zAl k0)]
 have L2 : K.length < K2.length:=by rw [l2,List.length_append,Gl,K1l]; omega
 have far : ∀ b,b < H.length + 4 → b ≠ H.length → b ≠ H.length + 3 → ((K2.set H.length (.rw [l'])).set (H.length + 3) (CutL .ready t))[b]? = K1[b]?:=fun b hb h1 h2=>by
  rw [zAf _ _ _ _ h2,zAf _ _ _ _ h1]
  exact oldK b (by omega) fun h=>by have:=lo _ h; omega
 refine ⟨(K2.set H.length (.rw [l'])).set (H.length + 3) (CutL .ready t),⟨fun b hb=>?_,by simp; omega,⟨l',k2,?_⟩,?_,?_,?_⟩,e1.trans ?_⟩
 ·rw [far b (by omega) (by omega) (by omega)]; exact ao b hb
 ·refine g2.frS (F:=fun b=>b < H.length + 4) ⟨by simp,fun b hb hn=>?_⟩ fun b hb=>by have:=(g2.out b hb).1; omega
  rw [zAf _ _ _ _ (by omega),zAf _ _ _ _ (by omega)]
 ·rw [far _ (by omega) (by omega) (by omega)]; exact a1
 ·rw [far _ (by omega) (by omega) (by omega)]; exact a2
 ·exact zA4 _ _ _ (by simp; omega)
 ·refine zEb H.length (.rw [l]) (.rw [l']) l' hl k2 (by simp [ABlk.vals]) ?_ ?_
  ·rcases g2.under with ⟨h,_⟩ | _
   ·rw [zPt] at h; simp at h
   ·cases l' with
    | sl b' o z n c e =>
     injection sl' with sl'
     simp only [AV.under,decide_eq_false_iff_not]
     rw [sl',List.length_append,Gl,K1l]; omega
    | _=>cases sl'
  ·intro c hc
   simp only [ABlk.vals,List.mem_cons,List.not_mem_nil,or_false] at hc
   subst hc
   rcases g with ⟨_,rfl⟩ | ⟨_,b,_,rfl,h⟩
   ·rfl
   ·simp only [AV.under,decide_eq_true_eq]; exact zAl h
set_option maxHeartbeats 4000000 in
theorem cutC {H : zAa} {w : AV} {zs : List Int} (b : BS H w zs) (ok : zDz w) (hu : IsU8 zs) (hn : zs.length ≤ 100000) : ∃ l K,Adds H K ∧ GR 48 K H.length l ((cutS zs).map u8s) ∧ (envL prog).call 49 [w] H = some (l,K):=by
 have hw:=b.len
 have hcw : zA7 w = some [w]:=b.is.cells
 have hs : w = .nilSl ∧ zs.length = 0 ∨ ∃ b o c e,w = .sl b o 1 zs.length c e ∧ zs.length ≤ c:=by
  rcases b with ⟨rfl,rfl⟩ | ⟨b,o,l,e,cs,rfl,_⟩
  ·exact .inl ⟨rfl,rfl⟩
  ·exact .inr ⟨b,o,l,e,rfl,ok _ _ _ _ _ _ rfl⟩
 have it : ∀ t : T,(t.length = 17 ∧ getT t 3 = .ptr H.length 0) → ∃ K,(envL prog).call 127 [.yld (H.length + 3),.ptr (H.length + 1) 0,.ptr (H.length + 2) 0] (H ++ [.rw [.nilSl],.rw [w],.rw [.int .i64 48],CutL .ready t]) = some (.tup [],K) ∧ CutY H w zs .ready t (zB1 zs.length) K:=by
  rintro t ⟨ht,h3⟩
  have hY : zY5 (H.length + 3) (H.length + 1) (H.length + 2) w zs.length (CutY H w zs .ready t):=fun i K y=>⟨zAj y.pw,zAj y.pn,fun hi=>cutRound b ok hu hn ht h3 hi y⟩
  have y0 : CutY H w zs .ready t 0 (H ++ [.rw [.nilSl],.rw [w],.rw [.int .i64 48],CutL .ready t]):=⟨fun b hb=>List.getElem?_append_left hb,by simp,⟨.nilSl,by simp,.inl ⟨rfl,rfl⟩⟩,by simp,by simp,by simp⟩
  obtain ⟨K',yk,e⟩:=chunkC hY hw hs (by omega) y0
  have LH : (H ++ [.rw [.nilSl],.rw [w],.rw [.int .i64 48],CutL .ready t]).length = H.length + 4:=by simp
  obtain ⟨l,hl,g⟩:=yk.out
  by_cases h0 : zs.length = 0
  ·have tr : K' = H ++ [.rw [.nilSl],.rw [w],.rw [.int .i64 48],CutL .ready t] ∨ ∃ K'',trim (H ++ [.rw [.nilSl],.rw [w],.rw [.int .i64 48],CutL .ready t]) (some (.tup [],K')) = some (.tup [],K'') ∧ CutY H w zs .ready t (zB1 zs.length) K'':=by
    rcases zKc (H ++ [.rw [.nilSl],.rw [w],.rw [.int .i64 48],CutL .ready t]) (.tup []) K' with ⟨_,q⟩ | q
    ·have hp : zB1 zs.length = 0:=by unfold zB1; omega
     rw [hp] at g yk ⊢
     refine .inr ⟨_,q,?_⟩
     rw [LH]
     have tk : ∀ b,b < H.length + 4 → (K'.take (H.length + 4))[b]? = K'[b]?:=fun b hb=>zEp hb
     have lz : l = .nilSl:=by
      rcases g with ⟨_,h⟩ | ⟨h,_⟩
      ·exact h
      ·exact absurd rfl h
     exact ⟨fun b hb=>(tk b (by omega)).trans (yk.old b hb),by have:=yk.len; rw [List.length_take]; omega,⟨.nilSl,by rw [tk _ (by omega),hl,lz],.inl ⟨rfl,rfl⟩⟩,(tk _ (by omega)).trans yk.pw,(tk _ (by omega)).trans yk.pn,(tk _ (by omega)).trans yk.lp⟩
    ·exact .inr ⟨_,q,yk⟩
   rcases tr with q | ⟨K'',q,y⟩
   ·subst q
    exact ⟨_,e.trans (zB8 rfl),yk⟩
   ·exact ⟨_,e.trans q,y⟩
  ·refine ⟨K',e.trans ?_,yk⟩
   refine zEb H.length (.rw [.nilSl]) (.rw [l]) l (by simp) hl (by simp [ABlk.vals]) ?_ ?_
   ·rw [LH]
    rcases g.under with ⟨h,_⟩ | h
    ·have:=zSo zs (zB1 zs.length); rw [h] at this; unfold zB1 at this; simp at this; omega
    ·exact h
   ·intro c hc
    simp only [ABlk.vals,List.mem_cons,List.not_mem_nil,or_false] at hc
    subst hc; rfl
 obtain ⟨KK,hKK⟩:=zJy it
 have e1:=fun t h1 h2=>(hKK t ⟨h1,h2⟩).1
 have e2:=fun t h1 h2=>(hKK t ⟨h1,h2⟩).2.lp
 obtain ⟨LL,hLL⟩:=zRq fun t ht=>(hKK t ht).2.out
 have e3 : ∀ t,t.length = 17 → getT t 3 = .ptr H.length 0 → cellsOf ((KK t).set (H.length + 3) (CutL .exhausted t)) H.length = some [LL t]:=fun t h1 h2=>by
  rw [zBj _ _ _ _ (by omega)]; exact zAj (hLL t ⟨h1,h2⟩).1
 have l0:=fun B=>chunk0 hcw 48 (by omega) (H ++ B)
 have o : Outs (runC (envL prog) (b49 (envL prog)) ([w] ++ List.replicate (17 - [w].length) .undef) H) fun e' t K=>(∃ t' : T,(t'.length = 17 ∧ getT t' 3 = .ptr H.length 0) ∧ K = (KK t').set (H.length + 3) (CutL .exhausted t') ∧ fin [.tmp 2] (some (e',t,K)) = some (LL t',K)):=by
  unfold b49
  generalize hQ : (fun (e' : Ex) (t : T) (K : zAa)=>∃ t' : T,(t'.length = 17 ∧ getT t' 3 = .ptr H.length 0) ∧ K = (KK t').set (H.length + 3) (CutL .exhausted t') ∧ fin [.tmp 2] (some (e',t,K)) = some (LL t',K)) = Q
  simp -implicitDefEqProofs (maxSteps:=5000000) only [go_sem,simprocAttr,l0,zDe,zF7,e1,zCr,e2,e3,zAc]
  subst hQ
  refine ⟨_,⟨rfl,rfl⟩,rfl,?_⟩
  simp -implicitDefEqProofs (maxSteps:=5000000) only [go_sem,simprocAttr]
 obtain ⟨e',t,K,hr,⟨t',ht,rfl,hf⟩⟩:=o
 obtain ⟨_,y⟩:=hKK t' ht
 obtain ⟨_,g⟩:=hLL t' ht
 have yl:=y.len
 have g2 : GR 48 ((KK t').set (H.length + 3) (CutL .exhausted t')) H.length (LL t') ((cutS zs).map u8s):=(g.frS (Fr.set (F:=(· = H.length + 3)) (KK t') (CutL .exhausted t') rfl) fun b hb=>by have:=(g.out b hb).1; omega).low (by omega)
 have ad : Adds H ((KK t').set (H.length + 3) (CutL .exhausted t')):=Adds.of_get (by simp; omega) fun b hb=>by rw [zAf _ _ _ _ (by omega)]; exact y.old b hb
 obtain ⟨K',a',g',et⟩ : ∃ K',Adds H K' ∧ GR 48 K' H.length (LL t') ((cutS zs).map u8s) ∧ trim H (some (LL t',(KK t').set (H.length + 3) (CutL .exhausted t'))) = some (LL t',K'):=by
  rcases g2.under with ⟨h,h'⟩ | h
  ·rw [h,h']
   exact ⟨H,Adds.refl H,.inl ⟨rfl,rfl⟩,ad.trimS rfl⟩
  ·exact ⟨_,ad,g2,zBa h⟩
 exact ⟨LL t',K',a',g',by rw [c49,hr,hf]; exact et⟩
end Go.Proofs.YtbmmnfeeapnhkaaGreat.G08
end
section
namespace Go.Proofs.YtbmmnfeeapnhkaaGreat.G08.Bt
open Go Go.Proofs.YtbmmnfeeapnhkaaGreat.Eng
def Own (H : zAa) (v : AV) (G : zAa) (zs : List Int) : Prop :=
 (zs = [] ∧ ((v = .nilSl ∧ G = []) ∨ (v = .sl H.length 0 1 0 0 true ∧ G = [.rw []]))) ∨ (zs ≠ [] ∧ v = .sl (H.length + 1) 0 1 zs.length zs.length false ∧ G = [.rw [],.rw (u8s zs)])
theorem Own.bs {H : zAa} {v : AV} {G : zAa} {zs : List Int} (h : Own H v G zs) : BS (H ++ G) v zs:=by
 rcases h with ⟨rfl,⟨rfl,rfl⟩ | ⟨rfl,rfl⟩⟩ | ⟨_,rfl,rfl⟩
 ·exact BS.nil _
 ·exact BS.block (zs:=[]) (b:=H.length) (by simp [u8s])
 ·exact BS.block (by simp)
theorem app_copy {H : zAa} {v : AV} {zs : List Int} (b : BS H v zs) (hn : zs.length ≤ 100000) : ∃ v' G,Own H v' G zs ∧ v' ≠ .nilSl ∧ app (ty 1 false 1 [.int .u8 0]) (.sl H.length 0 1 0 0 true) v (H ++ [.rw []]) = some (v',H ++ G):=by
 have hr:=(b.mono [.rw []]).read
 by_cases h0 : zs = []
 ·subst h0
  refine ⟨.sl H.length 0 1 0 0 true,[.rw []],.inl ⟨rfl,.inr ⟨rfl,rfl⟩⟩,by simp,?_⟩
  unfold app
  rw [hr.1]
  simp only [Option.bind_some,show (ty 1 false 1 [AV.int .u8 0]).size = 1 from rfl]
  have h2:=hr.2
  simp only [List.length_nil] at h2 ⊢
  rw [h2]
  rfl
 ·have hpos : 0 < zs.length:=List.length_pos_iff.2 h0
  refine ⟨.sl (H.length + 1) 0 1 zs.length zs.length false,[.rw [],.rw (u8s zs)],.inr ⟨h0,rfl,rfl⟩,by simp,?_⟩
  unfold app
  rw [hr.1]
  simp only [Option.bind_some,show (ty 1 false 1 [AV.int .u8 0]).size = 1 from rfl,hr.2]
  unfold zDd
  simp only [show (ty 1 false 1 [AV.int .u8 0]).size = 1 from rfl,show (ty 1 false 1 [AV.int .u8 0]).bytes = 1 from rfl]
  have h1 : ¬ ((1 : Nat) ≠ 1 ∨ (1 : Nat) = 0):=by simp
  have h3 : ¬ (0 + zs.length ≤ 0):=by omega
  have h4 : 1 ≤ 1 ∧ (0 + zs.length) * 1 ≤ roomy:=⟨by omega,by unfold roomy; omega⟩
  rw [if_neg h1,if_neg (by omega),if_neg h3,if_pos h4]
  have hz : zC6 (H ++ [.rw []]) H.length 0 (0 * 1) = some []:=by unfold zC6 cellsOf; simp
  rw [hz]
  simp
theorem cloneC {H : zAa} {v : AV} {zs : List Int} (b : BS H v zs) (hn : zs.length ≤ 100000) : ∃ v' G,Own H v' G zs ∧ (envL prog).call 48 [v] H = some (v',H ++ G):=by
 by_cases hv : v = .nilSl
 ·subst hv
  have hz : zs = []:=by
   rcases b with ⟨_,h⟩ | ⟨_,_,_,_,_,h,_⟩
   ·exact h
   ·cases h
  subst hz
  refine ⟨.nilSl,[],.inl ⟨rfl,.inl ⟨rfl,rfl⟩⟩,?_⟩
  rw [c48]
  unfold b48
  simp -implicitDefEqProofs (maxSteps:=5000000) only [go_sem,simprocAttr,go_sem]
 ·obtain ⟨v',G,o,hne,ha⟩:=app_copy b hn
  refine ⟨v',G,o,?_⟩
  have e : binV .eql .slice v .nilSl = some (.bool false):=by
   rcases b.is with rfl | ⟨_,_,_,_,_,_,rfl⟩
   ·exact absurd rfl hv
   ·rfl
  have u : v'.under H.length = false:=by
   rcases o with ⟨_,⟨rfl,_⟩ | ⟨rfl,_⟩⟩ | ⟨_,rfl,_⟩
   ·exact absurd rfl hne
   ·simp [AV.under]
   ·simp [AV.under]
  rw [c48]
  unfold b48
  simp -implicitDefEqProofs (maxSteps:=5000000) only [go_sem,simprocAttr,go_sem,e,ha,zBa,u]
end Go.Proofs.YtbmmnfeeapnhkaaGreat.G08.Bt
namespace Go.Proofs.YtbmmnfeeapnhkaaGreat.G08
open Go Go.Proofs.YtbmmnfeeapnhkaaGreat.Eng
theorem sl_to {sz b off len cp u : Nat} {ex : Bool} (h2 : u ≤ cp) : zDa sz (.sl b off sz len cp ex) none (some (.int .i64 (u : Int))) none = some (.sl b off sz u cp ex):=by
 simp [zDa,asI,h2]
noncomputable abbrev rdV (B k N : Nat) : AV:=.sl B k 1 (N - k) (N - k) false
structure RdS (K : zAa) (p B k : Nat) (zs : List Int) : Prop where
 pt : K[p]? = some (.rw [rdV B k zs.length])
 bt : K[B]? = some (.rw (u8s zs))
 ne : p ≠ B
theorem RdS.next {K : zAa} {p B k m : Nat} {zs : List Int} (r : RdS K p B k zs) : RdS (K.set p (.rw [rdV B m zs.length])) p B m zs:=⟨zA4 _ _ _ (zAl r.pt),by rw [zAf _ _ _ _ fun e=>r.ne e.symm]; exact r.bt,r.ne⟩
theorem RdS.piece {K : zAa} {p B k m c : Nat} {zs : List Int} (r : RdS K p B k zs) (h : k + m ≤ zs.length) : BS K (.sl B k 1 m c false) ((zs.drop k).take m):=by
 have hl : ((zs.drop k).take m).length = m:=by rw [List.length_take,List.length_drop]; omega
 refine .inr ⟨B,k,c,false,u8s zs,by rw [hl],zAj r.bt,fun i z hz=>?_,by rw [hl,zAd]; omega⟩
 rw [List.getElem?_take] at hz
 split at hz
 ·rw [List.getElem?_drop] at hz
  unfold u8s
  rw [List.getElem?_map,hz]; rfl
 ·cases hz
theorem zWm {K : zAa} {w : AV} {G : zAa} {ys : List Int} (o : Bt.Own K w G ys) (h : ys ≠ []) : w = .sl (K.length + 1) 0 1 ys.length ys.length false ∧ G = [.rw [],.rw (u8s ys)]:=by
 rcases o with ⟨h0,_⟩ | ⟨_,h⟩
 ·exact absurd h0 h
 ·exact h
section
variable {K : zAa} {p B k m : Nat} {zs : List Int} (r : RdS K p B k zs) (h : k + m ≤ zs.length) (hm : 1 ≤ m) (hz : zs.length ≤ 100000)
include r h hm hz
theorem takeC : ∃ w G,w = .sl (K.length + 1) 0 1 m m false ∧ G = [ABlk.rw [],.rw (u8s ((zs.drop k).take m))] ∧ (envL prog).call 145 [.ptr p 0,.int .i64 (m : Int)] K = some (.tup [w,.bool true],(K ++ G).set p (.rw [rdV B (k + m) zs.length])):=by
 have hl : ((zs.drop k).take m).length = m:=by rw [List.length_take,List.length_drop]; omega
 have cp:=zAj r.pt
 have lp:=zAl r.pt
 have el : (envL prog).call 147 [.ptr p 0] K = some (.int .i64 ((zs.length - k : Nat) : Int),K):=by
  rw [c147]
  unfold b147
  simp -implicitDefEqProofs (maxSteps:=5000000) only [go_sem,simprocAttr,itr,itq,cp]
 have d0 : decide ((m : Int) < 0) = false:=decide_eq_false (by omega)
 have d1 : decide ((m : Int) > ((zs.length - k : Nat) : Int)) = false:=decide_eq_false (by omega)
 have s1:=sl_to (sz:=1) (b:=B) (off:=k) (len:=zs.length - k) (cp:=zs.length - k) (ex:=false) (u:=m) (by omega)
 have s2:=zVg (sz:=1) (b:=B) (off:=k) (len:=zs.length - k) (cp:=zs.length - k) (ex:=false) (i:=m) (by omega) (by omega)
 obtain ⟨w,G,o,ec⟩:=Bt.cloneC (r.piece (c:=zs.length - k) h) (by rw [hl]; omega)
 obtain ⟨hw,hG⟩:=zWm o (fun e=>by have:=congrArg List.length e; rw [hl] at this; simp at this; omega)
 rw [hl] at hw
 have hb : (K ++ G)[p]? = some (.rw [rdV B k zs.length]):=by rw [List.getElem?_append_left lp]; exact r.pt
 have cpG:=zAj hb
 have er : AV.sl B (k + m * 1) 1 (zs.length - k - m) (zs.length - k - m) false = rdV B (k + m) zs.length:=by rw [Nat.mul_one,Nat.sub_sub]
 rw [er] at s2
 have wr : zAz (K ++ G) p 0 [rdV B (k + m) zs.length] = some ((K ++ G).set p (.rw [rdV B (k + m) zs.length])):=by
  rw [zAv hb,if_pos ⟨by simp,rfl⟩]; rfl
 have cr : zA7 (rdV B (k + m) zs.length) = some [rdV B (k + m) zs.length]:=rfl
 refine ⟨w,G,hw,hG,?_⟩
 have tr : ∀ X,trim K (some (AV.tup [w,.bool true],X)) = some (.tup [w,.bool true],X):=fun X=>zBa (by rw [hw]; simp [AV.under,zAt])
 generalize rdV B (k + m) zs.length = nv at *
 rw [c145]
 unfold b145
 simp -implicitDefEqProofs (maxSteps:=5000000) only [go_sem,simprocAttr,itr,itq,el,d0,d1,cp,s1,ec,cpG,s2,zAw,cr,wr,tr]
theorem set_take {X : ABlk} {G : zAa} : ((K ++ G).set p X).take K.length = K.set p X:=by
 have lp:=zAl r.pt
 rw [List.set_append_left _ _ lp,List.take_append_of_le_length (by simp),List.take_of_length_le (by simp)]
theorem numC (h8 : m ≤ 8) (hu : IsU8 zs) : (envL prog).call 138 [.ptr p 0,.int .i64 (m : Int)] K = some (.tup [.int .u64 (getS ((zs.drop k).take m)),.bool true],K.set p (.rw [rdV B (k + m) zs.length])):=by
 obtain ⟨w,G,hw,hG,et⟩:=takeC r h hm hz
 have hl : ((zs.drop k).take m).length = m:=by rw [List.length_take,List.length_drop]; omega
 have lp:=zAl r.pt
 obtain ⟨K1,hK1⟩ : ∃ K1,K1 = (K ++ G).set p (.rw [rdV B (k + m) zs.length]):=⟨_,rfl⟩
 have bw : BS K1 w ((zs.drop k).take m):=by
  have:=BS.block (H:=K1) (b:=K.length + 1) (zs:=(zs.drop k).take m) (l:=m) (e:=false) (by rw [hK1,zAf _ _ _ _ (by omega),hG]; simp)
  rw [hl] at this
  rw [hw]; exact this
 have eg:=getC bw (fun y hy=>hu y (List.mem_of_mem_drop (List.mem_of_mem_take hy))) (by omega) (fun b o s n l e he=>by rw [hw] at he; injection he; omega)
 rw [← hK1] at et
 have tr : trim K (some (AV.tup [.int .u64 (getS ((zs.drop k).take m)),.bool true],K1)) = some (.tup [.int .u64 (getS ((zs.drop k).take m)),.bool true],K.set p (.rw [rdV B (k + m) zs.length])):=by
  rw [zE1 (by rw [hK1]; simp) rfl (fun b k' hb hk=>?_)]
  ·rw [hK1,set_take r h hm hz]
  ·rw [hK1] at hk
   by_cases e : b = p
   ·subst e
    rw [zA4 _ _ _ (by simp; omega)] at hk
    injection hk with hk
    refine .inr fun x hx=>?_
    rw [← hk] at hx
    simp only [ABlk.vals,List.mem_cons,List.not_mem_nil,or_false] at hx
    subst hx
    simp [AV.under]; exact zAl r.bt
   ·rw [zAf _ _ _ _ e,List.getElem?_append_left hb] at hk
    exact .inl hk
 rw [c138]
 unfold b138
 simp -implicitDefEqProofs (maxSteps:=5000000) only [go_sem,simprocAttr,itr,itq,et,eg,tr]
theorem dec1C (h8 : m ≤ 7) (hu : IsU8 zs) {c : Nat} (hc : cellsOf K c = some [.ptr p 0]) : (envL prog).call 137 [.int .i64 (m : Int),.ptr c 0] K = some (.int .i64 (getS ((zs.drop k).take m)),K.set p (.rw [rdV B (k + m) zs.length])):=by
 have en:=numC r h hm hz (by omega) hu
 have gl:=zF1 (zs:=(zs.drop k).take m) fun y hy=>hu y (List.mem_of_mem_drop (List.mem_of_mem_take hy))
 have hl : ((zs.drop k).take m).length = m:=by rw [List.length_take,List.length_drop]; omega
 rw [hl] at gl
 have pw : (256 : Int) ^ m ≤ 256 ^ 7:=by
  have:=Nat.pow_le_pow_right (show 0 < 256 by omega) h8
  exact_mod_cast this
 have w : IntKind.i64.wrap (getS ((zs.drop k).take m)) = getS ((zs.drop k).take m):=zAq (by omega) (by omega)
 rw [c137]
 unfold b137
 simp -implicitDefEqProofs (maxSteps:=5000000) only [go_sem,simprocAttr,itr,itq,hc,en,w]
end
theorem newRdC {H : zAa} {v : AV} {zs : List Int} (b : BS H v zs) (h0 : zs ≠ []) (hn : zs.length ≤ 100000) : (envL prog).call 136 [v] H = some (.ptr (H.length + 2) 0,H ++ [.rw [],.rw (u8s zs),.rw [rdV (H.length + 1) 0 zs.length]]) ∧ RdS (H ++ [.rw [],.rw (u8s zs),.rw [rdV (H.length + 1) 0 zs.length]]) (H.length + 2) (H.length + 1) 0 zs:=by
 obtain ⟨w,G,o,ec⟩:=Bt.cloneC b hn
 obtain ⟨rfl,rfl⟩:=zWm o h0
 refine ⟨?_,⟨by simp,by simp,by omega⟩⟩
 have tr : ∀ X,trim H (some (AV.ptr (H.length + 2) 0,X)) = some (.ptr (H.length + 2) 0,X):=fun X=>zBa (by simp [AV.under])
 have ez : rdV (H.length + 1) 0 zs.length = .sl (H.length + 1) 0 1 zs.length zs.length false:=by unfold rdV; simp
 rw [ez]
 rw [c136]
 unfold b136
 simp -implicitDefEqProofs (maxSteps:=5000000) only [go_sem,simprocAttr,itr,itq,ec,tr]
end Go.Proofs.YtbmmnfeeapnhkaaGreat.G08
end
section
namespace Go.Proofs.YtbmmnfeeapnhkaaGreat.G08
open Go Go.Proofs.YtbmmnfeeapnhkaaGreat.Eng
structure GmS.Fit (g : GmS) : Prop where
 b : 0 ≤ g.b ∧ g.b < 65536
 s : 0 ≤ g.s ∧ g.s < 256
 w : 0 ≤ g.w ∧ g.w < 256
 a : 0 ≤ g.a ∧ g.a < 65536
 r : 0 ≤ g.r ∧ g.r < 65536
structure PtS.Fit (p : PtS) : Prop where
 g : p.g.Fit
 gen : 0 ≤ p.gen ∧ p.gen < 4294967296
 at_ : 0 ≤ p.at_ ∧ p.at_ < 65536
 seq : 0 ≤ p.seq ∧ p.seq < 4294967296
def zKe (p : PtS) : List Int:=[82,86,84,49] ++ putS 2 p.g.b ++ putS 1 p.g.s ++ putS 1 p.g.w ++ putS 2 p.g.a ++ putS 2 p.g.r ++ putS 2 p.at_ ++ putS 4 p.seq
theorem zL0 (p : PtS) : (zKe p).length = 18:=by simp [zKe,zC7]
theorem zM5 (p : PtS) : zKf p = zKe p ++ List.replicate 30 0:=rfl
theorem zIt (p : PtS) : (zKf p).length = 48:=by rw [zM5,List.length_append,zL0]; simp
theorem zVc (p : PtS) : IsU8 (zKe p):=by
 intro z hz
 simp only [zKe,List.mem_append,List.mem_cons,List.not_mem_nil,or_false] at hz
 rcases hz with ((((((hz | hz) | hz) | hz) | hz) | hz) | hz) | hz
 ·rcases hz with rfl | rfl | rfl | rfl <;> omega
 all_goals exact zKr _ _ z hz
theorem zTc (p : PtS) : B48 (zKf p):=⟨zIt p,fun z hz=>by
 rw [zM5] at hz
 rcases List.mem_append.1 hz with hz | hz
 ·exact zVc p z hz
 ·rw [(List.mem_replicate.1 hz).2]; omega⟩
theorem zKd {p : PtS} (h : 0 ≤ p.gen ∧ p.gen < 4294967296) : (zEk p).Ok:=⟨by show (0 : Int) ≤ 83 ∧ (83 : Int) ≤ 255; omega,h,by show (-9223372036854775808 : Int) ≤ 0 ∧ (0 : Int) ≤ _; omega,zTc p⟩
theorem copy_row {d : TyD} (hd : d.size = 1) {H : zAa} {b k len c : Nat} {e : Bool} {X : List AV} {ys zs : List Int} {y : AV} (hb : H[b]? = some (.rw (X ++ u8s ys))) (hk : X.length = k) (hl : zs.length ≤ ys.length) (hm : zs.length ≤ len) (h2 : 2 ≤ zs.length) (s : Src 1 H y zs.length (u8s zs)) :
  zJc d (.sl b k 1 len c e) y H = some (.int .i64 (zs.length : Int),H.set b (.rw (X ++ u8s (zs ++ ys.drop zs.length)))):=by
 have hmin : min zs.length len = zs.length:=by omega
 unfold zJc
 rw [s.sl]
 simp only [Option.bind_some,hd,hmin,s.cells]
 rw [if_neg (by simp),if_neg (by omega)]
 have w : zAz H b k (u8s zs) = some (H.set b (.rw (X ++ u8s (zs ++ ys.drop zs.length)))):=by
  rw [zAv hb,if_pos ⟨by rw [List.length_append,zAd,zAd]; omega,zAo zs⟩]
  congr 3
  rw [zAs _ _ _ (by rw [zAd]; omega),zAd,← hk,List.take_left,List.drop_append,List.drop_of_length_le (by omega),List.nil_append,Nat.add_sub_cancel_left]
  simp [u8s]
 rw [w]
 rfl
theorem zFu {n : Int} (h : 0 ≤ n ∧ n < 4294967296) : IntKind.u64.wrap n = n:=zEa h.1 (by omega)
set_option maxHeartbeats 8000000 in
theorem zVd {p : PtS} (f : p.Fit) (H : zAa) : (envL prog).call 62 [.agg p.cells] H = some (.agg (zEk p).cells,H):=by
 have sbF:=zM5 p
 have sfl:=zL0 p
 have sbl:=zIt p
 have sfD : zKe p = [82,86,84,49] ++ putS 2 p.g.b ++ putS 1 p.g.s ++ putS 1 p.g.w ++ putS 2 p.g.a ++ putS 2 p.g.r ++ putS 2 p.at_ ++ putS 4 p.seq:=rfl
 have eP : (zEk p).cells = .int .u8 83 :: .int .u32 p.gen :: .int .i64 0 :: u8s (zKf p):=rfl
 rw [eP]
 generalize zKf p = SB at *
 generalize zKe p = SF at *
 obtain ⟨⟨b,s,w,a,r⟩,gen,at_,seq⟩:=p
 obtain ⟨⟨fb,fs,fw,fa,fr⟩,fg,ft,fq⟩:=f
 simp only at *
 unfold PtS.cells GmS.cells
 have wb:=zFu (n:=b) (by omega)
 have ws:=zFu (n:=s) (by omega)
 have ww:=zFu (n:=w) (by omega)
 have wa:=zFu (n:=a) (by omega)
 have wr:=zFu (n:=r) (by omega)
 have wt:=zFu (n:=at_) (by omega)
 have wq:=zFu (n:=seq) (by omega)
 have zl : zA2.length = 48:=zB7.1
 obtain ⟨K0,hK0⟩ : ∃ K0 : zAa,K0 = H ++ [.rw [.int .i64 b,.int .i64 s,.int .i64 w,.int .i64 a,.int .i64 r,.int .u32 gen,.int .i64 at_,.int .u32 seq],.rw (.int .u8 0 :: .int .u32 0 :: .int .i64 0 :: u8s zA2),.rw (.int .u8 83 :: .int .u32 gen :: .int .i64 0 :: u8s zA2),.rw [.int .i64 b,.int .i64 s,.int .i64 w,.int .i64 a,.int .i64 r],.rw [.int .u8 82,.int .u8 86,.int .u8 84,.int .u8 49]]:=⟨_,rfl⟩
 obtain ⟨l1,K1,a1,g1,c1⟩:=putC b (k:=2) (by omega) (by omega) K0
 obtain ⟨l2,K2,a2,g2,c2⟩:=putC s (k:=1) (by omega) (by omega) K1
 obtain ⟨l3,K3,a3,g3,c3⟩:=putC w (k:=1) (by omega) (by omega) K2
 obtain ⟨l4,K4,a4,g4,c4⟩:=putC a (k:=2) (by omega) (by omega) K3
 obtain ⟨l5,K5,a5,g5,c5⟩:=putC r (k:=2) (by omega) (by omega) K4
 obtain ⟨l6,K6,a6,g6,c6⟩:=putC at_ (k:=2) (by omega) (by omega) K5
 obtain ⟨l7,K7,a7,g7,c7⟩:=putC seq (k:=4) (by omega) (by omega) K6
 have x0 : K0[H.length]? = some (.rw [.int .i64 b,.int .i64 s,.int .i64 w,.int .i64 a,.int .i64 r,.int .u32 gen,.int .i64 at_,.int .u32 seq]):=by rw [hK0]; simp
 have y0 : K0[H.length + 2]? = some (.rw (.int .u8 83 :: .int .u32 gen :: .int .i64 0 :: u8s zA2)):=by rw [hK0]; simp
 have z0 : K0[H.length + 3]? = some (.rw [.int .i64 b,.int .i64 s,.int .i64 w,.int .i64 a,.int .i64 r]):=by rw [hK0]; simp
 have m0 : K0[H.length + 4]? = some (.rw [.int .u8 82,.int .u8 86,.int .u8 84,.int .u8 49]):=by rw [hK0]; simp
 have o0 : K0[H.length + 1]? = some (.rw (.int .u8 0 :: .int .u32 0 :: .int .i64 0 :: u8s zA2)):=by rw [hK0]; simp
 have L0 : K0.length = H.length + 5:=by rw [hK0]; simp
 have all : ∀ K,Adds K0 K → cellsOf K H.length = some [.int .i64 b,.int .i64 s,.int .i64 w,.int .i64 a,.int .i64 r,.int .u32 gen,.int .i64 at_,.int .u32 seq] ∧ cellsOf K (H.length + 3) = some [.int .i64 b,.int .i64 s,.int .i64 w,.int .i64 a,.int .i64 r] ∧ K[H.length + 4]? = some (.rw [.int .u8 82,.int .u8 86,.int .u8 84,.int .u8 49]) ∧ zDb 48 1 (.ptr (H.length + 2) 3) none none none K = some (.sl (H.length + 2) 3 1 48 48 true):=fun K ad =>
  ⟨zAj (zB5 ad x0),zAj (zB5 ad z0),zB5 ad m0,zCu (zAj (zB5 ad y0)) (by simp [zAd,zl])⟩
 have b1:=a1
 have b2:=b1.trans a2
 have b3:=b2.trans a3
 have b4:=b3.trans a4
 have b5:=b4.trans a5
 have b6:=b5.trans a6
 have b7:=b6.trans a7
 obtain ⟨K8,hK8⟩ : ∃ K8 : zAa,K8 = K7 ++ [.rw [.sl (H.length + 4) 0 1 4 4 true,l1,l2,l3,l4,l5,l6,l7]]:=⟨_,rfl⟩
 have a8 : Adds K7 K8:=⟨_,hK8⟩
 have b8:=b7.trans a8
 have src : ∀ {K : zAa} {l : AV} {B : Nat} {zs : List Int},Adds K K8 → GB K B l zs → Src 1 K8 l zs.length (u8s zs):=fun ad g=>(ad.bs g.bs).src
 have s1:=src (a2.trans (a3.trans (a4.trans (a5.trans (a6.trans (a7.trans a8)))))) g1
 have s2:=src (a3.trans (a4.trans (a5.trans (a6.trans (a7.trans a8))))) g2
 have s3:=src (a4.trans (a5.trans (a6.trans (a7.trans a8)))) g3
 have s4:=src (a5.trans (a6.trans (a7.trans a8))) g4
 have s5:=src (a6.trans (a7.trans a8)) g5
 have s6:=src (a7.trans a8) g6
 have s7:=src a8 g7
 rw [zC7] at s1 s2 s3 s4 s5 s6 s7
 have sm : Src 1 K8 (.sl (H.length + 4) 0 1 4 4 true) 4 (u8s [82,86,84,49]):=Src.block (zAj (zB5 b8 m0)) rfl rfl
 obtain ⟨l,K9,ho,ec⟩:=zYd (H:=K8) (a:=K7.length) (Xs:=[(.sl (H.length + 4) 0 1 4 4 true,4,u8s [82,86,84,49]),(l1,2,u8s (putS 2 b)),(l2,1,u8s (putS 1 s)),(l3,1,u8s (putS 1 w)),(l4,2,u8s (putS 2 a)),(l5,2,u8s (putS 2 r)),(l6,2,u8s (putS 2 at_)),(l7,4,u8s (putS 4 seq))]) (by rw [hK8]; unfold cellsOf; simp) (by
   intro y hy
   simp only [List.mem_cons,List.not_mem_nil,or_false] at hy
   rcases hy with rfl | rfl | rfl | rfl | rfl | rfl | rfl | rfl
   ·exact sm
   ·exact s1
   ·exact s2
   ·exact s3
   ·exact s4
   ·exact s5
   ·exact s6
   ·exact s7) (by unfold totU; simp) (by simp)
 have et : totU [(.sl (H.length + 4) 0 1 4 4 true,4,u8s [82,86,84,49]),(l1,2,u8s (putS 2 b)),(l2,1,u8s (putS 1 s)),(l3,1,u8s (putS 1 w)),(l4,2,u8s (putS 2 a)),(l5,2,u8s (putS 2 r)),(l6,2,u8s (putS 2 at_)),(l7,4,u8s (putS 4 seq))] = 18:=by unfold totU; simp
 have eb : catU [(.sl (H.length + 4) 0 1 4 4 true,4,u8s [82,86,84,49]),(l1,2,u8s (putS 2 b)),(l2,1,u8s (putS 1 s)),(l3,1,u8s (putS 1 w)),(l4,2,u8s (putS 2 a)),(l5,2,u8s (putS 2 r)),(l6,2,u8s (putS 2 at_)),(l7,4,u8s (putS 4 seq))] = u8s SF:=by
  rw [sfD]
  unfold catU
  simp [u8s]
 rw [et,eb] at ho
 rcases ho with ⟨h0,_⟩ | ⟨_,rfl,hK9⟩
 ·omega
 have ec : (envL prog).call 103 [.sl K7.length 0 1 8 8 true] K8 = some (.sl K8.length 0 1 18 18 false,K9):=ec
 have b9 : Adds K0 K9:=b8.trans ⟨_,hK9⟩
 have sF : Src 1 K9 (.sl K8.length 0 1 18 18 false) SF.length (u8s SF):=by
  rw [sfl,hK9]; exact Src.block (by unfold cellsOf; simp) (by rw [zAd,sfl]) (zAo _)
 have cp:=copy_row (d:=ty 1 false 1 [.int .u8 0]) rfl (H:=K9) (b:=H.length + 2) (k:=3) (len:=48) (c:=48) (e:=true) (X:=[.int .u8 83,.int .u32 gen,.int .i64 0]) (ys:=zA2) (zB5 b9 y0) rfl (by rw [sfl,zl]; omega) (by omega) (by omega) sF
 have ez : SF ++ zA2.drop SF.length = SB:=by rw [sfl,sbF]; rfl
 rw [ez] at cp
 simp only [List.cons_append,List.nil_append] at cp
 obtain ⟨K10,hK10⟩ : ∃ K10,K10 = K9.set (H.length + 2) (.rw (.int .u8 83 :: .int .u32 gen :: .int .i64 0 :: u8s SB)):=⟨_,rfl⟩
 rw [← hK10] at cp
 have c10 : cellsOf K10 (H.length + 2) = some (.int .u8 83 :: .int .u32 gen :: .int .i64 0 :: u8s SB):=by rw [hK10]; exact zAj (zA4 _ _ _ (zAl (zB5 b9 y0)))
 have o10 : K10[H.length + 1]? = some (.rw (.int .u8 0 :: .int .u32 0 :: .int .i64 0 :: u8s zA2)):=by rw [hK10,zAf _ _ _ _ (by omega)]; exact zB5 b9 o0
 have aH : Adds H K10:=by rw [hK10]; exact zD5 (Adds.trans ⟨_,hK0⟩ b9) _ (by omega)
 have sl51 : (AV.int .u8 83 :: .int .u32 gen :: .int .i64 0 :: u8s SB).length = 51:=by simp [zAd,sbl]
 have w10 : zAz K10 (H.length + 1) 0 (.int .u8 83 :: .int .u32 gen :: .int .i64 0 :: u8s SB) = some (K10.set (H.length + 1) (.rw (.int .u8 83 :: .int .u32 gen :: .int .i64 0 :: u8s SB))):=by
  rw [zAv o10,if_pos ⟨by rw [sl51]; simp [zAd,zl],by simp [List.all_cons,AV.isCell]; exact fun x hx=>List.all_eq_true.1 (zAo SB) x hx⟩,zAs _ _ _ (by rw [sl51]; omega),List.take_zero,List.nil_append,List.drop_of_length_le (by rw [sl51]; simp [zAd,zl]),List.append_nil]
 have c11 : cellsOf (K10.set (H.length + 1) (.rw (.int .u8 83 :: .int .u32 gen :: .int .i64 0 :: u8s SB))) (H.length + 1) = some (.int .u8 83 :: .int .u32 gen :: .int .i64 0 :: u8s SB):=zAj (zA4 _ _ _ (zAl o10))
 have t51 : (AV.int .u8 83 :: .int .u32 gen :: .int .i64 0 :: u8s SB).take 51 = .int .u8 83 :: .int .u32 gen :: .int .i64 0 :: u8s SB:=List.take_of_length_le (by omega)
 have fin:=trim_adds (v:=.agg (.int .u8 83 :: .int .u32 gen :: .int .i64 0 :: u8s SB)) (zD5 aH (b:=H.length + 1) (.rw (.int .u8 83 :: .int .u32 gen :: .int .i64 0 :: u8s SB)) (by omega)) (by simp [AV.under,zAt,zE0])
 obtain ⟨p1,q1,r1,t1⟩:=all K1 b1
 obtain ⟨p2,q2,r2,t2⟩:=all K2 b2
 obtain ⟨p3,q3,r3,t3⟩:=all K3 b3
 obtain ⟨p4,q4,r4,t4⟩:=all K4 b4
 obtain ⟨p5,q5,r5,t5⟩:=all K5 b5
 obtain ⟨p6,q6,r6,t6⟩:=all K6 b6
 obtain ⟨p7,q7,r7,t7⟩:=all K7 b7
 obtain ⟨_,_,_,t9⟩:=all K9 b9
 obtain ⟨_,_,_,tA⟩:=all K0 (Adds.refl _)
 have sB0 : zDb 48 1 (.ptr (H.length + 2) 3) none none none (H ++ [.rw [.int .i64 b,.int .i64 s,.int .i64 w,.int .i64 a,.int .i64 r,.int .u32 gen,.int .i64 at_,.int .u32 seq],.rw (.int .u8 0 :: .int .u32 0 :: .int .i64 0 :: u8s zA2),.rw (.int .u8 83 :: .int .u32 gen :: .int .i64 0 :: u8s zA2),.rw [.int .i64 b,.int .i64 s,.int .i64 w,.int .i64 a,.int .i64 r]]) = some (.sl (H.length + 2) 3 1 48 48 true):=zCu (cs:=.int .u8 83 :: .int .u32 gen :: .int .i64 0 :: u8s zA2) (by unfold cellsOf; simp) (by simp [zAd,zl])
 rw [hK0] at c1
 have K8l : K8.length = K7.length + 1:=by rw [hK8]; simp
 rw [K8l] at cp ec
 rw [hK8] at ec
 have i1 : ((1 : Nat) : Int) = 1:=rfl
 have i2 : ((2 : Nat) : Int) = 2:=rfl
 have i4 : ((4 : Nat) : Int) = 4:=rfl
 rw [i2] at c1 c4 c5 c6
 rw [i1] at c2 c3
 rw [i4] at c7
 have sp0 : zBp (AV.int .u8 0 :: .int .u32 0 :: .int .i64 0 :: u8s zA2) 0 (AV.int .u8 83 :: .int .u32 gen :: .int .i64 0 :: u8s zA2) = AV.int .u8 83 :: .int .u32 gen :: .int .i64 0 :: u8s zA2:=by
  rw [zAs _ _ _ (by simp),List.drop_of_length_le (by simp [zAd,zl]),List.append_nil]; rfl
 have zc:=zAo zA2
 generalize u8s SB = SBv at *
 generalize hZB : u8s zA2 = ZB at *
 have zl2 : ZB.length = 48:=by rw [← hZB,zAd,zl]
 rw [c62]
 unfold b62
 simp -implicitDefEqProofs (maxSteps:=5000000) only [go_sem,simprocAttr,itr,itq,zBe,hZB,zl2,zc,sp0,sB0,zX2,sameB_rw,wb,ws,ww,wa,wr,wt,wq,c1,c2,c3,c4,c5,c6,c7,p1,p2,p3,p4,p5,p6,p7,q1,q2,q3,q4,q5,q6,q7,r1,r2,r3,r4,r5,r6,r7,t1,t2,t3,t4,t5,t6,t7,t9,tA,g1.cells.1,g2.cells.1,g3.cells.1,g4.cells.1,g5.cells.1,g6.cells.1,g7.cells.1,ec,cp,c10,w10,sl51,t51,c11,fin]
 done
end Go.Proofs.YtbmmnfeeapnhkaaGreat.G08
end
section
namespace Go.Proofs.YtbmmnfeeapnhkaaGreat.G08
open Go Go.Proofs.YtbmmnfeeapnhkaaGreat.Eng
theorem zGj {b : List Int} (h : IsU8 b) (i n : Nat) : 0 ≤ sub b i n ∧ sub b i n < 256 ^ n:=by
 have u : IsU8 ((b.drop i).take n):=fun z hz=>h z (List.mem_of_mem_drop (List.mem_of_mem_take hz))
 obtain ⟨h1,h2⟩:=zF1 u
 refine ⟨h1,Int.lt_of_lt_of_le h2 ?_⟩
 have : ((b.drop i).take n).length ≤ n:=by simp; omega
 exact_mod_cast Nat.pow_le_pow_right (show 0 < 256 by omega) this
theorem zKq {p : PgS} (h : p.Ok) : (zEl p).Fit:=by
 have u:=h.b.2
 exact ⟨⟨zGj u 4 2,zGj u 6 1,zGj u 7 1,zGj u 8 2,zGj u 10 2⟩,h.s,zGj u 12 2,zGj u 14 4⟩
theorem zRo (b : List Int) (k m : Nat) : getS (((b.drop 4).drop k).take m) = sub b (4 + k) m:=by unfold sub; rw [List.drop_drop]
theorem goodP (g : GmS) (H : zAa) : (envL prog).call 45 [.agg g.cells] H = some (.bool g.good,H):=Gm.goodL g.b g.s g.w g.a g.r H
set_option maxHeartbeats 8000000 in
theorem pointC {z : List Int} (hz : B64 z) (H : zAa) : (envL prog).call 120 [.agg (u8s z)] H = some (.tup [.agg (ptS z).1.cells,.bool (ptS z).2],H):=by
 have ed:=fun X : zAa=>decC hz X
 have ok:=zJb hz
 have t64 : (u8s z).take 64 = u8s z:=List.take_of_length_le (by rw [zAd,hz.1]; exact Nat.le_refl _)
 have z64l : (u8s z).length = 64:=by rw [zAd,hz.1]
 unfold ptS
 generalize hp : (decS z).1 = p at *
 have p51 : p.cells.length = 51:=by simp [PgS.cells,zAd,ok.b.1]
 have pc : p.cells.all AV.isCell = true:=by simp [PgS.cells,AV.isCell]; exact fun x hx=>List.all_eq_true.1 (zAo p.b) x hx
 have hs0 : zBp (AV.int .u8 0 :: .int .u32 0 :: .int .i64 0 :: u8s zA2) 0 p.cells = p.cells:=by
  rw [zAs _ _ _ (by rw [p51]; omega),List.drop_of_length_le (by rw [p51]; simp [zAd,zB7.1]),List.append_nil]; rfl
 have zl : (u8s zA2).length = 48:=by rw [zAd,zB7.1]
 by_cases he : (decS z).2 = 0
 ·rw [if_pos he]
  have n0 : ((decS z).2 != 0) = false:=by rw [he]; rfl
  have bl : (p.b.drop 4).length = 44:=by simp [ok.b.1]
  have bu : IsU8 (p.b.drop 4):=fun y hy=>ok.b.2 y (List.mem_of_mem_drop hy)
  obtain ⟨K1,hK1⟩ : ∃ K1 : zAa,K1 = H ++ [.rw (u8s z),.rw [.int .i64 0,.int .i64 0,.int .i64 0,.int .i64 0,.int .i64 0,.int .u32 0,.int .i64 0,.int .u32 0],.rw p.cells]:=⟨_,rfl⟩
  have K1l : K1.length = H.length + 3:=by rw [hK1]; simp
  have bs : BS K1 (.sl (H.length + 2) 7 1 44 44 true) (p.b.drop 4):=.inr ⟨H.length + 2,7,44,true,p.cells,by rw [bl],by rw [hK1]; unfold cellsOf; simp,fun i x hx=>by
   rw [List.getElem?_drop] at hx
   unfold PgS.cells
   rw [show 7 + i = 4 + i + 3 by omega,List.getElem?_cons_succ,List.getElem?_cons_succ,List.getElem?_cons_succ]
   exact zGh hx,by rw [bl,p51]; omega⟩
  obtain ⟨en,r0⟩:=newRdC bs (fun e=>by rw [e] at bl; simp at bl) (by omega)
  rw [K1l,bl] at en r0
  obtain ⟨K0,hK0⟩ : ∃ K0 : zAa,K0 = K1 ++ [.rw [],.rw (u8s (p.b.drop 4)),.rw [rdV (H.length + 3 + 1) 0 44],.rw [.ptr (H.length + 3 + 2) 0],.rw [.int .i64 0,.int .i64 0,.int .i64 0,.int .i64 0,.int .i64 0,.int .u32 0,.int .i64 0,.int .u32 0]]:=⟨_,rfl⟩
  have r1 : RdS K0 (H.length + 3 + 2) (H.length + 3 + 1) 0 (p.b.drop 4):=⟨by rw [hK0,bl]; rw [List.getElem?_append_right (by omega)]; simp [K1l],by rw [hK0]; rw [List.getElem?_append_right (by omega)]; simp [K1l],by omega⟩
  obtain ⟨KK,hKK⟩ : ∃ KK : Nat → zAa,∀ k,KK k = K0.set (H.length + 3 + 2) (.rw [rdV (H.length + 3 + 1) k 44]):=⟨_,fun _=>rfl⟩
  have rK : ∀ k,RdS (KK k) (H.length + 3 + 2) (H.length + 3 + 1) k (p.b.drop 4):=fun k=>by rw [hKK,← bl]; exact r1.next
  have cK : ∀ k,cellsOf (KK k) (H.length + 3 + 3) = some [.ptr (H.length + 3 + 2) 0]:=fun k=>by
   rw [hKK,zBj _ _ _ _ (by omega),hK0]; unfold cellsOf; rw [List.getElem?_append_right (by omega)]; simp [K1l]
  have num : ∀ k m : Nat,k + m ≤ 44 → 1 ≤ m → m ≤ 4 → (envL prog).call 137 [.int .i64 (m : Int),.ptr (H.length + 3 + 3) 0] (KK k) = some (.int .i64 (sub p.b (4 + k) m),KK (k + m)):=fun k m h1 h2 h3=>by
   have:=dec1C (rK k) (by rw [bl]; exact h1) h2 (by rw [bl]; omega) (by omega) bu (cK k)
   rw [zRo,bl] at this
   rw [this,hKK,hKK,List.set_set]
  have N0:=num 0 2 (by omega) (by omega) (by omega)
  have N1:=num 2 1 (by omega) (by omega) (by omega)
  have N2:=num 3 1 (by omega) (by omega) (by omega)
  have N3:=num 4 2 (by omega) (by omega) (by omega)
  have N4:=num 6 2 (by omega) (by omega) (by omega)
  have N5:=num 8 2 (by omega) (by omega) (by omega)
  have N6:=num 10 4 (by omega) (by omega) (by omega)
  simp only [Nat.reduceAdd] at N0 N1 N2 N3 N4 N5 N6
  have i1 : ((1 : Nat) : Int) = 1:=rfl
  have i2 : ((2 : Nat) : Int) = 2:=rfl
  have i4 : ((4 : Nat) : Int) = 4:=rfl
  rw [i2] at N0 N3 N4 N5
  rw [i1] at N1 N2
  rw [i4] at N6
  have K00 : KK 0 = K0:=by
   rw [hKK]
   apply List.ext_getElem?
   intro i
   rw [List.getElem?_set]
   split
   ·rename_i e; subst e; rw [if_pos (zAl r1.pt),r1.pt,bl]
   ·rfl
  rw [K00] at N0
  have dif : H.length + 3 + 4 ≠ H.length + 3 + 2:=by omega
  have pt0 : ∀ k,(KK k)[H.length + 3 + 4]? = some (.rw [.int .i64 0,.int .i64 0,.int .i64 0,.int .i64 0,.int .i64 0,.int .u32 0,.int .i64 0,.int .u32 0]):=fun k=>by
   rw [hKK,zAf _ _ _ _ dif,hK0,List.getElem?_append_right (by omega)]; simp [K1l]
  have at2 : ∀ k,(KK k)[H.length + 2]? = some (.rw p.cells):=fun k=>by
   rw [hKK,zAf _ _ _ _ (by omega),hK0,List.getElem?_append_left (by omega),hK1]; simp
  have at1 : ∀ k,(KK k)[H.length + 1]? = some (.rw [.int .i64 0,.int .i64 0,.int .i64 0,.int .i64 0,.int .i64 0,.int .u32 0,.int .i64 0,.int .u32 0]):=fun k=>by
   rw [hKK,zAf _ _ _ _ (by omega),hK0,List.getElem?_append_left (by omega),hK1]; simp
  obtain ⟨fg,fgen,fat,fseq⟩:=zKq ok
  have ws : IntKind.u32.wrap (sub p.b 14 4) = sub p.b 14 4:=by
   have:=fseq
   show sub p.b 14 4 % 4294967296 = _
   have h:=zGj ok.b.2 14 4
   omega
  have w1 : zAz (KK 10) (H.length + 3 + 4) 0 [.int .i64 (sub p.b 4 2),.int .i64 (sub p.b 6 1),.int .i64 (sub p.b 7 1),.int .i64 (sub p.b 8 2),.int .i64 (sub p.b 10 2),.int .u32 p.s,.int .i64 (sub p.b 12 2),.int .u32 0] = some ((KK 10).set (H.length + 3 + 4) (.rw [.int .i64 (sub p.b 4 2),.int .i64 (sub p.b 6 1),.int .i64 (sub p.b 7 1),.int .i64 (sub p.b 8 2),.int .i64 (sub p.b 10 2),.int .u32 p.s,.int .i64 (sub p.b 12 2),.int .u32 0])):=by
   rw [zAv (pt0 10),if_pos ⟨by simp,rfl⟩]; rfl
  obtain ⟨J,hJ⟩ : ∃ J : Nat → zAa,∀ k,J k = (KK k).set (H.length + 3 + 4) (.rw [.int .i64 (sub p.b 4 2),.int .i64 (sub p.b 6 1),.int .i64 (sub p.b 7 1),.int .i64 (sub p.b 8 2),.int .i64 (sub p.b 10 2),.int .u32 p.s,.int .i64 (sub p.b 12 2),.int .u32 0]):=⟨_,fun _=>rfl⟩
  have rJ : RdS (J 10) (H.length + 3 + 2) (H.length + 3 + 1) 10 (p.b.drop 4):=⟨by rw [hJ,zAf _ _ _ _ (by omega)]; exact (rK 10).pt,by rw [hJ,zAf _ _ _ _ (by omega)]; exact (rK 10).bt,by omega⟩
  have N7:=dec1C rJ (by rw [bl]; omega) (m:=4) (by omega) (by rw [bl]; omega) (by omega) bu (c:=H.length + 3 + 3) (by rw [hJ,zBj _ _ _ _ (by omega)]; exact cK 10)
  rw [zRo,bl,i4] at N7
  have eJ : (J 10).set (H.length + 3 + 2) (.rw [rdV (H.length + 3 + 1) (10 + 4) 44]) = J 14:=by
   rw [hJ,hJ,hKK,hKK,List.set_comm _ _ dif,List.set_set]
  rw [eJ] at N7
  have J14 : (J 14)[H.length + 3 + 4]? = some (.rw [.int .i64 (sub p.b 4 2),.int .i64 (sub p.b 6 1),.int .i64 (sub p.b 7 1),.int .i64 (sub p.b 8 2),.int .i64 (sub p.b 10 2),.int .u32 p.s,.int .i64 (sub p.b 12 2),.int .u32 0]):=by rw [hJ]; exact zA4 _ _ _ (zAl (pt0 14))
  obtain ⟨M,hM⟩ : ∃ M,M = (J 14).set (H.length + 3 + 4) (.rw [.int .i64 (sub p.b 4 2),.int .i64 (sub p.b 6 1),.int .i64 (sub p.b 7 1),.int .i64 (sub p.b 8 2),.int .i64 (sub p.b 10 2),.int .u32 p.s,.int .i64 (sub p.b 12 2),.int .u32 (sub p.b 14 4)]):=⟨_,rfl⟩
  have w2 : zAz (J 14) (H.length + 3 + 4) 7 [.int .u32 (sub p.b 14 4)] = some M:=by
   rw [zAv J14,if_pos ⟨by simp,rfl⟩,zAx,hM]; rfl
  have cM : cellsOf M (H.length + 3 + 4) = some (zEl p).cells:=by rw [hM]; exact zAj (zA4 _ _ _ (zAl J14))
  have cM2 : cellsOf M (H.length + 2) = some p.cells:=by
   rw [hM,zBj _ _ _ _ (by omega),hJ,zBj _ _ _ _ (by omega)]; exact zAj (at2 14)
  have M1 : M[H.length + 1]? = some (.rw [.int .i64 0,.int .i64 0,.int .i64 0,.int .i64 0,.int .i64 0,.int .u32 0,.int .i64 0,.int .u32 0]):=by
   rw [hM,zAf _ _ _ _ (by omega),hJ,zAf _ _ _ _ (by omega)]; exact at1 14
  have w3 : zAz M (H.length + 1) 0 (zEl p).cells = some (M.set (H.length + 1) (.rw (zEl p).cells)):=by
   rw [zAv M1,if_pos ⟨by simp [PtS.cells,GmS.cells],rfl⟩]; rfl
  have c3 : cellsOf (M.set (H.length + 1) (.rw (zEl p).cells)) (H.length + 1) = some (zEl p).cells:=zAj (zA4 _ _ _ (zAl M1))
  have c32 : cellsOf (M.set (H.length + 1) (.rw (zEl p).cells)) (H.length + 3 + 4) = some (zEl p).cells:=by rw [zBj _ _ _ _ (by omega)]; exact cM
  have aM : Adds H (M.set (H.length + 1) (.rw (zEl p).cells)):=by
   have a1 : Adds H K0:=by rw [hK0,hK1,List.append_assoc]; exact ⟨_,rfl⟩
   rw [hM,hJ,hKK]
   exact zD5 (zD5 (zD5 (zD5 a1 _ (by omega)) _ (by omega)) _ (by omega)) _ (by omega)
  have tr : ∀ b : Bool,trim H (some (.tup [.agg (zEl p).cells,.bool b],M.set (H.length + 1) (.rw (zEl p).cells))) = some (.tup [.agg (zEl p).cells,.bool b],H):=fun b=>trim_adds aM rfl
  have es:=zVd (zKq ok) M
  have e51:=eq_pg (p:=zEk (zEl p)) (p':=p) (zIt _) ok.b.1
  have eg:=goodP (zEl p).g M
  have cg : (zEl p).g.cells = [.int .i64 (sub p.b 4 2),.int .i64 (sub p.b 6 1),.int .i64 (sub p.b 7 1),.int .i64 (sub p.b 8 2),.int .i64 (sub p.b 10 2)]:=rfl
  have cr : (zEl p).cells = [.int .i64 (sub p.b 4 2),.int .i64 (sub p.b 6 1),.int .i64 (sub p.b 7 1),.int .i64 (sub p.b 8 2),.int .i64 (sub p.b 10 2),.int .u32 p.s,.int .i64 (sub p.b 12 2),.int .u32 (sub p.b 14 4)]:=rfl
  have ept : ptOk p = (decide (zEk (zEl p) = p) && (zEl p).g.good && decide (sub p.b 12 2 < sub p.b 10 2)):=rfl
  have p51t : p.cells.take 51 = p.cells:=List.take_of_length_le (by omega)
  have p1 : p.cells[1]? = some (.int .u32 p.s):=rfl
  have cA : ∀ k,cellsOf (KK k) (H.length + 2) = some p.cells:=fun k=>zAj (at2 k)
  have sl : zDb 48 1 (.ptr (H.length + 2) 3) (some (.int .i64 4)) none none K1 = some (.sl (H.length + 2) 7 1 44 44 true):=by
   have hr : zC6 K1 (H.length + 2) 3 48 = some ((p.cells.drop 3).take 48):=by
    unfold zC6; rw [hK1]; unfold cellsOf; simp [p51]
   simp [zDb,asI,hr]
  rw [hK1] at sl en
  rw [hK0,hK1] at N0
  rw [hJ 10] at N7
  simp only [List.append_assoc,List.cons_append,List.nil_append] at N0 en
  rw [cr] at w3 c3 c32 tr es cM
  rw [cg] at eg
  rw [ept,cr]
  generalize zEk (zEl p) = SP at *
  have b0 : True:=trivial
  generalize decide (SP = p) = D at *
  generalize p.cells = PC at *
  generalize (zEl p).g.good = GD at *
  generalize hZ : u8s zA2 = Z at *
  generalize hT : u8s z = ZZ at *
  rw [c120]
  unfold b120
  cases D <;> cases GD <;>
  simp -implicitDefEqProofs (maxSteps:=5000000) only [go_sem,simprocAttr,itr,itq,zB9,zBe,hZ,zl,t64,z64l,ed,n0,p51,pc,hs0,p51t,p1,sl,en,N0,N1,N2,N3,N4,N5,N6,cA,N7,ws,w1,w2,cM,cM2,es,e51,eg,w3,c3,c32,tr]
 ·rw [if_neg he]
  have n0 : ((decS z).2 != 0) = true:=by simpa using he
  generalize p.cells = PC at *
  generalize hZ : u8s zA2 = Z at *
  generalize hT : u8s z = ZZ at *
  rw [c120]
  unfold b120
  simp -implicitDefEqProofs (maxSteps:=5000000) only [go_sem,simprocAttr,itr,itq,zB9,zBe,hZ,zl,t64,z64l,ed,n0,p51,pc,hs0]
  rfl
end Go.Proofs.YtbmmnfeeapnhkaaGreat.G08
end
section
namespace Go.Proofs.YtbmmnfeeapnhkaaGreat.G08
open Go Go.Proofs.YtbmmnfeeapnhkaaGreat.Eng
structure GmS.Nm (g : GmS) : Prop where
 hb : 1 ≤ g.b ∧ g.b ≤ 64
 hs : 1 ≤ g.s ∧ g.s ≤ 8
 hw : 1 ≤ g.w ∧ g.w ≤ 4
 ha : 0 ≤ g.a ∧ g.a ≤ 200
 hn : 1 ≤ g.s * g.w ∧ g.s * g.w ≤ 32
 hr : g.pages + 2 ≤ g.r ∧ g.r ≤ 256
 hp : 1 ≤ g.pages ∧ g.pages ≤ 20
 hy : 1 ≤ g.bytes ∧ g.bytes ≤ 1000
 hc : g.bytes ≤ 48 * g.pages ∧ 48 * g.pages < g.bytes + 48
theorem GmS.nm {g : GmS} (h : g.good = true) : g.Nm:=by
 obtain ⟨n,y,c,N⟩:=Gm.nums h
 have ey : g.bytes = y:=by unfold GmS.bytes; rw [N.ey,N.en]
 have ec : g.pages = c:=by unfold GmS.pages; rw [ey,N.ec]
 have hn:=N.hn; have hb:=N.hb; have hr:=N.hr; have h1:=N.ec; have h2:=N.ey; have h3:=N.en
 refine ⟨N.hb,N.hs,N.hw,N.ha,by rw [h3]; exact hn,by rw [ec]; exact hr,by rw [ec]; omega,by rw [ey]; omega,by rw [ec,ey]; omega⟩
theorem fitG {g : GmS} (h : g.good = true) : g.Fit:=by
 have N:=g.nm h
 have:=N.hb; have:=N.hs; have:=N.hw; have:=N.ha; have:=N.hr; have:=N.hp
 exact ⟨by omega,by omega,by omega,by omega,by omega⟩
section
variable {g : GmS} (h : g.good = true) (H : zAa)
include h
theorem bytesP : (envL prog).call 47 [.agg g.cells] H = some (.int .i64 g.bytes,H):=by
 obtain ⟨n,y,c,N⟩:=Gm.nums h
 rw [show g.bytes = y by unfold GmS.bytes; rw [N.ey,N.en]]; exact N.bytes H
theorem pagesP : (envL prog).call 38 [.agg g.cells] H = some (.int .i64 g.pages,H):=by
 obtain ⟨n,y,c,N⟩:=Gm.nums h
 rw [show g.pages = c by unfold GmS.pages GmS.bytes; rw [N.ec,N.ey,N.en]]; exact N.pages H
theorem ringP : (envL prog).call 56 [.agg g.cells] H = some (.int .i64 2,H):=by
 obtain ⟨n,y,c,N⟩:=Gm.nums h
 exact N.ring H
theorem homeP : (envL prog).call 59 [.agg g.cells] H = some (.int .i64 g.home,H):=by
 obtain ⟨n,y,c,N⟩:=Gm.nums h
 exact N.home H
theorem fastP : (envL prog).call 35 [.agg g.cells] H = some (.int .i64 g.fast,H):=by
 obtain ⟨n,y,c,N⟩:=Gm.nums h
 rw [show g.fast = 2 + g.r + c + n by unfold GmS.fast GmS.pages GmS.bytes; rw [N.ec,N.ey,N.en]]; exact N.fast H
theorem slowP : (envL prog).call 36 [.agg g.cells] H = some (.int .i64 g.slow,H):=by
 obtain ⟨n,y,c,N⟩:=Gm.nums h
 exact N.slow H
end
def Does (q : RPl) (H : zAa) (n : Nat) (r : RgS) (F : Nat → Prop) (ops : List OpS) (f : Nat) (args : List AV) : Prop :=
 ∃ n' H' F',n' ≤ n + ops.length ∧ zA3 q H' n' (opsS r ops).1 F' ∧ zBm H F H' F' ∧ (envL prog).call f args H = some (.int .i64 (opsS r ops).2,H')
theorem zBm.adds (H X : zAa) (F : Nat → Prop) : zBm H F (H ++ X) F:=⟨Fr.adds ⟨X,rfl⟩ F,fun b h=>.inl h⟩
theorem zGz (r : RgS) (o : OpS) : opsS r [o] = oneS r o:=by
 simp only [opsS]
 split
 ·rename_i h; rw [← h]
 ·rfl
theorem enc_ok {p : PgS} (h : zEx p.m p.i = true) : p.enc = (encS p.m p.s p.i p.b,0):=by unfold PgS.enc; rw [if_pos h]
section
variable {q : RPl} {H : zAa} {n : Nat} {r : RgS} {F : Nat → Prop} (m : zA3 q H n r F)
include m
theorem roomC {g : GmS} (h : g.good = true) : (envL prog).call 46 [.ptr q.p 0,.agg g.cells] H = some (.bool (zOt r g),H):=by
 have l0:=fun X=>atLen (m.adds X) 0
 have l1:=fun X=>atLen (m.adds X) 1
 have ef:=fun X=>fastP h (H ++ X)
 have es:=fun X=>slowP h (H ++ X)
 have d0 : r.dk 0 = r.a:=rfl
 have d1 : r.dk 1 = r.b:=rfl
 have gl : g.cells.length = 5:=rfl
 have gt : g.cells.take 5 = g.cells:=rfl
 unfold zOt
 rw [d0] at l0
 rw [d1] at l1
 generalize g.cells = G at *
 rw [c46]
 unfold b46
 cases hD : decide ((r.a.length : Int) ≥ g.fast) <;> simp -implicitDefEqProofs (maxSteps:=5000000) only [go_sem,simprocAttr,itr,itq,gl,gt,l0,l1,ef,es,hD]
set_option maxHeartbeats 4000000 in
theorem mputC (i : Int) {p : PgS} (hp : p.Ok) (hk : zEx p.m p.i = true) (hn : n + 1 ≤ 1000000000) : Does q H n r F [some (i,encS p.m p.s p.i p.b)] 58 [.ptr q.p 0,.int .i64 i,.agg p.cells]:=by
 have ec:=fun X=>encC hp (H ++ X)
 have ok:=zXu hp
 rw [enc_ok hk] at ec ok
 simp only at ec ok
 obtain ⟨K,hK⟩ : ∃ K : zAa,K = H ++ [.rw p.cells,.rw (u8s (encS p.m p.s p.i p.b))]:=⟨_,rfl⟩
 have mK : zA3 q K n r F:=by rw [hK]; exact m.adds _
 obtain ⟨K',F',m',st,ew⟩:=zRc mK 0 i ok hn
 have sK : zBm H F K F:=by rw [hK]; exact zBm.adds _ _ _
 have e1 : opsS r [some (i,encS p.m p.s p.i p.b)] = r.write 0 i (encS p.m p.s p.i p.b):=zGz _ _
 obtain ⟨H',F'',et,mt,stt,_⟩:=m.trim m' (sK.trans st) (.int .i64 (r.write 0 i (encS p.m p.s p.i p.b)).2)
 refine ⟨n + 1,H',F'',by simp,by rw [e1]; exact mt,stt,?_⟩
 rw [e1]
 have el:=ok.1
 have c51 : p.cells.length = 51:=by simp [PgS.cells,zAd,hp.b.1]
 have t51 : p.cells.take 51 = p.cells:=List.take_of_length_le (by omega)
 have zl : (u8s z64).length = 64:=by rw [zAd,zBz]
 have sp:=zCn zBz el (by omega)
 have t64:=zCg el
 have le : (u8s (encS p.m p.s p.i p.b)).length = 64:=by rw [zAd]; exact el
 have lc:=zAo (encS p.m p.s p.i p.b)
 have n0 : ((0 : Int) != 0) = false:=rfl
 rw [hK] at ew
 generalize u8s (encS p.m p.s p.i p.b) = E at *
 generalize hZ : u8s z64 = Z at *
 generalize p.cells = C at *
 rw [c58]
 unfold b58
 simp -implicitDefEqProofs (maxSteps:=5000000) only [go_sem,simprocAttr,itr,itq,ec,n0,zB9,hZ,zl,c51,t51,le,sp,t64,lc,ew,et]
end
theorem zK1 (i : Int) {z : List Int} (hz : z.length = 48) (H : zAa) : (envL prog).call 60 [.int .i64 i,.agg (u8s z)] H = some (.agg (⟨72,0,i,z⟩ : PgS).cells,H):=by
 have zl : (u8s z).length = 48:=by rw [zAd,hz]
 have bl : (u8s zA2).length = 48:=by rw [zAd,zB7.1]
 have t48 : (u8s z).take 48 = u8s z:=List.take_of_length_le (by omega)
 have bd : (u8s zA2).drop 48 = []:=List.drop_of_length_le (by omega)
 have sp : ∀ y0 y1 y2 : AV,zBp (y0 :: y1 :: y2 :: u8s zA2) 3 (u8s z) = y0 :: y1 :: y2 :: u8s z:=fun y0 y1 y2=>by
  rw [zAs _ _ _ (by omega),List.drop_of_length_le (by simp [bl,zl])]; simp
 have sp2 : zBp (AV.int .u8 0 :: .int .u32 0 :: .int .i64 0 :: u8s zA2) 0 (AV.int .u8 72 :: .int .u32 0 :: .int .i64 i :: u8s z) = AV.int .u8 72 :: .int .u32 0 :: .int .i64 i :: u8s z:=by
  rw [zAs _ _ _ (by simp [zl]),List.drop_of_length_le (by simp [bl,zl])]; simp
 have ec : (⟨72,0,i,z⟩ : PgS).cells = .int .u8 72 :: .int .u32 0 :: .int .i64 i :: u8s z:=rfl
 have uc:=zAo z
 have ua : ∀ n,zAt n (u8s z) = true:=fun n=>zE0 z n
 rw [ec]
 generalize u8s z = Z at *
 generalize hB : u8s zA2 = B at *
 rw [c60]
 unfold b60
 simp -implicitDefEqProofs (maxSteps:=5000000) only [go_sem,simprocAttr,itr,itq,zBe,hB,zl,bl,t48,sp,sp2,uc,ua]
end Go.Proofs.YtbmmnfeeapnhkaaGreat.G08
end
section
namespace Go.Proofs.YtbmmnfeeapnhkaaGreat.G08
open Go Go.Proofs.YtbmmnfeeapnhkaaGreat.Eng
theorem zGn (r : RgS) (o : OpS) (l : List OpS) : opsS r (o :: l) = if (oneS r o).2 = 0 then opsS (oneS r o).1 l else oneS r o:=rfl
section
variable {q : RPl} {H : zAa} {n : Nat} {r : RgS} {F : Nat → Prop} (m : zA3 q H n r F)
include m
set_option maxHeartbeats 8000000 in
theorem zeroL {f : Int} {c : Nat} (hf : 0 ≤ f) (hs : f + (c : Int) ≤ 1000000000) (hn : n + c ≤ 1000000000) (x2 x3 x4 x5 : AV) : ∀ (k i : Nat) (K : zAa) (r' : RgS) (F' : Nat → Prop) (j6 j7 j8 j11 j12 j13 j14 j15 j16 j17 j18 j19 j20 j21 j22 : AV),zA3 q K (n + i) r' F' → zBm H F K F' → i + k = c →
  Outs (LP1 l54x0 [.ptr q.p 0,.int .i64 f,x2,x3,x4,x5,j6,j7,j8,.int .i64 (c : Int),.int .i64 (i : Int),j11,j12,j13,j14,j15,j16,j17,j18,j19,j20,j21,j22] K) fun e t K'=>∃ n' F'',zA3 q K' n' (opsS r' (zCi (f + (i : Int)) k)).1 F'' ∧ n' ≤ n + c ∧ zBm H F K' F'' ∧ ∃ fv : Nat → AV,t = [.ptr q.p 0,.int .i64 f,x2,x3,x4,x5,(fv 6),(fv 7),(fv 8),.int .i64 (c : Int),(fv 10),(fv 11),(fv 12),(fv 13),(fv 14),(fv 15),(fv 16),(fv 17),(fv 18),(fv 19),(fv 20),(fv 21),(fv 22)] ∧
   ((e = .exit 0 ∧ (opsS r' (zCi (f + (i : Int)) k)).2 = 0) ∨ (e = .ret ∧ fv 6 = .int .i64 (opsS r' (zCi (f + (i : Int)) k)).2 ∧ (opsS r' (zCi (f + (i : Int)) k)).2 ≠ 0)):=by
 intro k
 obtain ⟨L,hL⟩ : ∃ L,L = LP1 l54x0:=⟨_,rfl⟩
 have lo:=zBc hL
 rw [← hL]
 induction k with
 | zero =>
  intro i K r' F' j6 j7 j8 j11 j12 j13 j14 j15 j16 j17 j18 j19 j20 j21 j22 mK st hi
  obtain rfl : i = c:=by omega
  have hd : decide ((i : Int) < (i : Int)) = false:=by simp
  rw [lo]
  unfold l54x0 zCi opsS
  simp -implicitDefEqProofs (maxSteps:=5000000) only [go_sem,simprocAttr,hd,zAu,zAc]
  exact ⟨_,F',mK,Nat.le_refl _,st,exF2 rfl (.inl trivial)⟩
 | succ k ih =>
  intro i K r' F' j6 j7 j8 j11 j12 j13 j14 j15 j16 j17 j18 j19 j20 j21 j22 mK st hi
  have hd : decide ((i : Int) < (c : Int)) = true:=decide_eq_true (by omega)
  have e2 : IntKind.i64.wrap ((i : Int) + 1) = ((i + 1 : Nat) : Int):=by rw [zAq (by omega) (by omega)]; omega
  have wa : IntKind.i64.wrap (f + (i : Int)) = f + (i : Int):=zAq (by omega) (by omega)
  obtain ⟨K2,F2,m2,st2,ew⟩:=zRc mK 0 (f + (i : Int)) z64_b (by omega)
  have ez : zCi (f + (i : Int)) (k + 1) = some (f + (i : Int),z64) :: zCi (f + ((i + 1 : Nat) : Int)) k:=by
   show some (f + (i : Int),z64) :: zCi (f + (i : Int) + 1) k = _
   rw [show f + (i : Int) + 1 = f + ((i + 1 : Nat) : Int) by omega]
  have eo : oneS r' (some (f + (i : Int),z64)) = r'.write 0 (f + (i : Int)) z64:=rfl
  rw [ez,zGn,eo]
  rw [lo]
  unfold l54x0
  by_cases hw : (r'.write 0 (f + (i : Int)) z64).2 = 0
  ·have n0 : ((r'.write 0 (f + (i : Int)) z64).2 != 0) = false:=by rw [hw]; rfl
   rw [if_pos hw]
   simp -implicitDefEqProofs (maxSteps:=5000000) only [go_sem,simprocAttr,itr,itq,hd,wa,zB9,ew,n0,e2]
   exact ih (i + 1) _ _ _ _ _ _ _ _ _ _ _ _ _ _ _ _ _ _ (by rw [← Nat.add_assoc]; exact m2) (st.trans st2) (by omega)
  ·have n0 : ((r'.write 0 (f + (i : Int)) z64).2 != 0) = true:=by simpa using hw
   rw [if_neg hw]
   simp -implicitDefEqProofs (maxSteps:=5000000) only [go_sem,simprocAttr,itr,itq,hd,wa,zB9,ew,n0,zAc]
   exact ⟨_,_,m2,by omega,st.trans st2,exF2 rfl (.inr ⟨rfl,hw⟩)⟩
theorem zLv : ∀ (c : Nat) (f : Int),(zCi f c).length = c
 | 0,_=>rfl
 | c + 1,f=>by simp [zCi,zLv c]
set_option maxHeartbeats 4000000 in
theorem zeroC {f : Int} {c : Nat} (hf : 0 ≤ f) (hs : f + (c : Int) ≤ 1000000000) (hn : n + c ≤ 1000000000) : Does q H n r F (zCi f c) 54 [.ptr q.p 0,.int .i64 f,.int .i64 (c : Int)]:=by
 have l0:=zeroL m hf hs hn (k:=c) (i:=0) (K:=H) (r':=r) (F':=F)
 rw [show ((0 : Nat) : Int) = 0 from rfl,Int.add_zero] at l0
 have key : Outs (runC (envL prog) (b54 (envL prog)) ([.ptr q.p 0,.int .i64 f,.int .i64 (c : Int)] ++ List.replicate (23 - [AV.ptr q.p 0,.int .i64 f,.int .i64 (c : Int)].length) .undef) H) fun e' t K=>∃ n' F',n' ≤ n + c ∧ zA3 q K n' (opsS r (zCi f c)).1 F' ∧ zBm H F K F' ∧ fin [.tmp 6] (some (e',t,K)) = some (.int .i64 (opsS r (zCi f c)).2,K):=by
  unfold b54
  generalize hQ : (fun (e' : Ex) (t : T) (K : zAa)=>∃ n' F',n' ≤ n + c ∧ zA3 q K n' (opsS r (zCi f c)).1 F' ∧ zBm H F K F' ∧ fin [.tmp 6] (some (e',t,K)) = some (.int .i64 (opsS r (zCi f c)).2,K)) = Q
  simp -implicitDefEqProofs (maxSteps:=5000000) only [go_sem,simprocAttr,itr,itq,zA6]
  unfold LP1 at l0
  generalize (envL prog).loop (runC (envL prog) (l54x0 (envL prog))) = L0 at l0 ⊢
  refine zBo (fun r=>seqR (zBr 0 r) _) (l0 _ _ _ _ _ _ _ _ _ _ _ _ _ _ _ _ _ _ _ m (zBm.refl _ _) (by omega)) ?_
  rintro e t K ⟨n',F',mK,hn',st,fv,rfl,⟨rfl,h0⟩ | ⟨rfl,h6,h0⟩⟩
  ·simp -implicitDefEqProofs (maxSteps:=5000000) only [go_sem,simprocAttr,itr,itq,zAc]
   subst hQ
   refine ⟨n',F',hn',mK,st,?_⟩
   simp -implicitDefEqProofs (maxSteps:=5000000) only [go_sem,simprocAttr,h0]
  ·simp -implicitDefEqProofs (maxSteps:=5000000) only [go_sem,simprocAttr,itr,itq,zAc]
   subst hQ
   refine ⟨n',F',hn',mK,st,?_⟩
   simp -implicitDefEqProofs (maxSteps:=5000000) only [go_sem,simprocAttr,h6]
 obtain ⟨e',t,K,hr,n',F',hn',mK,st,hf'⟩:=key
 obtain ⟨H',F'',et,mt,stt,_⟩:=m.trim mK st (.int .i64 (opsS r (zCi f c)).2)
 exact ⟨n',H',F'',by rw [zLv m]; exact hn',mt,stt,by rw [c54,hr,hf',et]⟩
end
abbrev FnS:=Nat × List AV × List OpS
def opsF (l : List FnS) : List OpS:=(l.map fun x=>x.2.2).flatten
section
variable {q : RPl} {H : zAa} {n : Nat} {r : RgS} {F : Nat → Prop} (m : zA3 q H n r F) {b : Nat} {fs : List FnS} (hb : cellsOf H b = some (fs.map fun x=>AV.fn x.1 x.2.1)) (nb : ¬ F b)
 (hf : ∀ x ∈ fs,∀ K n' r' F',zA3 q K n' r' F' → zBm H F K F' → n' ≤ n + (opsF fs).length → n' + x.2.2.length ≤ 1000000000 → Does q K n' r' F' x.2.2 x.1 x.2.1) (hl : fs.length ≤ 1000) (hn : n + (opsF fs).length ≤ 1000000000)
include m hb nb hf hl hn
set_option maxHeartbeats 8000000 in
theorem allL (x0 x1 x3 : AV) : ∀ (k i : Nat) (K : zAa) (n1 : Nat) (r' : RgS) (F' : Nat → Prop) (j2 j4 j5 j9 j10 j11 j12 j13 j14 j15 j16 j17 : AV),zA3 q K n1 r' F' → zBm H F K F' → n1 + (opsF (fs.drop i)).length ≤ n + (opsF fs).length → i + k = fs.length →
  Outs (LP1 l52x0 [x0,x1,j2,x3,j4,j5,.sl b 0 1 fs.length fs.length true,.int .i64 (fs.length : Int),.int .i64 (i : Int),j9,j10,j11,j12,j13,j14,j15,j16,j17] K) fun e t K'=>∃ n' F'',zA3 q K' n' (opsS r' (opsF (fs.drop i))).1 F'' ∧ n' ≤ n + (opsF fs).length ∧ zBm H F K' F'' ∧ ∃ fv : Nat → AV,t = [x0,x1,(fv 2),x3,(fv 4),(fv 5),.sl b 0 1 fs.length fs.length true,.int .i64 (fs.length : Int),(fv 8),(fv 9),(fv 10),(fv 11),(fv 12),(fv 13),(fv 14),(fv 15),(fv 16),(fv 17)] ∧
   ((e = .exit 0 ∧ (opsS r' (opsF (fs.drop i))).2 = 0) ∨ (e = .ret ∧ fv 2 = .int .i64 (opsS r' (opsF (fs.drop i))).2 ∧ (opsS r' (opsF (fs.drop i))).2 ≠ 0)):=by
 intro k
 obtain ⟨L,hL⟩ : ∃ L,L = LP1 l52x0:=⟨_,rfl⟩
 have lo:=zBc hL
 rw [← hL]
 induction k with
 | zero =>
  intro i K n1 r' F' j2 j4 j5 j9 j10 j11 j12 j13 j14 j15 j16 j17 mK st hq hi
  obtain rfl : i = fs.length:=by omega
  have hd : decide ((fs.length : Int) < (fs.length : Int)) = false:=by simp
  rw [lo,List.drop_length] at *
  unfold l52x0 opsF
  simp -implicitDefEqProofs (maxSteps:=5000000) only [go_sem,simprocAttr,hd,zAu,zAc,opsS]
  exact ⟨_,F',mK,by unfold opsF at hq; simpa using hq,st,exF2 rfl (.inl trivial)⟩
 | succ k ih =>
  intro i K n1 r' F' j2 j4 j5 j9 j10 j11 j12 j13 j14 j15 j16 j17 mK st hq hi
  have hlt : i < fs.length:=by omega
  have hd : decide ((i : Int) < (fs.length : Int)) = true:=decide_eq_true (by omega)
  have e2 : IntKind.i64.wrap ((i : Int) + 1) = ((i + 1 : Nat) : Int):=by rw [zAq (by omega) (by omega)]; omega
  have hx:=List.getElem?_eq_getElem hlt
  have dr:=List.drop_eq_getElem_cons hlt
  have mx:=List.getElem_mem hlt
  generalize fs[i] = x at *
  have ef : opsF (fs.drop i) = x.2.2 ++ opsF (fs.drop (i + 1)):=by rw [dr]; rfl
  rw [ef,List.length_append] at hq
  obtain ⟨n2,K2,F2,hn2,m2,st2,ec⟩:=hf x mx K n1 r' F' mK st (by omega) (by omega)
  have cK:=st.1.cells hb nb
  have ix:=zEf b 1 fs.length fs.length i true .i64 (by omega) hlt
  have gx : (fs.map fun x=>AV.fn x.1 x.2.1)[i]? = some (.fn x.1 x.2.1):=zCf (fun x : FnS=>AV.fn x.1 x.2.1) hx
  rw [Nat.mul_one] at ix
  obtain ⟨fn,cap,ops⟩:=x
  simp only at *
  rw [ef,zH8]
  rw [lo]
  unfold l52x0
  by_cases hw : (opsS r' ops).2 = 0
  ·have n0 : ((opsS r' ops).2 != 0) = false:=by rw [hw]; rfl
   rw [if_pos hw]
   simp -implicitDefEqProofs (maxSteps:=5000000) only [go_sem,simprocAttr,itr,itq,hd,ix,cK,gx,ec,n0,e2]
   exact ih (i + 1) _ _ _ _ _ _ _ _ _ _ _ _ _ _ _ _ m2 (st.trans st2) (by omega) (by omega)
  ·have n0 : ((opsS r' ops).2 != 0) = true:=by simpa using hw
   rw [if_neg hw]
   simp -implicitDefEqProofs (maxSteps:=5000000) only [go_sem,simprocAttr,itr,itq,hd,ix,cK,gx,ec,n0,zAc]
   exact ⟨_,_,m2,by omega,st.trans st2,exF2 rfl (.inr ⟨rfl,hw⟩)⟩
set_option maxHeartbeats 4000000 in
theorem allC : Does q H n r F (opsF fs) 52 [.sl b 0 1 fs.length fs.length true]:=by
 have l0:=allL m hb nb hf hl hn (k:=fs.length) (i:=0) (K:=H) (n1:=n) (r':=r) (F':=F)
 rw [show ((0 : Nat) : Int) = 0 from rfl,List.drop_zero] at l0
 have key : Outs (runC (envL prog) (b52 (envL prog)) ([.sl b 0 1 fs.length fs.length true] ++ List.replicate (18 - [AV.sl b 0 1 fs.length fs.length true].length) .undef) H) fun e' t K=>∃ n' F',n' ≤ n + (opsF fs).length ∧ zA3 q K n' (opsS r (opsF fs)).1 F' ∧ zBm H F K F' ∧ fin [.tmp 2] (some (e',t,K)) = some (.int .i64 (opsS r (opsF fs)).2,K):=by
  unfold b52
  generalize hQ : (fun (e' : Ex) (t : T) (K : zAa)=>∃ n' F',n' ≤ n + (opsF fs).length ∧ zA3 q K n' (opsS r (opsF fs)).1 F' ∧ zBm H F K F' ∧ fin [.tmp 2] (some (e',t,K)) = some (.int .i64 (opsS r (opsF fs)).2,K)) = Q
  simp -implicitDefEqProofs (maxSteps:=5000000) only [go_sem,simprocAttr,itr,itq,zA6]
  unfold LP1 at l0
  generalize (envL prog).loop (runC (envL prog) (l52x0 (envL prog))) = L0 at l0 ⊢
  refine zBo (fun r=>seqR (zBr 0 r) _) (l0 _ _ _ _ _ _ _ _ _ _ _ _ _ _ _ m (zBm.refl _ _) (Nat.le_refl _) (by omega)) ?_
  rintro e t K ⟨n',F',mK,hn',st,fv,rfl,⟨rfl,h0⟩ | ⟨rfl,h6,h0⟩⟩
  ·simp -implicitDefEqProofs (maxSteps:=5000000) only [go_sem,simprocAttr,itr,itq,zAc]
   subst hQ
   refine ⟨n',F',hn',mK,st,?_⟩
   simp -implicitDefEqProofs (maxSteps:=5000000) only [go_sem,simprocAttr,h0]
  ·simp -implicitDefEqProofs (maxSteps:=5000000) only [go_sem,simprocAttr,itr,itq,zAc]
   subst hQ
   refine ⟨n',F',hn',mK,st,?_⟩
   simp -implicitDefEqProofs (maxSteps:=5000000) only [go_sem,simprocAttr,h6]
 obtain ⟨e',t,K,hr,n',F',hn',mK,st,hf'⟩:=key
 obtain ⟨H',F'',et,mt,stt,_⟩:=m.trim mK st (.int .i64 (opsS r (opsF fs)).2)
 exact ⟨n',H',F'',hn',mt,stt,by rw [c52,hr,hf',et]⟩
end
end Go.Proofs.YtbmmnfeeapnhkaaGreat.G08
end
section
namespace Go.Proofs.YtbmmnfeeapnhkaaGreat.G08
open Go Go.Proofs.YtbmmnfeeapnhkaaGreat.Eng
theorem zSb {i : Int} {z : List Int} (hi : 0 ≤ i ∧ i ≤ 65535) (hz : B48 z) : (⟨72,0,i,z⟩ : PgS).Ok ∧ zEx 72 i = true:=by
 refine ⟨⟨by show (0 : Int) ≤ 72 ∧ (72 : Int) ≤ 255; omega,by show (0 : Int) ≤ 0 ∧ (0 : Int) < _; omega,by show _ ≤ i ∧ i ≤ _; omega,hz⟩,?_⟩
 unfold zEx
 rw [decide_eq_true hi.1,decide_eq_true hi.2]; rfl
theorem zI4 : ∀ (l : List (List Int)) (h i : Int),(zDi h i l).length = l.length
 | [],_,_=>rfl
 | x :: l,h,i=>by simp [zDi,zI4 l]
section
variable {q : RPl} {H : zAa} {n : Nat} {r : RgS} {F : Nat → Prop} (m : zA3 q H n r F) {cr : Nat} (hr : cellsOf H cr = some [.ptr q.p 0])
include m hr
theorem zXq : Does q H n r F [none] 50 [.ptr cr 0]:=by
 obtain ⟨H',mt,st,_,ef⟩:=zLe m 0
 have e1 : opsS r [none] = r.flush 0:=zGz _ _
 obtain ⟨H2,F2,et,mt2,st2,_⟩:=m.trim mt st (.int .i64 (r.flush 0).2)
 refine ⟨n,H2,F2,by omega,by rw [e1]; exact mt2,st2,?_⟩
 rw [e1,c50]
 unfold b50
 simp -implicitDefEqProofs (maxSteps:=5000000) only [go_sem,simprocAttr,itr,itq,hr,ef,et]
theorem form2C (hn : n + 2 ≤ 1000000000) : Does q H n r F (zCi 0 2) 53 [.ptr cr 0]:=by
 obtain ⟨n',H',F',hn',mt,st,ez⟩:=zeroC m (f:=0) (c:=2) (by omega) (by omega) hn
 obtain ⟨H2,F2,et,mt2,st2,_⟩:=m.trim mt st (.int .i64 (opsS r (zCi 0 2)).2)
 refine ⟨n',H2,F2,hn',mt2,st2,?_⟩
 have i2 : ((2 : Nat) : Int) = 2:=rfl
 rw [i2] at ez
 rw [c53]
 unfold b53
 simp -implicitDefEqProofs (maxSteps:=5000000) only [go_sem,simprocAttr,itr,itq,hr,ez,et]
section
variable {g : GmS} (hg : g.good = true) {cg : Nat} (hc : cellsOf H cg = some g.cells)
include hg hc
theorem form3C (hn : n + 256 ≤ 1000000000) : Does q H n r F (zCi 2 g.r.toNat) 55 [.ptr cr 0,.ptr cg 0]:=by
 have N:=g.nm hg
 have hr':=N.hr
 have hp':=N.hp
 obtain ⟨n',H',F',hn',mt,st,ez⟩:=zeroC m (f:=2) (c:=g.r.toNat) (by omega) (by omega) (by omega)
 obtain ⟨H2,F2,et,mt2,st2,_⟩:=m.trim mt st (.int .i64 (opsS r (zCi 2 g.r.toNat)).2)
 refine ⟨n',H2,F2,hn',mt2,st2,?_⟩
 have ir : ((g.r.toNat : Nat) : Int) = g.r:=by omega
 rw [ir] at ez
 have er:=ringP hg H
 have gl : g.cells.length = 5:=rfl
 have gt : g.cells.take 5 = g.cells:=rfl
 have g4 : g.cells[4]? = some (.int .i64 g.r):=rfl
 generalize g.cells = G at *
 rw [c55]
 unfold b55
 simp -implicitDefEqProofs (maxSteps:=5000000) only [go_sem,simprocAttr,itr,itq,hr,hc,gl,gt,g4,er,ez,et]
end
end
section
variable {q : RPl} {H : zAa} {n : Nat} {r : RgS} {F : Nat → Prop} (m : zA3 q H n r F) {g : GmS} (hg : g.good = true) {cr cg : Nat} (hr : cellsOf H cr = some [.ptr q.p 0]) (hc : cellsOf H cg = some g.cells) (nr : ¬ F cr) (ng : ¬ F cg)
 {B : Nat} {w : AV} {l : List (List Int)} (gr : GR 48 H B w (l.map u8s)) (gF : ∀ b,slb w = some b → ¬ F b) (h48 : ∀ x ∈ l,B48 x) (hl : l.length ≤ 1000) (hn : n + l.length ≤ 1000000000)
include m hg hr hc nr ng gr gF h48 hl hn
set_option maxHeartbeats 8000000 in
theorem form4L (x0 x7 : AV) : ∀ (k i : Nat) (K : zAa) (r' : RgS) (F' : Nat → Prop) (j3 j4 j5 j6 j11 j12 j13 j14 j15 j16 j17 j18 j19 j20 j21 j22 j23 j24 j25 j26 j27 : AV),zA3 q K (n + i) r' F' → zBm H F K F' → i + k = l.length →
  Outs (LP1 l57x0 [x0,.ptr cr 0,.ptr cg 0,j3,j4,j5,j6,x7,w,.int .i64 (l.length : Int),.int .i64 (i : Int),j11,j12,j13,j14,j15,j16,j17,j18,j19,j20,j21,j22,j23,j24,j25,j26,j27] K) fun e t K'=>∃ n' F'',zA3 q K' n' (opsS r' (zDi g.home (i : Int) (l.drop i))).1 F'' ∧ n' ≤ n + l.length ∧ zBm H F K' F'' ∧ ∃ fv : Nat → AV,t = [x0,.ptr cr 0,.ptr cg 0,(fv 3),(fv 4),(fv 5),(fv 6),x7,w,.int .i64 (l.length : Int),(fv 10),(fv 11),(fv 12),(fv 13),(fv 14),(fv 15),(fv 16),(fv 17),(fv 18),(fv 19),(fv 20),(fv 21),(fv 22),(fv 23),(fv 24),(fv 25),(fv 26),(fv 27)] ∧
   ((e = .exit 0 ∧ (opsS r' (zDi g.home (i : Int) (l.drop i))).2 = 0) ∨ (e = .ret ∧ fv 3 = .int .i64 (opsS r' (zDi g.home (i : Int) (l.drop i))).2 ∧ (opsS r' (zDi g.home (i : Int) (l.drop i))).2 ≠ 0)):=by
 intro k
 obtain ⟨L,hL⟩ : ∃ L,L = LP1 l57x0:=⟨_,rfl⟩
 have lo:=zBc hL
 rw [← hL]
 induction k with
 | zero =>
  intro i K r' F' j3 j4 j5 j6 j11 j12 j13 j14 j15 j16 j17 j18 j19 j20 j21 j22 j23 j24 j25 j26 j27 mK st hi
  obtain rfl : i = l.length:=by omega
  have hd : decide ((l.length : Int) < (l.length : Int)) = false:=by simp
  rw [lo,List.drop_length]
  unfold l57x0 zDi opsS
  simp -implicitDefEqProofs (maxSteps:=5000000) only [go_sem,simprocAttr,hd,zAu,zAc]
  exact ⟨_,F',mK,Nat.le_refl _,st,exF2 rfl (.inl trivial)⟩
 | succ k ih =>
  intro i K r' F' j3 j4 j5 j6 j11 j12 j13 j14 j15 j16 j17 j18 j19 j20 j21 j22 j23 j24 j25 j26 j27 mK st hi
  have hlt : i < l.length:=by omega
  have N:=g.nm hg
  have hd : decide ((i : Int) < (l.length : Int)) = true:=decide_eq_true (by omega)
  have e2 : IntKind.i64.wrap ((i : Int) + 1) = ((i + 1 : Nat) : Int):=by rw [zAq (by omega) (by omega)]; omega
  have wa : IntKind.i64.wrap (g.home + (i : Int)) = g.home + (i : Int):=by
   have:=N.hr; have:=N.hp
   unfold GmS.home
   exact zAq (by omega) (by omega)
  have hx:=List.getElem?_eq_getElem hlt
  have dr:=List.drop_eq_getElem_cons hlt
  have xb:=h48 _ (List.getElem_mem hlt)
  generalize l[i] = x at *
  have hr2:=zCf u8s hx
  obtain ⟨b,cs,sb,ix,hcs,ht,hle⟩:=GR.read (by omega) gr (fun r hr=>by
   obtain ⟨y,hy,rfl⟩:=List.mem_map.1 hr
   rw [zAd,(h48 y hy).1]) hr2
  have cK:=st.1.cells hcs (gF b sb)
  have rK:=fun X : zAa=>zAy (x:=X) (st.1.cells hr nr)
  have gK:=fun X : zAa=>zAy (x:=X) (st.1.cells hc ng)
  obtain ⟨pok,pen⟩:=zSb (i:=(i : Int)) (by omega) xb
  obtain ⟨n2,K2,F2,hn2,m2,st2,ew⟩:=mputC (mK.adds [.rw (u8s x)]) (g.home + (i : Int)) pok pen (by omega)
  have st3 : zBm H F K2 F2:=(st.trans (zBm.adds K [.rw (u8s x)] F')).trans st2
  have n2' : n2 ≤ n + (i + 1):=by simp only [List.length_cons,List.length_nil] at hn2; omega
  have m3 : zA3 q K2 (n + (i + 1)) (opsS r' [some (g.home + (i : Int),zEv (i : Int) x)]).1 F2:=m2.up n2' (by omega)
  have ew : (envL prog).call 58 [.ptr q.p 0,.int .i64 (g.home + (i : Int)),.agg (⟨72,0,(i : Int),x⟩ : PgS).cells] (K ++ [.rw (u8s x)]) = some (.int .i64 (opsS r' [some (g.home + (i : Int),zEv (i : Int) x)]).2,K2):=ew
  have ez : zDi g.home (i : Int) (l.drop i) = some (g.home + (i : Int),zEv (i : Int) x) :: zDi g.home ((i + 1 : Nat) : Int) (l.drop (i + 1)):=by
   rw [dr]
   show _ :: zDi g.home ((i : Int) + 1) _ = _
   rw [show (i : Int) + 1 = ((i + 1 : Nat) : Int) by omega]
  rw [zGz] at ew m3
  have hh:=fun X=>homeP hg (K ++ X)
  have hp:=fun X=>zK1 (i : Int) xb.1 (K ++ X)
  have xl : (u8s x).length = 48:=by rw [zAd,xb.1]
  have x48 : (u8s x).take 48 = u8s x:=List.take_of_length_le (by omega)
  have zl : (u8s zA2).length = 48:=by rw [zAd,zB7.1]
  have sp:=zCn zB7.1 xb.1 (by omega)
  have xc:=zAo x
  have gl : g.cells.length = 5:=rfl
  have gt : g.cells.take 5 = g.cells:=rfl
  rw [ez,zGn]
  generalize oneS r' (some (g.home + (i : Int),zEv (i : Int) x)) = O at *
  generalize g.cells = GC at *
  generalize u8s x = X at *
  generalize hZ : u8s zA2 = Z at *
  generalize (⟨72,0,(i : Int),x⟩ : PgS).cells = PC at *
  rw [lo]
  unfold l57x0
  by_cases hw : O.2 = 0
  ·have n0 : (O.2 != 0) = false:=by rw [hw]; rfl
   rw [if_pos hw]
   simp -implicitDefEqProofs (maxSteps:=5000000) only [go_sem,simprocAttr,itr,itq,hd,ix,cK,ht,hle,zBe,hZ,zl,xl,sp,xc,rK,gK,gl,gt,x48,hh,wa,hp,ew,n0,e2]
   exact ih (i + 1) _ _ _ _ _ _ _ _ _ _ _ _ _ _ _ _ _ _ _ _ _ _ _ _ m3 st3 (by omega)
  ·have n0 : (O.2 != 0) = true:=by simpa using hw
   rw [if_neg hw]
   simp -implicitDefEqProofs (maxSteps:=5000000) only [go_sem,simprocAttr,itr,itq,hd,ix,cK,ht,hle,zBe,hZ,zl,xl,sp,xc,rK,gK,gl,gt,x48,hh,wa,hp,ew,n0,zAc]
   exact ⟨_,_,m3,by omega,st3,exF2 rfl (.inr ⟨rfl,hw⟩)⟩
end
end Go.Proofs.YtbmmnfeeapnhkaaGreat.G08
end
section
namespace Go.Proofs.YtbmmnfeeapnhkaaGreat.G08
open Go Go.Proofs.YtbmmnfeeapnhkaaGreat.Eng
section
variable {q : RPl} {H : zAa} {n : Nat} {r : RgS} {F : Nat → Prop} (m : zA3 q H n r F) {g : GmS} (hg : g.good = true) {cb cr cg : Nat} (hr : cellsOf H cr = some [.ptr q.p 0]) (hc : cellsOf H cg = some g.cells) (nr : ¬ F cr) (ng : ¬ F cg)
include m hr nr
set_option maxHeartbeats 4000000 in
theorem form4C (hg : g.good = true) (hc : cellsOf H cg = some g.cells) (ng : ¬ F cg) {w : AV} {zs : List Int} (hb : cellsOf H cb = some [w]) (b : BS H w zs) (ok : zDz w) (hu : IsU8 zs) (hz : zs.length ≤ 1000) (hn : n + 100 ≤ 1000000000) : Does q H n r F (zDi g.home 0 (cutS zs)) 57 [.ptr cb 0,.ptr cr 0,.ptr cg 0]:=by
 obtain ⟨l,K,a,gr,ec⟩:=cutC b ok hu (by omega)
 have cl : (cutS zs).length ≤ 21:=by rw [zCe]; unfold zB1; omega
 have mK : zA3 q K n r F:=by obtain ⟨X,rfl⟩:=a; exact m.adds X
 have sK : zBm H F K F:=by obtain ⟨X,rfl⟩:=a; exact zBm.adds _ _ _
 have l0:=form4L mK hg (a.cells hr) (a.cells hc) nr ng gr (fun b hb hF=>by have:=m.lt _ hF; have:=(gr.out b hb).1; omega) (zFg hu) (by omega) (by omega) (k:=(cutS zs).length) (i:=0) (K:=K) (r':=r) (F':=F)
 rw [show ((0 : Nat) : Int) = 0 from rfl,List.drop_zero] at l0
 have ll : lenSl l = some (.int .i64 ((cutS zs).length : Int)):=by have:=gr.len; rw [List.length_map] at this; exact this
 have key : Outs (runC (envL prog) (b57 (envL prog)) ([.ptr cb 0,.ptr cr 0,.ptr cg 0] ++ List.replicate (28 - [AV.ptr cb 0,.ptr cr 0,.ptr cg 0].length) .undef) H) fun e' t K=>∃ n' F',n' ≤ n + (cutS zs).length ∧ zA3 q K n' (opsS r (zDi g.home 0 (cutS zs))).1 F' ∧ zBm H F K F' ∧ fin [.tmp 3] (some (e',t,K)) = some (.int .i64 (opsS r (zDi g.home 0 (cutS zs))).2,K):=by
  unfold b57
  generalize hQ : (fun (e' : Ex) (t : T) (K : zAa)=>∃ n' F',n' ≤ n + (cutS zs).length ∧ zA3 q K n' (opsS r (zDi g.home 0 (cutS zs))).1 F' ∧ zBm H F K F' ∧ fin [.tmp 3] (some (e',t,K)) = some (.int .i64 (opsS r (zDi g.home 0 (cutS zs))).2,K)) = Q
  simp -implicitDefEqProofs (maxSteps:=5000000) only [go_sem,simprocAttr,itr,itq,zA6,hb,ec,ll]
  unfold LP1 at l0
  generalize (envL prog).loop (runC (envL prog) (l57x0 (envL prog))) = L0 at l0 ⊢
  refine zBo (fun r=>seqR (zBr 0 r) _) (l0 _ _ _ _ _ _ _ _ _ _ _ _ _ _ _ _ _ _ _ _ _ _ _ mK (zBm.refl _ _) (by omega)) ?_
  rintro e t K' ⟨n',F',m',hn',st,fv,rfl,⟨rfl,h0⟩ | ⟨rfl,h6,h0⟩⟩
  ·simp -implicitDefEqProofs (maxSteps:=5000000) only [go_sem,simprocAttr,itr,itq,zAc]
   subst hQ
   refine ⟨n',F',hn',m',sK.trans st,?_⟩
   simp -implicitDefEqProofs (maxSteps:=5000000) only [go_sem,simprocAttr,h0]
  ·simp -implicitDefEqProofs (maxSteps:=5000000) only [go_sem,simprocAttr,itr,itq,zAc]
   subst hQ
   refine ⟨n',F',hn',m',sK.trans st,?_⟩
   simp -implicitDefEqProofs (maxSteps:=5000000) only [go_sem,simprocAttr,h6]
 obtain ⟨e',t,K',hr',n',F',hn',m',st,hf'⟩:=key
 obtain ⟨H',F'',et,mt,stt,_⟩:=m.trim m' st (.int .i64 (opsS r (zDi g.home 0 (cutS zs))).2)
 exact ⟨n',H',F'',by rw [zI4]; exact hn',mt,stt,by rw [c57,hr',hf',et]⟩
theorem form5C {cm pm : Nat} {p : PtS} (fp : p.Fit) {X : List AV} (hm : cellsOf H cm = some [.ptr pm 0]) (hp : cellsOf H pm = some (p.cells ++ X)) (hn : n + 1 ≤ 1000000000) : Does q H n r F [some (0,zC0 p)] 61 [.ptr cr 0,.ptr cm 0]:=by
 have ok:=zKd fp.gen
 have ek : zEx 83 0 = true:=rfl
 obtain ⟨n',H',F',hn',mt,st,ew⟩:=mputC m 0 (p:=zEk p) ok ek hn
 have ew : (envL prog).call 58 [.ptr q.p 0,.int .i64 0,.agg (zEk p).cells] H = some (.int .i64 (opsS r [some (0,zC0 p)]).2,H'):=ew
 have mt : zA3 q H' n' (opsS r [some (0,zC0 p)]).1 F':=mt
 obtain ⟨H2,F2,et,mt2,st2,_⟩:=m.trim mt st (.int .i64 (opsS r [some (0,zC0 p)]).2)
 refine ⟨n',H2,F2,hn',mt2,st2,?_⟩
 have es:=zVd fp H
 have pl : p.cells.length = 8:=rfl
 have pd : (p.cells ++ X).take 8 = p.cells:=by rw [← pl,List.take_left]
 have pz : 8 ≤ (p.cells ++ X).length:=by rw [List.length_append,pl]; omega
 generalize p.cells ++ X = PX at *
 generalize p.cells = PC at *
 generalize (zEk p).cells = SC at *
 rw [c61]
 unfold b61
 simp -implicitDefEqProofs (maxSteps:=5000000) only [go_sem,simprocAttr,itr,itq,hr,hm,hp,pz,pd,es,ew,et]
end
def zA9 (p : Nat) (m : MtS) (at0 seq0 : Int) (vb vh : AV) : List AV:=m.g.cells ++ [.int .u32 m.gen,.int .i64 at0,.int .u32 seq0,.ptr p 0,vb,vh,.int .i64 m.place,.int .i64 m.tail,.int .u32 m.next,.int .i64 m.used]
structure MtS.Ok (m : MtS) : Prop where
 g : m.g.good = true
 bl : (m.b.length : Int) = m.g.bytes
 bu : IsU8 m.b
 hl : (m.home.length : Int) = m.g.pages
 hh : ∀ x ∈ m.home,B48 x
 gen : 0 ≤ m.gen ∧ m.gen < 4294967296
 place : m.place = 0 ∨ m.place = 1
 tail : 0 ≤ m.tail ∧ m.tail < m.g.r
 next : 0 ≤ m.next ∧ m.next < 4294967296
 used : 0 ≤ m.used ∧ m.used ≤ 100000
structure MtC (H : zAa) (pm p : Nat) (m : MtS) (at0 seq0 : Int) (vb vh : AV) (G : Nat → Prop) : Prop where
 blk : H[pm]? = some (.rw (zA9 p m at0 seq0 vb vh))
 b : BS H vb m.b
 lb : zDz vb
 h : GR 48 H 0 vh (m.home.map u8s)
 gp : G pm
 gb : ∀ b,slb vb = some b → G b ∧ b ≠ pm
 gh : ∀ b,slb vh = some b → G b ∧ b ≠ pm
 lt : ∀ b,G b → b < H.length
def MtH (H : zAa) (pm p : Nat) (m : MtS) (G : Nat → Prop) : Prop:=∃ at0 seq0 vb vh,MtC H pm p m at0 seq0 vb vh G
theorem MtC.fr {H H' : zAa} {pm p : Nat} {m : MtS} {at0 seq0 : Int} {vb vh : AV} {G F : Nat → Prop} (c : MtC H pm p m at0 seq0 vb vh G) (a : Fr H H' F) (n : ∀ b,G b → ¬ F b) : MtC H' pm p m at0 seq0 vb vh G :=
 ⟨a.at c.blk (n _ c.gp),c.b.fr a fun b hb=>n b (c.gb b hb).1,c.lb,c.h.frS a fun b hb=>n b (c.gh b hb).1,c.gp,c.gb,c.gh,fun b hb=>Nat.lt_of_lt_of_le (c.lt b hb) a.1⟩
theorem MtH.fr {H H' : zAa} {pm p : Nat} {m : MtS} {G F : Nat → Prop} (c : MtH H pm p m G) (a : Fr H H' F) (n : ∀ b,G b → ¬ F b) : MtH H' pm p m G:=by
 obtain ⟨at0,seq0,vb,vh,c⟩:=c
 exact ⟨at0,seq0,vb,vh,c.fr a n⟩
theorem MtH.adds {H : zAa} {pm p : Nat} {m : MtS} {G : Nat → Prop} (c : MtH H pm p m G) (B : zAa) : MtH (H ++ B) pm p m G:=c.fr (Fr.adds ⟨B,rfl⟩ (fun _=>False)) fun _ _ h=>h
theorem MtH.lt {H : zAa} {pm p : Nat} {m : MtS} {G : Nat → Prop} (c : MtH H pm p m G) : ∀ b,G b → b < H.length:=by obtain ⟨_,_,_,_,c⟩:=c; exact c.lt
end Go.Proofs.YtbmmnfeeapnhkaaGreat.G08
end
section
namespace Go.Proofs.YtbmmnfeeapnhkaaGreat.G08
open Go Go.Proofs.YtbmmnfeeapnhkaaGreat.Eng
theorem zNr (g : GmS) (b : List Int) : (zBd g b).length = 3 + g.r.toNat + (cutS b).length + 3:=by
 unfold zBd
 simp [zI4]
 have : ∀ (c : Nat) (f : Int),(zCi f c).length = c:=by
  intro c
  induction c with
  | zero=>intro f; rfl
  | succ c ih=>intro f; simp [zCi,ih]
 rw [this]; omega
section
variable {q : RPl} {H : zAa} {n : Nat} {r : RgS} {F : Nat → Prop} (m : zA3 q H n r F) {g : GmS} {w : AV} {zs : List Int} (b : BS H w zs) (ok : zDz w) (hu : IsU8 zs) (hz : zs.length ≤ 100000) (hn : n + 2000 ≤ 1000000000) (wF : ∀ b,slb w = some b → ¬ F b)
include m b ok hu hz hn wF
set_option maxHeartbeats 16000000 in
theorem zMi (hm : mayS r g zs = true) : ∃ n' H' F',n' ≤ n + 1000 ∧ zA3 q H' n' (opsS r (zBd g zs)).1 F' ∧ zBm H F H' F' ∧
  (((opsS r (zBd g zs)).2 = 0 ∧ ∃ pm G,MtH H' pm q.p (zEg g zs) G ∧ (∀ b,G b → H.length ≤ b ∧ ¬ F' b) ∧ (envL prog).call 15 [.ptr q.p 0,.agg g.cells,w] H = some (.tup [.ptr pm 0,.int .i64 0],H')) ∨
   ((opsS r (zBd g zs)).2 ≠ 0 ∧ (envL prog).call 15 [.ptr q.p 0,.agg g.cells,w] H = some (.tup [.nilPtr,.int .i64 (opsS r (zBd g zs)).2],H'))):=by
 have hcw : zA7 w = some [w]:=b.is.cells
 have ln:=b.len
 have hm':=hm
 unfold mayS at hm'
 simp only [Bool.and_eq_true,decide_eq_true_eq] at hm'
 obtain ⟨⟨hg,hr⟩,hlen⟩:=hm'
 have N:=g.nm hg
 have Ny:=N.hy; have Nr:=N.hr; have Np:=N.hp
 have eg:=fun X=>goodP g (H ++ X)
 have gl : g.cells.length = 5:=rfl
 have gt : g.cells.take 5 = g.cells:=rfl
 have er:=fun X=>roomC (m.adds X) hg
 have ey:=fun X=>bytesP hg (H ++ X)
 rw [hg] at eg
 rw [hr] at er
 have ne : ((zs.length : Int) != g.bytes) = false:=by rw [hlen]; simp
 obtain ⟨K0,hK0⟩ : ∃ K0 : zAa,K0 = H ++ [.rw [.ptr q.p 0],.rw g.cells,.rw [w],.rw [.nilPtr]]:=⟨_,rfl⟩
 have K0l : K0.length = H.length + 4:=by rw [hK0]; simp
 have a0 : Adds H K0:=⟨_,hK0⟩
 obtain ⟨v',X1,o1,ec1⟩:=Bt.cloneC (a0.bs b) (by omega)
 have a1 : Adds K0 (K0 ++ X1):=⟨_,rfl⟩
 obtain ⟨l2,K2,a2,g2,ec2⟩:=cutC (a1.bs (a0.bs b)) ok hu hz
 have a02 : Adds K0 K2:=a1.trans a2
 have cls : ∀ K,Adds K0 K → cellsOf K H.length = some [.ptr q.p 0] ∧ cellsOf K (H.length + 1) = some g.cells ∧ cellsOf K (H.length + 2) = some [w] ∧ K[H.length + 3]? = some (.rw [.nilPtr]):=fun K a =>
  ⟨a.cells (by rw [hK0]; unfold cellsOf; simp),a.cells (by rw [hK0]; unfold cellsOf; simp),a.cells (by rw [hK0]; unfold cellsOf; simp),a.at (by rw [hK0]; simp)⟩
 obtain ⟨MC,hMC⟩ : ∃ MC,MC = zA9 q.p (zEg g zs) 0 1 v' l2:=⟨_,rfl⟩
 obtain ⟨K3,hK3⟩ : ∃ K3 : zAa,K3 = List.set (K2 ++ [ABlk.rw MC]) (H.length + 3) (ABlk.rw [.ptr K2.length 0]):=⟨_,rfl⟩
 have K2l : K0.length ≤ K2.length:=a02.len
 have K3l : K3.length = K2.length + 1:=by rw [hK3]; simp
 obtain ⟨k1,k2,k3,k4⟩:=cls K2 a02
 obtain ⟨p1,p2,p3,_⟩:=cls (K0 ++ X1) a1
 obtain ⟨FS,hFS⟩ : ∃ FS : List FnS,FS = [(53,[.ptr H.length 0],zCi 0 2),(50,[.ptr H.length 0],[none]),(55,[.ptr H.length 0,.ptr (H.length + 1) 0],zCi 2 g.r.toNat),(57,[.ptr (H.length + 2) 0,.ptr H.length 0,.ptr (H.length + 1) 0],zDi g.home 0 (cutS zs)),(50,[.ptr H.length 0],[none]),(61,[.ptr H.length 0,.ptr (H.length + 3) 0],[some (0,zC0 ⟨g,1,0,1⟩)]),(50,[.ptr H.length 0],[none])]:=⟨_,rfl⟩
 have eops : opsF FS = zBd g zs:=by
  rw [hFS]
  unfold opsF zBd
  simp [zCi]
 have hops : (opsF FS).length ≤ 1000:=by
  rw [eops,zNr,zCe]; unfold zB1; omega
 obtain ⟨K4,hK4⟩ : ∃ K4 : zAa,K4 = K3 ++ [.rw (FS.map fun x=>AV.fn x.1 x.2.1)]:=⟨_,rfl⟩
 have K4l : K4.length = K2.length + 2:=by rw [hK4]; simp [K3l]
 have aH3 : Adds H K3:=by rw [hK3]; exact zD5 ((a0.trans a02).trans ⟨_,rfl⟩) _ (by omega)
 have aH4 : Adds H K4:=aH3.trans ⟨_,hK4⟩
 have at4 : ∀ b,b < K2.length → b ≠ H.length + 3 → K4[b]? = K2[b]?:=fun b hb hne=>by
  rw [hK4,List.getElem?_append_left (by omega),hK3,zAf _ _ _ _ hne,List.getElem?_append_left hb]
 have c4 : ∀ b,b < K2.length → b ≠ H.length + 3 → cellsOf K4 b = cellsOf K2 b:=fun b hb hne=>zDv (at4 b hb hne)
 have r4 : cellsOf K4 H.length = some [.ptr q.p 0]:=(c4 _ (by omega) (by omega)).trans k1
 have g4 : cellsOf K4 (H.length + 1) = some g.cells:=(c4 _ (by omega) (by omega)).trans k2
 have w4 : cellsOf K4 (H.length + 2) = some [w]:=(c4 _ (by omega) (by omega)).trans k3
 have m4 : K4[H.length + 3]? = some (.rw [.ptr K2.length 0]):=by
  rw [hK4,List.getElem?_append_left (by omega),hK3]; exact zA4 _ _ _ (by simp; omega)
 have pm4 : K4[K2.length]? = some (.rw MC):=by
  rw [hK4,List.getElem?_append_left (by omega),hK3,zAf _ _ _ _ (by omega)]; simp
 have mK4 : zA3 q K4 n r F:=by obtain ⟨X,rfl⟩:=aH4; exact m.adds X
 have nF : ∀ b,H.length ≤ b → ¬ F b:=fun b hb hf=>by have:=m.lt b hf; omega
 have hMP : MC = (⟨g,1,0,1⟩ : PtS).cells ++ [.ptr q.p 0,v',l2,.int .i64 0,.int .i64 0,.int .u32 1,.int .i64 0]:=by
  rw [hMC]; rfl
 have fp : (⟨g,1,0,1⟩ : PtS).Fit:=⟨fitG hg,by simp,by simp,by simp⟩
 have bs4 : BS K4 w zs:=aH4.bs b
 have keep : ∀ {K : zAa} {F' : Nat → Prop} {c : Nat} {cs : List AV},zBm K4 F K F' → cellsOf K4 c = some cs → H.length ≤ c → cellsOf K c = some cs:=fun st hc hl=>st.1.cells hc (nF _ hl)
 have hb4 : cellsOf K4 K3.length = some (FS.map fun x=>AV.fn x.1 x.2.1):=by rw [hK4]; unfold cellsOf; simp
 obtain ⟨n',K5,F5,hn5,m5,st5,ea⟩:=allC mK4 (b:=K3.length) (fs:=FS) hb4 (nF _ (by omega)) (fun x hx K n' r' F' mK st hnm hnn=>by
  rw [hFS] at hx
  have f' : ∀ b,H.length ≤ b → b < K4.length → ¬ F' b:=fun b h1 h2 hf=>by
   rcases st.2 b hf with h | h
   ·exact nF b h1 h
   ·omega
  simp only [List.mem_cons,List.not_mem_nil,or_false] at hx
  rcases hx with rfl | rfl | rfl | rfl | rfl | rfl | rfl
  ·exact form2C mK (keep st r4 (Nat.le_refl _)) (by simpa [zCi] using hnn)
  ·exact zXq mK (keep st r4 (Nat.le_refl _))
  ·exact form3C mK (keep st r4 (Nat.le_refl _)) hg (keep st g4 (by omega)) (by omega)
  ·exact form4C mK (keep st r4 (Nat.le_refl _)) (f' _ (Nat.le_refl _) (by omega)) hg (keep st g4 (by omega)) (f' _ (by omega) (by omega)) (keep st w4 (by omega)) (bs4.fr st.1 wF) ok hu (by omega) (by omega)
  ·exact zXq mK (keep st r4 (Nat.le_refl _))
  ·exact form5C mK (keep st r4 (Nat.le_refl _)) (f' _ (Nat.le_refl _) (by omega)) fp (keep st (zAj m4) (by omega)) (keep st (by rw [← hMP]; exact zAj pm4) (by omega)) (by simpa using hnn)
  ·exact zXq mK (keep st r4 (Nat.le_refl _))) (by rw [hFS]; simp) (by omega)
 rw [eops] at hops hn5 m5 ea
 have fl : FS.length = 7:=by rw [hFS]; rfl
 rw [fl] at ea
 have sH4 : zBm H F K4 F:=by obtain ⟨X,e⟩:=aH4; rw [e]; exact zBm.adds _ _ _
 have sH5:=sH4.trans st5
 obtain ⟨H',F'',et,mt,stt,_⟩:=m.trim m5 sH5 (.tup [.nilPtr,.int .i64 (opsS r (zBd g zs)).2])
 have c5 : cellsOf K5 (H.length + 3) = some [.ptr K2.length 0]:=keep st5 (zAj m4) (by omega)
 have tk : trim H (some (AV.tup [.ptr K2.length 0,.int .i64 0],K5)) = some (.tup [.ptr K2.length 0,.int .i64 0],K5):=zBa (by simp [AV.under,zAt]; omega)
 have hl2:=g2.cells.1
 have hv1 : zA7 v' = some [v']:=o1.bs.is.cells
 obtain ⟨K1,hK1⟩ : ∃ K1,K1 = K0 ++ X1:=⟨_,rfl⟩
 have o1b:=o1.bs
 rw [← hK1] at ec1 ec2 p1 p2 p3
 have wr : zAz (K2 ++ [.rw MC]) (H.length + 3) 0 [.ptr K2.length 0] = some K3:=by
  rw [hK3]
  exact zJ8 (x:=.nilPtr) (by rw [List.getElem?_append_left (by omega)]; exact k4) rfl
 have main : ∀ (E : Int) (V : zAa × AV),E = (opsS r (zBd g zs)).2 → ((E = 0 ∧ V = (K5,.ptr K2.length 0)) ∨ (E ≠ 0 ∧ V = (H',.nilPtr))) → (envL prog).call 15 [.ptr q.p 0,.agg g.cells,w] H = some (.tup [V.2,.int .i64 E],V.1):=by
  intro E V hE hV
  rw [← hE] at ea et
  rw [hMC] at wr
  rw [hK4,K3l] at ea
  have eFS : (FS.map fun x=>AV.fn x.1 x.2.1) = [AV.fn 53 [.ptr H.length 0],AV.fn 50 [.ptr H.length 0],AV.fn 55 [.ptr H.length 0,.ptr (H.length + 1) 0],AV.fn 57 [.ptr (H.length + 2) 0,.ptr H.length 0,.ptr (H.length + 1) 0],AV.fn 50 [.ptr H.length 0],AV.fn 61 [.ptr H.length 0,.ptr (H.length + 3) 0],AV.fn 50 [.ptr H.length 0]]:=by rw [hFS]; rfl
  rw [eFS] at ea
  rw [hK0] at ec1
  clear hFS hK0 hK1 hK3 hK4
  obtain ⟨gb,gs,gw,ga,gr⟩:=g
  unfold zA9 zEg at wr
  unfold GmS.cells at *
  simp only [List.cons_append,List.nil_append] at wr
  rcases hV with ⟨h0,rfl⟩ | ⟨h0,rfl⟩
  ·rw [h0] at ea ⊢
   have n0 : ((0 : Int) != 0) = false:=rfl
   rw [c15]
   unfold b15
   simp -implicitDefEqProofs (maxSteps:=5000000) only [go_sem,simprocAttr,itr,itq,hcw,eg,er,ln,ey,ne,ec1,p1,p2,p3,ec2,k1,k2,k3,hv1,hl2,zAw,wr,K3l,ea,n0,c5,tk]
  ·have n0 : (E != 0) = true:=by simpa using h0
   rw [c15]
   unfold b15
   simp -implicitDefEqProofs (maxSteps:=5000000) only [go_sem,simprocAttr,itr,itq,hcw,eg,er,ln,ey,ne,ec1,p1,p2,p3,ec2,k1,k2,k3,hv1,hl2,zAw,wr,K3l,ea,n0,et]
 refine ⟨n',?_⟩
 by_cases h0 : (opsS r (zBd g zs)).2 = 0
 ·have e0:=main 0 (K5,.ptr K2.length 0) h0.symm (.inl ⟨rfl,rfl⟩)
  have vo : ∀ b,slb v' = some b → K0.length ≤ b ∧ b < K2.length:=fun b hb=>by
   have h2:=a2.len
   rcases o1 with ⟨_,⟨rfl,_⟩ | ⟨rfl,rfl⟩⟩ | ⟨_,rfl,rfl⟩
   ·cases hb
   ·injection hb with hb; subst hb
    simp only [List.length_append,List.length_cons,List.length_nil] at h2
    omega
   ·injection hb with hb; subst hb
    simp only [List.length_append,List.length_cons,List.length_nil] at h2
    omega
  have lv : zDz v':=fun b o s n l e he=>by
   rcases o1 with ⟨_,⟨rfl,_⟩ | ⟨rfl,rfl⟩⟩ | ⟨_,rfl,rfl⟩
   ·cases he
   ·injection he; omega
   ·injection he; omega
  have lo : ∀ b,slb l2 = some b → K0.length ≤ b ∧ b < K2.length:=fun b hb=>by
   have:=g2.out b hb
   have h2:=a1.len
   exact ⟨by omega,by omega⟩
  have f24 : Fr K2 K4 (fun b=>b = H.length + 3):=⟨by omega,fun b hb hn=>at4 b hb hn⟩
  have mc : MtC K4 K2.length q.p (zEg g zs) 0 1 v' l2 (fun b=>K0.length ≤ b ∧ b < K4.length) :=
   ⟨by rw [← hMC]; exact pm4,(a2.bs o1b).fr f24 fun b hb=>by have:=vo b hb; omega,lv,(g2.low (Nat.zero_le _)).frS f24 fun b hb=>by have:=lo b hb; omega,⟨by omega,by omega⟩,fun b hb=>by have:=vo b hb; exact ⟨⟨this.1,by omega⟩,by omega⟩,fun b hb=>by have:=lo b hb; exact ⟨⟨this.1,by omega⟩,by omega⟩,fun b hb=>hb.2⟩
  refine ⟨K5,F5,by omega,m5,sH5,.inl ⟨h0,K2.length,_,⟨0,1,v',l2,mc.fr st5.1 fun b hb=>nF b (by omega)⟩,fun b hb=>⟨by omega,fun hf=>?_⟩,e0⟩⟩
  rcases st5.2 b hf with h | h
  ·exact nF b (by omega) h
  ·omega
 ·exact ⟨H',F'',by omega,mt,stt,.inr ⟨h0,main _ (H',.nilPtr) rfl (.inr ⟨h0,rfl⟩)⟩⟩
end
end Go.Proofs.YtbmmnfeeapnhkaaGreat.G08
end
section
namespace Go.Proofs.YtbmmnfeeapnhkaaGreat.G08
open Go Go.Proofs.YtbmmnfeeapnhkaaGreat.Eng
theorem ne_pg {p p' : PgS} (h : p.b.length = 48) (h' : p'.b.length = 48) : binV .neq (.flat 51) (.agg p.cells) (.agg p'.cells) = some (.bool (!decide (p = p'))):=by
 have e:=eq_pg h h'
 unfold binV at e ⊢
 simp only [Option.map_eq_some_iff] at e ⊢
 obtain ⟨x,e1,e2⟩:=e
 injection e2 with e2
 exact ⟨x,e1,by rw [e2]⟩
theorem zK0 (r : RgS) (h : Int) (k : Nat) (i : Int) : zB2 r h (k + 1) i =
  if (r.read 0 (h + i)).2 = 0 then
   if (decS (r.read 0 (h + i)).1).2 = 0 ∧ (decS (r.read 0 (h + i)).1).1 = ⟨72,0,i,(decS (r.read 0 (h + i)).1).1.b⟩ then
    if (zB2 r h k (i + 1)).2 = 0 then ((decS (r.read 0 (h + i)).1).1.b :: (zB2 r h k (i + 1)).1,0) else ([],(zB2 r h k (i + 1)).2)
   else ([],11)
  else ([],(r.read 0 (h + i)).2):=rfl
theorem zO7 {A : List (List Int)} (h : ∀ x ∈ A,x.length = 48) : ∀ r ∈ A.map u8s,r.length = 48:=fun r hr=>by
 obtain ⟨x,hx,rfl⟩:=List.mem_map.1 hr
 rw [zAd,h x hx]
section
variable {q : RPl} {H : zAa} {n : Nat} {r : RgS} {F : Nat → Prop} (m : zA3 q H n r F) {g : GmS} (hg : g.good = true)
include m hg
set_option maxHeartbeats 16000000 in
theorem homesL (x1 x2 x11 x49 : AV) : ∀ (k i : Nat) (v : AV) (A : List (List Int)) (K : zAa) (j4 j5 j7 j8 j9 j10 j14 j15 j16 j17 j18 j19 j20 j21 j22 j23 j24 j25 j26 j27 j28 j29 j30 j31 j32 j33 j34 j35 j36 j37 j38 j39 j40 j41 j42 j43 j44 j45 j46 j47 j48 : AV),Adds (H ++ [.rw g.cells]) K → GR 48 K (H.length + 1) v (A.map u8s) → (∀ x ∈ A,x.length = 48) → A.length ≤ i → i + k = g.pages.toNat →
  Outs (LP1 l86x0 [.ptr q.p 0,x1,x2,.ptr H.length 0,j4,j5,v,j7,j8,j9,j10,x11,.int .i64 g.pages,.int .i64 (i : Int),j14,j15,j16,j17,j18,j19,j20,j21,j22,j23,j24,j25,j26,j27,j28,j29,j30,j31,j32,j33,j34,j35,j36,j37,j38,j39,j40,j41,j42,j43,j44,j45,j46,j47,j48,x49] K) fun e t K'=>Adds (H ++ [.rw g.cells]) K' ∧ ∃ fv : Nat → AV,t = [.ptr q.p 0,x1,x2,.ptr H.length 0,(fv 4),(fv 5),(fv 6),(fv 7),(fv 8),(fv 9),(fv 10),x11,.int .i64 g.pages,(fv 13),(fv 14),(fv 15),(fv 16),(fv 17),(fv 18),(fv 19),(fv 20),(fv 21),(fv 22),(fv 23),(fv 24),(fv 25),(fv 26),(fv 27),(fv 28),(fv 29),(fv 30),(fv 31),(fv 32),(fv 33),(fv 34),(fv 35),(fv 36),(fv 37),(fv 38),(fv 39),(fv 40),(fv 41),(fv 42),(fv 43),(fv 44),(fv 45),(fv 46),(fv 47),(fv 48),x49] ∧
   ((e = .exit 0 ∧ (zB2 r g.home k (i : Int)).2 = 0 ∧ GR 48 K' (H.length + 1) (fv 6) ((A ++ (zB2 r g.home k (i : Int)).1).map u8s) ∧ ∀ x ∈ A ++ (zB2 r g.home k (i : Int)).1,x.length = 48) ∨
    (e = .ret ∧ (zB2 r g.home k (i : Int)).2 ≠ 0 ∧ fv 4 = .nilSl ∧ fv 5 = .int .i64 (zB2 r g.home k (i : Int)).2)):=by
 intro k
 obtain ⟨L,hL⟩ : ∃ L,L = LP1 l86x0:=⟨_,rfl⟩
 have lo:=zBc hL
 have N:=g.nm hg
 have Np:=N.hp; have Nr:=N.hr
 rw [← hL]
 induction k with
 | zero =>
  intro i v A K j4 j5 j7 j8 j9 j10 j14 j15 j16 j17 j18 j19 j20 j21 j22 j23 j24 j25 j26 j27 j28 j29 j30 j31 j32 j33 j34 j35 j36 j37 j38 j39 j40 j41 j42 j43 j44 j45 j46 j47 j48 a gr h48 hA hi
  have hd : decide ((i : Int) < g.pages) = false:=decide_eq_false (by omega)
  rw [lo]
  unfold l86x0
  simp -implicitDefEqProofs (maxSteps:=5000000) only [go_sem,simprocAttr,hd,zAu,zAc]
  refine ⟨a,exF2 rfl (.inl ?_)⟩
  unfold zB2
  rw [List.append_nil]
  exact ⟨rfl,gr,h48⟩
 | succ k ih =>
  intro i v A K j4 j5 j7 j8 j9 j10 j14 j15 j16 j17 j18 j19 j20 j21 j22 j23 j24 j25 j26 j27 j28 j29 j30 j31 j32 j33 j34 j35 j36 j37 j38 j39 j40 j41 j42 j43 j44 j45 j46 j47 j48 a gr h48 hA hi
  have hd : decide ((i : Int) < g.pages) = true:=decide_eq_true (by omega)
  have e2 : IntKind.i64.wrap ((i : Int) + 1) = ((i + 1 : Nat) : Int):=by rw [zAq (by omega) (by omega)]; omega
  have wa : IntKind.i64.wrap (g.home + (i : Int)) = g.home + (i : Int):=by
   unfold GmS.home
   exact zAq (by omega) (by omega)
  have mK : zA3 q K n r F:=by obtain ⟨X,rfl⟩:=a; exact (m.adds _).adds X
  have er:=zYy mK 0 (g.home + (i : Int))
  have ok:=zUn mK 0 (g.home + (i : Int))
  have cg:=a.cells (p:=H.length) (cs:=g.cells) (by unfold cellsOf; simp)
  have hh:=homeP hg K
  rw [zK0,show (i : Int) + 1 = ((i + 1 : Nat) : Int) by omega]
  have gl : g.cells.length = 5:=rfl
  have gt : g.cells.take 5 = g.cells:=rfl
  have aX : ∀ X,Adds (H ++ [.rw g.cells]) (K ++ X):=fun X=>a.trans ⟨X,rfl⟩
  generalize hZ : (r.read 0 (g.home + (i : Int))).1 = z at *
  generalize hE : (r.read 0 (g.home + (i : Int))).2 = E at *
  have zl : z.length = 64:=ok.1
  have sp64:=zCn zBz zl (by omega)
  have zc:=zAo z
  have ul : (u8s z).length = 64:=by rw [zAd,zl]
  have ut : (u8s z).take 64 = u8s z:=List.take_of_length_le (by omega)
  have bl : (u8s z64).length = 64:=by rw [zAd,zBz]
  have ed:=fun X=>decC ok (K ++ X)
  have dok:=zJb ok
  generalize hD : (decS z).1 = p at *
  have p51 : p.cells.length = 51:=by simp [PgS.cells,zAd,dok.b.1]
  have pc : p.cells.all AV.isCell = true:=by simp [PgS.cells,AV.isCell]; exact fun x hx=>List.all_eq_true.1 (zAo p.b) x hx
  have hs0 : zBp (AV.int .u8 0 :: .int .u32 0 :: .int .i64 0 :: u8s zA2) 0 p.cells = p.cells:=by
   rw [zAs _ _ _ (by rw [p51]; omega),List.drop_of_length_le (by rw [p51]; simp [zAd,zB7.1]),List.append_nil]; rfl
  have pt : p.cells.take 51 = p.cells:=List.take_of_length_le (by omega)
  have pd : (p.cells.drop 3).take 48 = u8s p.b:=by
   show (u8s p.b).take 48 = _
   exact List.take_of_length_le (by rw [zAd,dok.b.1]; exact Nat.le_refl _)
  have hp:=fun X=>zK1 (i : Int) dok.b.1 (K ++ X)
  have np:=ne_pg (p:=p) (p':=⟨72,0,(i : Int),p.b⟩) dok.b.1 dok.b.1
  have zb : (u8s zA2).length = 48:=by rw [zAd,zB7.1]
  have pbl : (u8s p.b).length = 48:=by rw [zAd,dok.b.1]
  have gK : GR 48 (K ++ [.rw (u8s z),.rw p.cells,.rw (u8s p.b)]) (H.length + 1) v (A.map u8s):=gr.mono _
  obtain ⟨v',K',ha,g',fr,sv,l',c1,c2⟩:=zQr (k:=48) (by omega) (d:=ty 48 true 48 (rep 48 (.int .u8 0))) rfl (by decide) (s:=K.length + 2) (r:=u8s p.b) gK (zO7 h48) (by unfold cellsOf; simp) pbl (zAo _) (by rw [List.length_map]; unfold roomy; show (_ + 1) * 48 ≤ _; omega) (by have:=a.len; simp at this ⊢; omega)
  have a' : Adds (H ++ [.rw g.cells]) K':=fr.old (aX _) fun b hb hs=>by have:=(gr.out b hs).1; simp at hb; omega
  have rb1 : zHp (u8s zA2) [(0,48,.agg (u8s p.b))] = some (u8s p.b):=by
   rw [zId,zFt]
   simp only [Option.bind_some]
   rw [if_pos ⟨pbl,by rw [zb]; omega⟩,zJ2,zAs _ _ _ (by omega),pbl]
   simp [List.drop_of_length_le (show (u8s zA2).length ≤ 48 by omega)]
  have rz : rep 48 (.int .u8 0) = u8s zA2:=zBe
  rw [rz] at ha
  have gA : GR 48 K' (H.length + 1) v' ((A ++ [p.b]).map u8s):=by rw [List.map_append]; exact g'
  have hA1 : ∀ x ∈ A ++ [p.b],x.length = 48:=fun x hx=>by
   rcases List.mem_append.1 hx with hx | hx
   ·exact h48 x hx
   ·rw [List.mem_singleton.1 hx]; exact dok.b.1
  generalize (⟨72,0,(i : Int),p.b⟩ : PgS) = P2 at *
  generalize g.cells = GC at *
  generalize hUZ : u8s z = UZ at *
  generalize hZB : u8s zA2 = ZB at *
  generalize hZ6 : u8s z64 = Z6 at *
  generalize hPB : u8s p.b = PB at *
  rw [lo]
  unfold l86x0
  by_cases hw : E = 0
  ·rw [if_pos hw]
   have n0 : (E != 0) = false:=by rw [hw]; rfl
   by_cases hq : (decS z).2 = 0 ∧ p = P2
   ·rw [if_pos hq]
    have n1 : ((decS z).2 != 0) = false:=by rw [hq.1]; rfl
    have n2 : (!decide (p = P2)) = false:=by rw [decide_eq_true hq.2]; rfl
    simp -implicitDefEqProofs (maxSteps:=5000000) only [go_sem,simprocAttr,itr,itq,hd,cg,gl,gt,hh,wa,er,n0,zB9,zBe,hZ6,hZB,bl,ul,ut,sp64,zc,ed,n1,n2,p51,pc,hs0,pt,pd,hp,np,zb,pbl,rb1,ha,c1,e2]
    refine Outs.mono (ih (i + 1) v' (A ++ [p.b]) K' _ _ _ _ _ _ _ _ _ _ _ _ _ _ _ _ _ _ _ _ _ _ _ _ _ _ _ _ _ _ _ _ _ _ _ _ _ _ _ _ _ a' gA hA1 (by simp; omega) (by omega)) ?_
    rintro e t K'' ⟨b1,fv,rfl,⟨rfl,h0,g2,h2⟩ | ⟨rfl,h0,h4,h5⟩⟩
    ·rw [if_pos h0]
     rw [List.append_assoc] at g2 h2
     exact ⟨b1,fv,rfl,.inl ⟨rfl,rfl,g2,h2⟩⟩
    ·rw [if_neg h0]
     exact ⟨b1,fv,rfl,.inr ⟨rfl,h0,h4,h5⟩⟩
   ·rw [if_neg hq]
    by_cases hq1 : (decS z).2 = 0
    ·have n1 : ((decS z).2 != 0) = false:=by rw [hq1]; rfl
     have n2 : (!decide (p = P2)) = true:=by rw [decide_eq_false fun h=>hq ⟨hq1,h⟩]; rfl
     simp -implicitDefEqProofs (maxSteps:=5000000) only [go_sem,simprocAttr,itr,itq,hd,cg,gl,gt,hh,wa,er,n0,zB9,zBe,hZ6,hZB,bl,ul,ut,sp64,zc,ed,n1,n2,p51,pc,hs0,pt,pd,hp,np,zb,zAc]
     exact ⟨aX _,exF2 rfl (.inr ⟨rfl,rfl⟩)⟩
    ·have n1 : ((decS z).2 != 0) = true:=by simpa using hq1
     simp -implicitDefEqProofs (maxSteps:=5000000) only [go_sem,simprocAttr,itr,itq,hd,cg,gl,gt,hh,wa,er,n0,zB9,zBe,hZ6,hZB,bl,ul,ut,sp64,zc,ed,n1,p51,pc,hs0,pt,pd,hp,np,zb,zAc]
     exact ⟨aX _,exF2 rfl (.inr ⟨rfl,rfl⟩)⟩
  ·rw [if_neg hw]
   have n0 : (E != 0) = true:=by simpa using hw
   simp -implicitDefEqProofs (maxSteps:=5000000) only [go_sem,simprocAttr,itr,itq,hd,cg,gl,gt,hh,wa,er,n0,zB9,hZ6,bl,ul,ut,sp64,zc,zAc]
   exact ⟨aX _,exF2 rfl (.inr ⟨hw,rfl,rfl⟩)⟩
set_option maxHeartbeats 4000000 in
theorem homesC : ∃ v K,Adds H K ∧ (((zB2 r g.home g.pages.toNat 0).2 = 0 ∧ GR 48 K H.length v ((zB2 r g.home g.pages.toNat 0).1.map u8s) ∧ ∀ x ∈ (zB2 r g.home g.pages.toNat 0).1,x.length = 48) ∨ ((zB2 r g.home g.pages.toNat 0).2 ≠ 0 ∧ v = .nilSl)) ∧
  (envL prog).call 86 [.ptr q.p 0,.agg g.cells] H = some (.tup [v,.int .i64 (zB2 r g.home g.pages.toNat 0).2],K):=by
 have l0:=homesL m hg (k:=g.pages.toNat) (i:=0) (v:=.nilSl) (A:=[]) (K:=H ++ [.rw g.cells])
 rw [show ((0 : Nat) : Int) = 0 from rfl] at l0
 have ep:=fun X=>pagesP hg (H ++ X)
 have gl : g.cells.length = 5:=rfl
 have gt : g.cells.take 5 = g.cells:=rfl
 generalize zB2 r g.home g.pages.toNat 0 = R at *
 have key : Outs (runC (envL prog) (b86 (envL prog)) ([.ptr q.p 0,.agg g.cells] ++ List.replicate (50 - [AV.ptr q.p 0,.agg g.cells].length) .undef) H) fun e' t K=>∃ v,Adds (H ++ [.rw g.cells]) K ∧ ((R.2 = 0 ∧ GR 48 K (H.length + 1) v (R.1.map u8s) ∧ ∀ x ∈ R.1,x.length = 48) ∨ (R.2 ≠ 0 ∧ v = .nilSl)) ∧ fin [.tmp 4,.tmp 5] (some (e',t,K)) = some (.tup [v,.int .i64 R.2],K):=by
  unfold b86
  generalize hQ : (fun (e' : Ex) (t : T) (K : zAa)=>∃ v,Adds (H ++ [.rw g.cells]) K ∧ ((R.2 = 0 ∧ GR 48 K (H.length + 1) v (R.1.map u8s) ∧ ∀ x ∈ R.1,x.length = 48) ∨ (R.2 ≠ 0 ∧ v = .nilSl)) ∧ fin [.tmp 4,.tmp 5] (some (e',t,K)) = some (.tup [v,.int .i64 R.2],K)) = Q
  generalize g.cells = GC at *
  simp -implicitDefEqProofs (maxSteps:=5000000) only [go_sem,simprocAttr,itr,itq,zA6,gl,gt,ep]
  unfold LP1 at l0
  generalize (envL prog).loop (runC (envL prog) (l86x0 (envL prog))) = L0 at l0 ⊢
  refine zBo (fun r=>seqR (zBr 0 r) _) (l0 _ _ _ _ _ _ _ _ _ _ _ _ _ _ _ _ _ _ _ _ _ _ _ _ _ _ _ _ _ _ _ _ _ _ _ _ _ _ _ _ _ _ _ _ _ (Adds.refl _) (.inl ⟨rfl,rfl⟩) (by simp) (Nat.le_refl _) (by omega)) ?_
  rintro e t K ⟨a,fv,rfl,⟨rfl,h0,g2,h2⟩ | ⟨rfl,h0,h4,h5⟩⟩
  ·simp -implicitDefEqProofs (maxSteps:=5000000) only [go_sem,simprocAttr,itr,itq,zAc]
   subst hQ
   refine ⟨fv 6,a,.inl ⟨h0,g2,h2⟩,?_⟩
   simp -implicitDefEqProofs (maxSteps:=5000000) only [go_sem,simprocAttr,h0]
  ·simp -implicitDefEqProofs (maxSteps:=5000000) only [go_sem,simprocAttr,itr,itq,zAc]
   subst hQ
   refine ⟨.nilSl,a,.inr ⟨h0,rfl⟩,?_⟩
   simp -implicitDefEqProofs (maxSteps:=5000000) only [go_sem,simprocAttr,h4,h5]
 obtain ⟨e',t,K,hr,v,a,hc,hf⟩:=key
 have aH : Adds H K:=(Adds.app H _).trans a
 rcases hc with ⟨h0,g2,h2⟩ | ⟨h0,rfl⟩
 ·obtain ⟨K',a',g',et⟩:=zXm aH (g2.low (by omega)) R.2
  exact ⟨v,K',a',.inl ⟨h0,g',h2⟩,by rw [c86,hr,hf]; exact et⟩
 ·exact ⟨.nilSl,H,Adds.refl H,.inr ⟨h0,rfl⟩,by rw [c86,hr,hf]; exact aH.trimS rfl⟩
end
end Go.Proofs.YtbmmnfeeapnhkaaGreat.G08
end
section
namespace Go.Proofs.YtbmmnfeeapnhkaaGreat.G08
open Go Go.Proofs.YtbmmnfeeapnhkaaGreat.Eng
def newF (r : RgS) : Nat → Int → Option (Int × PtS) → Option (Int × PtS) × Int
 | 0,_,best=>(best,0)
 | k + 1,i,best =>
  if (r.read 0 i).2 = 1 then (best,0)
  else if (r.read 0 i).2 = 0 then newF r k (i + 1) (zJk r i (r.read 0 i).1 best)
  else (none,(r.read 0 i).2)
theorem zWz (r : RgS) (k : Nat) (i : Int) (best : Option (Int × PtS)) : newF r (k + 1) i best = if (r.read 0 i).2 = 1 then (best,0) else if (r.read 0 i).2 = 0 then newF r k (i + 1) (zJk r i (r.read 0 i).1 best) else (none,(r.read 0 i).2):=rfl
theorem newerS_F (r : RgS) : zC1 r = newF r 2 0 none:=by
 unfold zC1 newF newF newF
 rw [show (0 : Int) + 1 = 1 from rfl]
 generalize r.read 0 0 = A
 generalize hB : r.read 0 1 = B
 obtain ⟨a,ea⟩:=A
 obtain ⟨b,eb⟩:=B
 simp only
 by_cases h1 : ea = 0
 ·subst h1
  by_cases h2 : eb = 0
  ·subst h2; simp
  ·by_cases h3 : eb = 1
   ·subst h3; simp
   ·simp [h2,h3]
 ·by_cases h2 : ea = 1
  ·subst h2; simp
  ·simp [h1,h2]
theorem zR2 {z : List Int} (h : (ptS z).2 = true) : (ptS z).1.g.good = true:=by
 unfold ptS at h ⊢
 split at h
 ·rename_i he
  rw [if_pos he]
  unfold ptOk at h
  simp only [Bool.and_eq_true] at h
  exact h.1.2
 ·cases h
def zGp (p : Nat) (i : Int) (pt : PtS) : List AV:=pt.cells ++ [.ptr p 0,.nilSl,.nilSl,.int .i64 i,.int .i64 0,.int .u32 0,.int .i64 0]
def zUt (B : Nat) (K : zAa) (p : Nat) (v : AV) : Option (Int × PtS) → Prop
 | none=>v = .nilPtr
 | some (i,pt)=>∃ pb,B ≤ pb ∧ v = .ptr pb 0 ∧ K[pb]? = some (.rw (zGp p i pt))
theorem zUt.adds {B : Nat} {K : zAa} {p : Nat} {v : AV} {best : Option (Int × PtS)} (b : zUt B K p v best) (X : zAa) : zUt B (K ++ X) p v best:=by
 cases best with
 | none=>exact b
 | some x =>
  obtain ⟨pb,h1,h2,h3⟩:=b
  exact ⟨pb,h1,h2,by rw [List.getElem?_append_left (zAl h3)]; exact h3⟩
section
variable {q : RPl} {H : zAa} {n : Nat} {r : RgS} {F : Nat → Prop} (m : zA3 q H n r F)
include m
set_option maxHeartbeats 16000000 in
theorem newerL (x1 x56 x57 x58 : AV) : ∀ (k i : Nat) (v : AV) (best : Option (Int × PtS)) (K : zAa) (j2 j3 j5 j6 j7 j8 j9 j11 j12 j13 j14 j15 j16 j17 j18 j19 j20 j21 j22 j23 j24 j25 j26 j27 j28 j29 j30 j31 j32 j33 j34 j35 j36 j37 j38 j39 j40 j41 j42 j43 j44 j45 j46 j47 j48 j49 j50 j51 j52 j53 j54 j55 : AV),Adds H K → zUt H.length K q.p v best → i + k = 2 →
  Outs (LP1 l85x0 [.ptr q.p 0,x1,j2,j3,v,j5,j6,j7,j8,j9,.int .i64 (i : Int),j11,j12,j13,j14,j15,j16,j17,j18,j19,j20,j21,j22,j23,j24,j25,j26,j27,j28,j29,j30,j31,j32,j33,j34,j35,j36,j37,j38,j39,j40,j41,j42,j43,j44,j45,j46,j47,j48,j49,j50,j51,j52,j53,j54,j55,x56,x57,x58] K) fun e t K'=>Adds H K' ∧ ∃ fv : Nat → AV,t = [.ptr q.p 0,x1,(fv 2),(fv 3),(fv 4),(fv 5),(fv 6),(fv 7),(fv 8),(fv 9),(fv 10),(fv 11),(fv 12),(fv 13),(fv 14),(fv 15),(fv 16),(fv 17),(fv 18),(fv 19),(fv 20),(fv 21),(fv 22),(fv 23),(fv 24),(fv 25),(fv 26),(fv 27),(fv 28),(fv 29),(fv 30),(fv 31),(fv 32),(fv 33),(fv 34),(fv 35),(fv 36),(fv 37),(fv 38),(fv 39),(fv 40),(fv 41),(fv 42),(fv 43),(fv 44),(fv 45),(fv 46),(fv 47),(fv 48),(fv 49),(fv 50),(fv 51),(fv 52),(fv 53),(fv 54),(fv 55),x56,x57,x58] ∧
   ((e = .exit 0 ∧ (newF r k (i : Int) best).2 = 0 ∧ zUt H.length K' q.p (fv 4) (newF r k (i : Int) best).1) ∨
    (e = .ret ∧ (newF r k (i : Int) best).2 ≠ 0 ∧ fv 2 = .nilPtr ∧ fv 3 = .int .i64 (newF r k (i : Int) best).2)):=by
 intro k
 obtain ⟨L,hL⟩ : ∃ L,L = LP1 l85x0:=⟨_,rfl⟩
 have lo:=zBc hL
 rw [← hL]
 induction k with
 | zero =>
  intro i v best K j2 j3 j5 j6 j7 j8 j9 j11 j12 j13 j14 j15 j16 j17 j18 j19 j20 j21 j22 j23 j24 j25 j26 j27 j28 j29 j30 j31 j32 j33 j34 j35 j36 j37 j38 j39 j40 j41 j42 j43 j44 j45 j46 j47 j48 j49 j50 j51 j52 j53 j54 j55 a hb hi
  have hd : decide ((i : Int) < 2) = false:=decide_eq_false (by omega)
  rw [lo]
  unfold l85x0
  simp -implicitDefEqProofs (maxSteps:=5000000) only [go_sem,simprocAttr,hd,zAu,zAc]
  exact ⟨a,exF2 rfl (.inl ⟨rfl,hb⟩)⟩
 | succ k ih =>
  intro i v best K j2 j3 j5 j6 j7 j8 j9 j11 j12 j13 j14 j15 j16 j17 j18 j19 j20 j21 j22 j23 j24 j25 j26 j27 j28 j29 j30 j31 j32 j33 j34 j35 j36 j37 j38 j39 j40 j41 j42 j43 j44 j45 j46 j47 j48 j49 j50 j51 j52 j53 j54 j55 a hb hi
  have hd : decide ((i : Int) < 2) = true:=decide_eq_true (by omega)
  have e2 : IntKind.i64.wrap ((i : Int) + 1) = ((i + 1 : Nat) : Int):=by rw [zAq (by omega) (by omega)]; omega
  have mK : zA3 q K n r F:=by obtain ⟨X,rfl⟩:=a; exact m.adds X
  have er:=zYy mK 0 (i : Int)
  have ok:=zUn mK 0 (i : Int)
  rw [zWz,show (i : Int) + 1 = ((i + 1 : Nat) : Int) by omega]
  have aX : ∀ X,Adds H (K ++ X):=fun X=>a.trans ⟨X,rfl⟩
  have bX : ∀ X,zUt H.length (K ++ X) q.p v best:=fun X=>hb.adds X
  unfold zJk
  generalize hZ : (r.read 0 (i : Int)).1 = z at *
  generalize hE : (r.read 0 (i : Int)).2 = E at *
  have zl : z.length = 64:=ok.1
  have sp64:=zCn zBz zl (by omega)
  have zc:=zAo z
  have ul : (u8s z).length = 64:=by rw [zAd,zl]
  have ut : (u8s z).take 64 = u8s z:=List.take_of_length_le (by omega)
  have bl : (u8s z64).length = 64:=by rw [zAd,zBz]
  have ep:=fun X=>pointC ok (K ++ X)
  have pg:=fun h=>zR2 (z:=z) h
  have ro:=fun X h=>roomC (mK.adds X) (pg h)
  generalize hP : (ptS z).1 = pt at *
  generalize hO : (ptS z).2 = o at *
  have pl : pt.cells.length = 8:=rfl
  have pc : pt.cells.all AV.isCell = true:=rfl
  have ps : zBp [AV.int .i64 0,.int .i64 0,.int .i64 0,.int .i64 0,.int .i64 0,.int .u32 0,.int .i64 0,.int .u32 0] 0 pt.cells = pt.cells:=rfl
  have p5 : pt.cells[5]? = some (.int .u32 pt.gen):=rfl
  have pt5 : pt.cells.take 5 = pt.g.cells:=rfl
  have pt8 : pt.cells.take 8 = pt.cells:=rfl
  have mz : ∀ X : List AV,zHp [AV.int .i64 0,.int .i64 0,.int .i64 0,.int .i64 0,.int .i64 0,.int .u32 0,.int .i64 0,.int .u32 0,.nilPtr,.nilSl,.nilSl,.int .i64 0,.int .i64 0,.int .u32 0,.int .i64 0] [(0,8,.agg pt.cells),(8,1,.ptr q.p 0),(11,1,.int .i64 (i : Int))] = some (zGp q.p (i : Int) pt):=fun X=>rfl
  have mz:=mz []
  generalize hMZ : zGp q.p (i : Int) pt = MZ at *
  generalize hPC : pt.cells = PC at *
  generalize hPG : pt.g.cells = PG at *
  generalize hUZ : u8s z = UZ at *
  generalize hZ6 : u8s z64 = Z6 at *
  rw [lo]
  unfold l85x0
  by_cases h1 : E = 1
  ·rw [if_pos h1]
   have q1 : (E == 1) = true:=by rw [h1]; rfl
   simp -implicitDefEqProofs (maxSteps:=5000000) only [go_sem,simprocAttr,itr,itq,hd,er,zB9,hZ6,bl,ul,sp64,zc,q1,zAc]
   exact ⟨aX _,exF2 rfl (.inl (bX _))⟩
  ·rw [if_neg h1]
   have q1 : (E == 1) = false:=by simpa using h1
   by_cases h0 : E = 0
   ·rw [if_pos h0]
    have q0 : (E != 0) = false:=by rw [h0]; rfl
    cases o with
    | false =>
     simp only [Bool.false_and,Bool.false_eq_true,if_false]
     simp -implicitDefEqProofs (maxSteps:=5000000) only [go_sem,simprocAttr,itr,itq,hd,er,zB9,hZ6,bl,ul,ut,sp64,zc,q1,q0,ep,pl,pc,ps,e2]
     exact ih (i + 1) _ _ _ _ _ _ _ _ _ _ _ _ _ _ _ _ _ _ _ _ _ _ _ _ _ _ _ _ _ _ _ _ _ _ _ _ _ _ _ _ _ _ _ _ _ _ _ _ _ _ _ _ _ _ _ (aX _) (bX _) (by omega)
    | true =>
     have ro:=fun X=>ro X rfl
     cases hr : zOt r pt.g with
     | false =>
      rw [hr] at ro
      simp only [Bool.and_false,Bool.false_and,Bool.false_eq_true,if_false]
      simp -implicitDefEqProofs (maxSteps:=5000000) only [go_sem,simprocAttr,itr,itq,hd,er,zB9,hZ6,bl,ul,ut,sp64,zc,q1,q0,ep,pl,pc,ps,pt5,ro,e2]
      exact ih (i + 1) _ _ _ _ _ _ _ _ _ _ _ _ _ _ _ _ _ _ _ _ _ _ _ _ _ _ _ _ _ _ _ _ _ _ _ _ _ _ _ _ _ _ _ _ _ _ _ _ _ _ _ _ _ _ _ (aX _) (bX _) (by omega)
     | true =>
      rw [hr] at ro
      simp only [Bool.true_and]
      cases best with
      | none =>
       have hv : v = .nilPtr:=hb
       subst hv
       simp only [if_true]
       simp -implicitDefEqProofs (maxSteps:=5000000) only [go_sem,simprocAttr,itr,itq,hd,er,zB9,hZ6,bl,ul,ut,sp64,zc,q1,q0,ep,pl,pc,ps,pt5,pt8,ro,mz,e2]
       exact ih (i + 1) _ _ _ _ _ _ _ _ _ _ _ _ _ _ _ _ _ _ _ _ _ _ _ _ _ _ _ _ _ _ _ _ _ _ _ _ _ _ _ _ _ _ _ _ _ _ _ _ _ _ _ _ _ _ _ (aX _) ⟨K.length + 2,by have:=a.len; omega,rfl,by rw [hMZ]; simp⟩ (by omega)
      | some x =>
       obtain ⟨bi,bp⟩:=x
       obtain ⟨pb,hpb,rfl,hat⟩:=hb
       have cb:=fun X : zAa=>zAy (x:=X) (zAj hat)
       have b5 : (zGp q.p bi bp)[5]? = some (.int .u32 bp.gen):=rfl
       generalize zGp q.p bi bp = MB at *
       simp only
       by_cases hgt : pt.gen > bp.gen
       ·have dg:=decide_eq_true hgt
        simp only [dg,if_true]
        simp -implicitDefEqProofs (maxSteps:=5000000) only [go_sem,simprocAttr,itr,itq,hd,er,zB9,hZ6,bl,ul,ut,sp64,zc,q1,q0,ep,pl,pc,ps,pt5,pt8,p5,ro,cb,b5,dg,mz,e2]
        exact ih (i + 1) _ _ _ _ _ _ _ _ _ _ _ _ _ _ _ _ _ _ _ _ _ _ _ _ _ _ _ _ _ _ _ _ _ _ _ _ _ _ _ _ _ _ _ _ _ _ _ _ _ _ _ _ _ _ _ (aX _) ⟨K.length + 2,by have:=a.len; omega,rfl,by rw [hMZ]; simp⟩ (by omega)
       ·have dg:=decide_eq_false hgt
        simp only [dg,Bool.false_eq_true,if_false]
        simp -implicitDefEqProofs (maxSteps:=5000000) only [go_sem,simprocAttr,itr,itq,hd,er,zB9,hZ6,bl,ul,ut,sp64,zc,q1,q0,ep,pl,pc,ps,pt5,pt8,p5,ro,cb,b5,dg,e2]
        exact ih (i + 1) _ _ _ _ _ _ _ _ _ _ _ _ _ _ _ _ _ _ _ _ _ _ _ _ _ _ _ _ _ _ _ _ _ _ _ _ _ _ _ _ _ _ _ _ _ _ _ _ _ _ _ _ _ _ _ (aX _) (bX _) (by omega)
   ·rw [if_neg h0]
    have q0 : (E != 0) = true:=by simpa using h0
    simp -implicitDefEqProofs (maxSteps:=5000000) only [go_sem,simprocAttr,itr,itq,hd,er,zB9,hZ6,bl,ul,sp64,zc,q1,q0,zAc]
    exact ⟨aX _,exF2 rfl (.inr ⟨h0,rfl,rfl⟩)⟩
set_option maxHeartbeats 4000000 in
theorem newerC : ∃ v K,Adds H K ∧ (((zC1 r).2 ≠ 0 ∧ v = .nilPtr ∧ (envL prog).call 85 [.ptr q.p 0] H = some (.tup [v,.int .i64 (zC1 r).2],K)) ∨
  ((zC1 r).2 = 0 ∧ (zC1 r).1 = none ∧ v = .nilPtr ∧ (envL prog).call 85 [.ptr q.p 0] H = some (.tup [v,.int .i64 11],K)) ∨
  ((zC1 r).2 = 0 ∧ ∃ i pt pb,(zC1 r).1 = some (i,pt) ∧ v = .ptr pb 0 ∧ H.length ≤ pb ∧ K[pb]? = some (.rw (zGp q.p i pt)) ∧ (envL prog).call 85 [.ptr q.p 0] H = some (.tup [v,.int .i64 0],K))):=by
 have l0:=newerL m (k:=2) (i:=0) (v:=.nilPtr) (best:=none) (K:=H)
 rw [show ((0 : Nat) : Int) = 0 from rfl,← newerS_F] at l0
 generalize zC1 r = R at *
 have key : Outs (runC (envL prog) (b85 (envL prog)) ([.ptr q.p 0] ++ List.replicate (59 - [AV.ptr q.p 0].length) .undef) H) fun e' t K=>∃ v,Adds H K ∧ ((R.2 ≠ 0 ∧ v = .nilPtr ∧ fin [.tmp 2,.tmp 3] (some (e',t,K)) = some (.tup [v,.int .i64 R.2],K)) ∨ (R.2 = 0 ∧ R.1 = none ∧ v = .nilPtr ∧ fin [.tmp 2,.tmp 3] (some (e',t,K)) = some (.tup [v,.int .i64 11],K)) ∨
   (R.2 = 0 ∧ ∃ i pt pb,R.1 = some (i,pt) ∧ v = .ptr pb 0 ∧ H.length ≤ pb ∧ K[pb]? = some (.rw (zGp q.p i pt)) ∧ fin [.tmp 2,.tmp 3] (some (e',t,K)) = some (.tup [v,.int .i64 0],K))):=by
  unfold b85
  generalize hQ : (fun (e' : Ex) (t : T) (K : zAa)=>∃ v,Adds H K ∧ ((R.2 ≠ 0 ∧ v = .nilPtr ∧ fin [.tmp 2,.tmp 3] (some (e',t,K)) = some (.tup [v,.int .i64 R.2],K)) ∨ (R.2 = 0 ∧ R.1 = none ∧ v = .nilPtr ∧ fin [.tmp 2,.tmp 3] (some (e',t,K)) = some (.tup [v,.int .i64 11],K)) ∨
   (R.2 = 0 ∧ ∃ i pt pb,R.1 = some (i,pt) ∧ v = .ptr pb 0 ∧ H.length ≤ pb ∧ K[pb]? = some (.rw (zGp q.p i pt)) ∧ fin [.tmp 2,.tmp 3] (some (e',t,K)) = some (.tup [v,.int .i64 0],K)))) = Q
  simp -implicitDefEqProofs (maxSteps:=5000000) only [go_sem,simprocAttr,itr,itq,zA6]
  unfold LP1 at l0
  generalize (envL prog).loop (runC (envL prog) (l85x0 (envL prog))) = L0 at l0 ⊢
  refine zBo (fun r=>seqR (zBr 0 r) _) (l0 _ _ _ _ _ _ _ _ _ _ _ _ _ _ _ _ _ _ _ _ _ _ _ _ _ _ _ _ _ _ _ _ _ _ _ _ _ _ _ _ _ _ _ _ _ _ _ _ _ _ _ _ _ _ _ _ (Adds.refl _) rfl (by omega)) ?_
  rintro e t K ⟨a,fv,rfl,⟨rfl,h0,hb⟩ | ⟨rfl,h0,h2,h3⟩⟩
  ·obtain ⟨best,er⟩:=R
   simp only at h0 hb
   cases best with
   | none =>
    have h4 : fv 4 = .nilPtr:=hb
    simp -implicitDefEqProofs (maxSteps:=5000000) only [go_sem,simprocAttr,itr,itq,h4,zAc]
    subst hQ
    refine ⟨.nilPtr,a,.inr (.inl ⟨h0,rfl,rfl,?_⟩)⟩
    simp -implicitDefEqProofs (maxSteps:=5000000) only [go_sem,simprocAttr]
   | some x =>
    obtain ⟨i,pt⟩:=x
    obtain ⟨pb,hpb,h4,hat⟩:=hb
    simp -implicitDefEqProofs (maxSteps:=5000000) only [go_sem,simprocAttr,itr,itq,h4,zAc]
    subst hQ
    refine ⟨.ptr pb 0,a,.inr (.inr ⟨h0,i,pt,pb,rfl,rfl,hpb,hat,?_⟩)⟩
    simp -implicitDefEqProofs (maxSteps:=5000000) only [go_sem,simprocAttr]
  ·simp -implicitDefEqProofs (maxSteps:=5000000) only [go_sem,simprocAttr,itr,itq,zAc]
   subst hQ
   refine ⟨.nilPtr,a,.inl ⟨h0,rfl,?_⟩⟩
   simp -implicitDefEqProofs (maxSteps:=5000000) only [go_sem,simprocAttr,h2,h3]
 obtain ⟨e',t,K,hr,v,a,⟨h0,rfl,hf⟩ | ⟨h0,h1,rfl,hf⟩ | ⟨h0,i,pt,pb,h1,rfl,hpb,hat,hf⟩⟩:=key
 ·exact ⟨.nilPtr,H,Adds.refl H,.inl ⟨h0,rfl,by rw [c85,hr,hf]; exact a.trimS rfl⟩⟩
 ·exact ⟨.nilPtr,H,Adds.refl H,.inr (.inl ⟨h0,h1,rfl,by rw [c85,hr,hf]; exact a.trimS rfl⟩)⟩
 ·exact ⟨.ptr pb 0,K,a,.inr (.inr ⟨h0,i,pt,pb,h1,rfl,hpb,hat,by rw [c85,hr,hf]; exact zBa (by simp [AV.under,zAt]; omega)⟩)⟩
end
end Go.Proofs.YtbmmnfeeapnhkaaGreat.G08
end
section
namespace Go.Proofs.YtbmmnfeeapnhkaaGreat.G08
open Go Go.Proofs.YtbmmnfeeapnhkaaGreat.Eng
theorem zUo (l : List (List Int)) (x : ImS) : (zDm l x).length = l.length:=by unfold zDm; split <;> simp
theorem zP7 {l : List (List Int)} {x : ImS} (h : ∀ y ∈ l,y.length = 48) (hx : x.b.length = 48) : ∀ y ∈ zDm l x,y.length = 48:=fun y hy=>by
 unfold zDm at hy
 split at hy
 ·rcases List.mem_or_eq_of_mem_set hy with hy | hy
  ·exact h y hy
  ·rw [hy]; exact hx
 ·exact h y hy
theorem zJg : ∀ (t : List ImS) (l : List (List Int)),(zCx l t).length = l.length
 | [],_=>rfl
 | x :: t,l=>by
  show (zCx (zDm l x) t).length = _
  rw [zJg t,zUo]
theorem zP6 : ∀ {t : List ImS} {l : List (List Int)},(∀ y ∈ l,y.length = 48) → (∀ x ∈ t,x.b.length = 48) → ∀ y ∈ zCx l t,y.length = 48
 | [],_,h,_=>h
 | x :: t,l,h,ht=>zP6 (t:=t) (l:=zDm l x) (zP7 h (ht x (by simp))) fun y hy=>ht y (by simp [hy])
noncomputable abbrev pgs (l : List (List Int)) : List AV:=(l.map u8s).flatten
section
variable {K0 : zAa} {B : Nat} {a : AV} {t : List ImS} (ga : GR 49 K0 B a (zBt t)) (h48 : ∀ x ∈ t,x.b.length = 48) (hp : ∀ x ∈ t,0 ≤ x.i) {b2 N : Nat} (na : slb a ≠ some b2)
include ga h48 hp na
set_option maxHeartbeats 8000000 in
theorem openL0 (hl : t.length ≤ 100000) (x0 x1 x2 x3 x4 x5 x7 x8 x9 x10 x12 x13 x14 x15 x16 x17 x18 x19 x20 x21 x22 x23 x24 x25 x26 x27 x28 x29 x30 x31 x32 x33 x34 x35 x36 x37 x38 x39 x40 x41 x42 x43 x44 x45 x46 x47 x48 x49 x50 x51 x52 x53 x54 x55 x56 x57 x58 x59 x60 x61 x62 x63 x64 x65 x66 x67 x68 x69 x70 x71 x72 x73 x74 x75 x76 x77 x78 x79 x80 x81 x82 x83 x84 x85 x86 x87 x88 x89 x90 x91 x92 x93 x94 x95 x96 x97 x98 x117 x118 x119 x120 x121 x122 x123 x124 x125 x126 x127 x128 x129 x130 x131 x132 x133 x134 x135 x136 x137 x138 x139 x140 x141 x142 x143 x144 x145 x146 x147 x148 : AV) : ∀ (k i : Nat) (l : List (List Int)) (K : zAa) (j11 j102 j103 j104 j105 j106 j107 j108 j109 j110 j111 j112 j113 j114 j115 j116 : AV),Fr K0 K (· = b2) → K[b2]? = some (.rw (pgs l)) → (∀ y ∈ l,y.length = 48) → l.length = N → i + k = t.length →
  Outs (LP1 l25x0 [x0,x1,x2,x3,x4,x5,.sl b2 0 48 N N false,x7,x8,x9,x10,j11,x12,x13,x14,x15,x16,x17,x18,x19,x20,x21,x22,x23,x24,x25,x26,x27,x28,x29,x30,x31,x32,x33,x34,x35,x36,x37,x38,x39,x40,x41,x42,x43,x44,x45,x46,x47,x48,x49,x50,x51,x52,x53,x54,x55,x56,x57,x58,x59,x60,x61,x62,x63,x64,x65,x66,x67,x68,x69,x70,x71,x72,x73,x74,x75,x76,x77,x78,x79,x80,x81,x82,x83,x84,x85,x86,x87,x88,x89,x90,x91,x92,x93,x94,x95,x96,x97,x98,a,.int .i64 (t.length : Int),.int .i64 (i : Int),j102,j103,j104,j105,j106,j107,j108,j109,j110,j111,j112,j113,j114,j115,j116,x117,x118,x119,x120,x121,x122,x123,x124,x125,x126,x127,x128,x129,x130,x131,x132,x133,x134,x135,x136,x137,x138,x139,x140,x141,x142,x143,x144,x145,x146,x147,x148] K) fun e t' K'=>e = .exit 2 ∧ Fr K0 K' (· = b2) ∧ K'[b2]? = some (.rw (pgs (zCx l (t.drop i)))) ∧ ∃ fv : Nat → AV,t' = [x0,x1,x2,x3,x4,x5,.sl b2 0 48 N N false,x7,x8,x9,x10,(fv 11),x12,x13,x14,x15,x16,x17,x18,x19,x20,x21,x22,x23,x24,x25,x26,x27,x28,x29,x30,x31,x32,x33,x34,x35,x36,x37,x38,x39,x40,x41,x42,x43,x44,x45,x46,x47,x48,x49,x50,x51,x52,x53,x54,x55,x56,x57,x58,x59,x60,x61,x62,x63,x64,x65,x66,x67,x68,x69,x70,x71,x72,x73,x74,x75,x76,x77,x78,x79,x80,x81,x82,x83,x84,x85,x86,x87,x88,x89,x90,x91,x92,x93,x94,x95,x96,x97,x98,a,.int .i64 (t.length : Int),(fv 101),(fv 102),(fv 103),(fv 104),(fv 105),(fv 106),(fv 107),(fv 108),(fv 109),(fv 110),(fv 111),(fv 112),(fv 113),(fv 114),(fv 115),(fv 116),x117,x118,x119,x120,x121,x122,x123,x124,x125,x126,x127,x128,x129,x130,x131,x132,x133,x134,x135,x136,x137,x138,x139,x140,x141,x142,x143,x144,x145,x146,x147,x148]:=by
 intro k
 obtain ⟨L,hL⟩ : ∃ L,L = LP1 l25x0:=⟨_,rfl⟩
 have lo:=zBc hL
 rw [← hL]
 induction k with
 | zero =>
  intro i l K j11 j102 j103 j104 j105 j106 j107 j108 j109 j110 j111 j112 j113 j114 j115 j116 f hb hy hN hi
  obtain rfl : i = t.length:=by omega
  have hd : decide ((t.length : Int) < (t.length : Int)) = false:=by simp
  rw [lo,List.drop_length]
  unfold l25x0
  simp -implicitDefEqProofs (maxSteps:=5000000) only [go_sem,simprocAttr,hd,zAu,zAc]
  exact ⟨f,hb,exF rfl⟩
 | succ k ih =>
  intro i l K j11 j102 j103 j104 j105 j106 j107 j108 j109 j110 j111 j112 j113 j114 j115 j116 f hb hy hN hi
  have hlt : i < t.length:=by omega
  have hd : decide ((i : Int) < (t.length : Int)) = true:=decide_eq_true (by omega)
  have e2 : IntKind.i64.wrap ((i : Int) + 1) = ((i + 1 : Nat) : Int):=by rw [zAq (by omega) (by omega)]; omega
  have hx:=List.getElem?_eq_getElem hlt
  have dr:=List.drop_eq_getElem_cons hlt
  have x48:=h48 _ (List.getElem_mem hlt)
  have xp:=hp _ (List.getElem_mem hlt)
  generalize t[i] = x at *
  obtain ⟨b,cs,sb,ix,hcs,_,_,ht,hle⟩:=im_read ga h48 hx
  have cK:=f.cells hcs fun h=>na (by rw [sb,h])
  have ea : zCx l (t.drop i) = zCx (zDm l x) (t.drop (i + 1)):=by rw [dr]; rfl
  rw [ea]
  have xc : x.cells = .int .i64 x.i :: u8s x.b:=rfl
  rw [xc] at ht
  have xl : (u8s x.b).length = 48:=by rw [zAd,x48]
  have x4 : (u8s x.b).take 48 = u8s x.b:=List.take_of_length_le (by omega)
  have zl : (u8s zA2).length = 48:=by rw [zAd,zB7.1]
  have sp : zBp (.int .i64 0 :: u8s zA2) 0 (.int .i64 x.i :: u8s x.b) = .int .i64 x.i :: u8s x.b:=by
   rw [zAs _ _ _ (by simp [xl]),List.drop_of_length_le (by simp [xl,zl]),List.append_nil]; rfl
  have uc:=zAo x.b
  have fK : ∀ X : zAa,Fr K0 (K ++ X) (· = b2):=fun X=>f.trans (Fr.adds ⟨X,rfl⟩ (fun _=>False)) fun _ _ h=>h.elim
  have hbX : ∀ X : zAa,(K ++ X)[b2]? = some (.rw (pgs l)):=fun X=>by rw [List.getElem?_append_left (zAl hb)]; exact hb
  by_cases hin : x.i < (N : Int)
  ·have d1:=decide_eq_true hin
   obtain ⟨j,hj⟩ : ∃ j : Nat,x.i = j:=⟨x.i.toNat,by omega⟩
   have hjN : j < N:=by omega
   have eI : zDm l x = l.set j x.b:=by
    unfold zDm
    rw [if_pos (by rw [hN]; exact hin),hj]; rfl
   have i2:=zEf b2 48 N N j false .i64 (by omega) hjN
   have hlj : j < l.length:=by omega
   have wr : ∀ X : zAa,zAz (K ++ X) b2 (j * 48) (u8s x.b) = some ((K ++ X).set b2 (.rw (pgs (l.set j x.b)))):=fun X=>by
    have:=zUx (hbX X) (zO7 hy) (zCf u8s (List.getElem?_eq_getElem hlj)) (v:=u8s x.b) xl (by omega) uc
    rw [this,← List.map_set]
   rw [← hj] at i2
   have n48:=zP7 (l:=l) (x:=x) hy x48
   rw [eI] at n48 ⊢
   generalize hU : u8s x.b = U at *
   generalize hZ : u8s zA2 = Z at *
   rw [lo]
   unfold l25x0
   simp -implicitDefEqProofs (maxSteps:=5000000) only [go_sem,simprocAttr,itr,itq,hd,ix,cK,ht,hle,zBe,hZ,zl,xl,x4,sp,uc,d1,i2,wr,e2]
   exact ih (i + 1) _ _ _ _ _ _ _ _ _ _ _ _ _ _ _ _ _ _ ((fK _).trans (Fr.set (F:=(· = b2)) _ _ rfl) fun _ _ h=>h) (zA4 _ _ _ (zAl (hbX _))) n48 (by simpa using hN) (by omega)
  ·have d1:=decide_eq_false hin
   have eI : zDm l x = l:=by
    unfold zDm
    rw [if_neg (by rw [hN]; exact hin)]
   rw [eI]
   generalize hU : u8s x.b = U at *
   generalize hZ : u8s zA2 = Z at *
   rw [lo]
   unfold l25x0
   simp -implicitDefEqProofs (maxSteps:=5000000) only [go_sem,simprocAttr,itr,itq,hd,ix,cK,ht,hle,zBe,hZ,zl,xl,x4,sp,uc,d1,e2]
   exact ih (i + 1) _ _ _ _ _ _ _ _ _ _ _ _ _ _ _ _ _ _ (fK _) (hbX _) hy hN (by omega)
end
theorem zFl (t : List ImS) (T : List (List ImS)) : zFb (t :: T) = (t.length : Int) + 1 + zFb T:=rfl
theorem zJv : ∀ T : List (List ImS),0 ≤ zFb T
 | []=>by simp [zFb]
 | t :: T=>by rw [zFl]; have:=zJv T; omega
section
variable {K0 : zAa} {B : Nat} {lv : AV} {T : List (List ImS)} {vs : List AV} (lg : LogH K0 B lv T vs) (hp : ∀ t ∈ T,∀ x ∈ t,0 ≤ x.i) (hT : ∀ t ∈ T,t.length ≤ 100000) (hTl : T.length ≤ 100000) {b2 N pb : Nat} {P : List AV} (hP : P.length = 14) (nb : b2 ≠ pb) (h2 : ∀ b,B ≤ b → b ≠ b2) (hpb : ∀ b,B ≤ b → b ≠ pb)
include lg hp hT hTl hP nb h2 hpb
set_option maxHeartbeats 8000000 in
theorem openL1 (x0 x1 x2 x3 x5 x7 x8 x10 x12 x13 x14 x15 x16 x17 x18 x19 x20 x21 x22 x23 x24 x25 x26 x27 x28 x29 x30 x31 x32 x33 x34 x35 x36 x37 x38 x39 x40 x41 x42 x43 x44 x45 x46 x47 x48 x49 x50 x51 x52 x53 x54 x55 x56 x57 x58 x59 x60 x61 x62 x63 x64 x65 x66 x67 x68 x69 x70 x71 x72 x73 x74 x75 x76 x77 x78 x79 x80 x81 x82 x118 x119 x120 x121 x122 x123 x124 x125 x126 x127 x128 x129 x130 x131 x132 x133 x134 x135 x136 x137 x138 x139 x140 x141 x142 x143 x144 x145 x146 x147 x148 : AV) : ∀ (k i : Nat) (l : List (List Int)) (u : Int) (K : zAa) (j9 j11 j86 j87 j88 j89 j90 j91 j92 j93 j94 j95 j96 j97 j98 j99 j100 j101 j102 j103 j104 j105 j106 j107 j108 j109 j110 j111 j112 j113 j114 j115 j116 j117 : AV),Fr K0 K (fun b=>b = b2 ∨ b = pb) → K[b2]? = some (.rw (pgs l)) → K[pb]? = some (.rw (P ++ [.int .i64 u])) → (∀ y ∈ l,y.length = 48) → l.length = N → 0 ≤ u → u + zFb (T.drop i) ≤ 1000000 → i + k = T.length →
  Outs (LP1 l25x1 [x0,x1,x2,x3,.ptr pb 0,x5,.sl b2 0 48 N N false,x7,x8,j9,x10,j11,x12,x13,x14,x15,x16,x17,x18,x19,x20,x21,x22,x23,x24,x25,x26,x27,x28,x29,x30,x31,x32,x33,x34,x35,x36,x37,x38,x39,x40,x41,x42,x43,x44,x45,x46,x47,x48,x49,x50,x51,x52,x53,x54,x55,x56,x57,x58,x59,x60,x61,x62,x63,x64,x65,x66,x67,x68,x69,x70,x71,x72,x73,x74,x75,x76,x77,x78,x79,x80,x81,x82,lv,.int .i64 (T.length : Int),.int .i64 (i : Int),j86,j87,j88,j89,j90,j91,j92,j93,j94,j95,j96,j97,j98,j99,j100,j101,j102,j103,j104,j105,j106,j107,j108,j109,j110,j111,j112,j113,j114,j115,j116,j117,x118,x119,x120,x121,x122,x123,x124,x125,x126,x127,x128,x129,x130,x131,x132,x133,x134,x135,x136,x137,x138,x139,x140,x141,x142,x143,x144,x145,x146,x147,x148] K) fun e t' K'=>e = .exit 0 ∧ Fr K0 K' (fun b=>b = b2 ∨ b = pb) ∧ K'[b2]? = some (.rw (pgs ((T.drop i).foldl zCx l))) ∧ K'[pb]? = some (.rw (P ++ [.int .i64 (u + zFb (T.drop i))])) ∧ ∃ fv : Nat → AV,t' = [x0,x1,x2,x3,.ptr pb 0,x5,.sl b2 0 48 N N false,x7,x8,(fv 9),x10,(fv 11),x12,x13,x14,x15,x16,x17,x18,x19,x20,x21,x22,x23,x24,x25,x26,x27,x28,x29,x30,x31,x32,x33,x34,x35,x36,x37,x38,x39,x40,x41,x42,x43,x44,x45,x46,x47,x48,x49,x50,x51,x52,x53,x54,x55,x56,x57,x58,x59,x60,x61,x62,x63,x64,x65,x66,x67,x68,x69,x70,x71,x72,x73,x74,x75,x76,x77,x78,x79,x80,x81,x82,lv,.int .i64 (T.length : Int),(fv 85),(fv 86),(fv 87),(fv 88),(fv 89),(fv 90),(fv 91),(fv 92),(fv 93),(fv 94),(fv 95),(fv 96),(fv 97),(fv 98),(fv 99),(fv 100),(fv 101),(fv 102),(fv 103),(fv 104),(fv 105),(fv 106),(fv 107),(fv 108),(fv 109),(fv 110),(fv 111),(fv 112),(fv 113),(fv 114),(fv 115),(fv 116),(fv 117),x118,x119,x120,x121,x122,x123,x124,x125,x126,x127,x128,x129,x130,x131,x132,x133,x134,x135,x136,x137,x138,x139,x140,x141,x142,x143,x144,x145,x146,x147,x148]:=by
 intro k
 obtain ⟨L,hL⟩ : ∃ L,L = LP1 l25x1:=⟨_,rfl⟩
 have lo:=zBc hL
 rw [← hL]
 induction k with
 | zero =>
  intro i l u K j9 j11 j86 j87 j88 j89 j90 j91 j92 j93 j94 j95 j96 j97 j98 j99 j100 j101 j102 j103 j104 j105 j106 j107 j108 j109 j110 j111 j112 j113 j114 j115 j116 j117 f hb hm hy hN hu hus hi
  obtain rfl : i = T.length:=by omega
  have hd : decide ((T.length : Int) < (T.length : Int)) = false:=by simp
  rw [lo,List.drop_length]
  unfold l25x1
  simp -implicitDefEqProofs (maxSteps:=5000000) only [go_sem,simprocAttr,hd,zAu,zAc]
  refine ⟨f,hb,?_,exF rfl⟩
  rw [show u + zFb [] = u by unfold zFb; simp]
  exact hm
 | succ k ih =>
  intro i l u K j9 j11 j86 j87 j88 j89 j90 j91 j92 j93 j94 j95 j96 j97 j98 j99 j100 j101 j102 j103 j104 j105 j106 j107 j108 j109 j110 j111 j112 j113 j114 j115 j116 j117 f hb hm hy hN hu hus hi
  have hlt : i < T.length:=by omega
  have hd : decide ((i : Int) < (T.length : Int)) = true:=decide_eq_true (by omega)
  have e2 : IntKind.i64.wrap ((i : Int) + 1) = ((i + 1 : Nat) : Int):=by rw [zAq (by omega) (by omega)]; omega
  have hx:=List.getElem?_eq_getElem hlt
  have dr:=List.drop_eq_getElem_cons hlt
  have tp:=hp _ (List.getElem_mem hlt)
  have tl:=hT _ (List.getElem_mem hlt)
  generalize T[i] = t at *
  obtain ⟨a,b,cs,hv,sb,ix,hcs,hca,hle,ga,t48⟩:=lg.row hx
  rw [dr,zFl] at hus
  have un:=zJv (T.drop (i + 1))
  rw [dr,zFl,List.foldl_cons]
  have sbB:=(lg.g.out b sb).1
  have cK:=f.cells hcs fun h=>by
   rcases h with h | h
   ·exact h2 b sbB h
   ·exact hpb b sbB h
  have al:=im_len ga
  have cm:=zAj hm
  have hm14 : (P ++ [AV.int .i64 u])[14]? = some (.int .i64 u):=by rw [List.getElem?_append_right (by omega),hP]; rfl
  have w1 : IntKind.i64.wrap ((t.length : Int) + 1) = (t.length : Int) + 1:=zAq (by omega) (by omega)
  have w2 : IntKind.i64.wrap (u + ((t.length : Int) + 1)) = u + ((t.length : Int) + 1):=zAq (by omega) (by omega)
  obtain ⟨K1,hK1⟩ : ∃ K1,K1 = K.set pb (.rw (P ++ [.int .i64 (u + ((t.length : Int) + 1))])):=⟨_,rfl⟩
  have wr : zAz K pb 14 [.int .i64 (u + ((t.length : Int) + 1))] = some K1:=by
   rw [zAv hm,if_pos ⟨by simp [hP],rfl⟩,zAx,hK1]
   congr 4
   rw [List.set_append_right _ _ (by omega),hP]; rfl
  have f1 : Fr K0 K1 (fun b=>b = b2 ∨ b = pb):=by rw [hK1]; exact f.trans (Fr.set (F:=(· = pb)) _ _ rfl) fun _ _ h=>.inr h
  have m1 : K1[pb]? = some (.rw (P ++ [.int .i64 (u + ((t.length : Int) + 1))])):=by rw [hK1]; exact zA4 _ _ _ (zAl hm)
  have b1 : K1[b2]? = some (.rw (pgs l)):=by rw [hK1,zAf _ _ _ _ nb]; exact hb
  have ga1 : GR 49 K1 B a (zBt t):=ga.frS f1 fun b hb hf=>by
   have:=(ga.out b hb).1
   rcases hf with h | h
   ·exact h2 b this h
   ·exact hpb b this h
  have na : slb a ≠ some b2:=fun h=>h2 b2 (ga.out b2 h).1 rfl
  have l0:=openL0 ga1 t48 tp (N:=N) na tl (k:=t.length) (i:=0) (l:=l) (K:=K1)
  rw [show ((0 : Nat) : Int) = 0 from rfl,List.drop_zero] at l0
  rw [lo]
  unfold l25x1
  have cl : zA7 (AV.int .i64 (u + ((t.length : Int) + 1))) = some [.int .i64 (u + ((t.length : Int) + 1))]:=rfl
  simp -implicitDefEqProofs (maxSteps:=5000000) only [go_sem,simprocAttr,itr,itq,zA6,hd,ix,cK,hca,cm,hm14,al,w1,w2,zAw,wr]
  unfold LP1 at l0
  generalize (envL prog).loop (runC (envL prog) (l25x0 (envL prog))) = L0 at l0 ⊢
  refine zBo (fun x=>seqR (seqR (zBr 1 (zBr 2 x)) _) _) (l0 _ _ _ _ _ _ _ _ _ _ _ _ _ _ _ _ _ _ _ _ _ _ _ _ _ _ _ _ _ _ _ _ _ _ _ _ _ _ _ _ _ _ _ _ _ _ _ _ _ _ _ _ _ _ _ _ _ _ _ _ _ _ _ _ _ _ _ _ _ _ _ _ _ _ _ _ _ _ _ _ _ _ _ _ _ _ _ _ _ _ _ _ _ _ _ _ _ _ _ _ _ _ _ _ _ _ _ _ _ _ _ _ _ _ _ _ _ _ _ _ _ _ _ _ _ _ _ _ _ _ _ _ _ _ _ _ _ _ _ _ _ _ _ _ _ (Fr.refl _ _) b1 hy hN (by omega)) ?_
  rintro e t' K2 ⟨rfl,f2,hb2,fv,rfl⟩
  have f12 : Fr K0 K2 (fun b=>b = b2 ∨ b = pb):=f1.trans f2 fun _ _ h=>.inl h
  have m2 : K2[pb]? = some (.rw (P ++ [.int .i64 (u + ((t.length : Int) + 1))])):=f2.at m1 fun h=>nb h.symm
  simp -implicitDefEqProofs (maxSteps:=5000000) only [go_sem,simprocAttr,itr,itq,e2]
  rw [show u + ((t.length : Int) + 1 + zFb (T.drop (i + 1))) = u + ((t.length : Int) + 1) + zFb (T.drop (i + 1)) by omega]
  exact ih (i + 1) (zCx l t) (u + ((t.length : Int) + 1)) K2 _ _ _ _ _ _ _ _ _ _ _ _ _ _ _ _ _ _ _ _ _ _ _ _ _ _ _ _ _ _ _ _ _ _ f12 hb2 m2 (zP6 hy t48) (by rw [zJg]; exact hN) (by omega) (by omega) (by omega)
end
end Go.Proofs.YtbmmnfeeapnhkaaGreat.G08
end
section
namespace Go.Proofs.YtbmmnfeeapnhkaaGreat.G08
open Go Go.Proofs.YtbmmnfeeapnhkaaGreat.Eng
theorem zLi {l : List (List Int)} {i : Nat} {x : List Int} (h : l[i]? = some x) : (l.take (i + 1)).flatten = (l.take i).flatten ++ x:=by
 have lt:=(List.getElem?_eq_some_iff.1 h).1
 rw [List.take_add_one,h]
 simp
theorem zG1 : ∀ {l : List (List Int)},(∀ y ∈ l,y.length = 48) → l.flatten.length = 48 * l.length
 | [],_=>rfl
 | x :: l,h=>by
  rw [List.flatten_cons,List.length_append,h x (by simp),zG1 fun y hy=>h y (by simp [hy]),List.length_cons]; omega
section
variable {K0 : zAa} {b2 pb : Nat} {l : List (List Int)} {Pa Pc : List AV} (hl : cellsOf K0 b2 = some (pgs l)) (hy : ∀ y ∈ l,y.length = 48) (nb : b2 ≠ pb) (hPa : Pa.length = 9) (hlN : l.length ≤ 1000)
include hl hy nb hPa hlN
set_option maxHeartbeats 8000000 in
theorem openL2 (x0 x1 x2 x3 x5 x6 x7 x8 x9 x10 x11 x12 x14 x15 x16 x17 x18 x19 x20 x21 x22 x23 x24 x25 x26 x27 x28 x29 x30 x31 x32 x33 x34 x35 x36 x37 x38 x39 x40 x41 x42 x43 x44 x45 x46 x47 x48 x49 x50 x51 x52 x53 x54 x55 x56 x57 x58 x59 x60 x61 x62 x63 x64 x65 x66 x67 x68 x69 x70 x71 x72 x73 x74 x75 x76 x77 x78 x79 x80 x81 x82 x83 x84 x85 x86 x87 x88 x89 x90 x91 x92 x93 x94 x95 x96 x97 x98 x99 x100 x101 x102 x103 x104 x105 x106 x107 x108 x109 x110 x111 x112 x113 x114 x115 x116 x117 x134 x135 x136 x137 x138 x139 x140 x141 x142 x143 x144 x145 x146 x147 x148 : AV) : ∀ (k i : Nat) (vb : AV) (K : zAa) (j13 j121 j122 j123 j124 j125 j126 j127 j128 j129 j130 j131 j132 j133 : AV),Fr K0 K (· = pb) → K[pb]? = some (.rw (Pa ++ vb :: Pc)) → GB K K0.length vb (l.take i).flatten → pb < K0.length → i + k = l.length →
  Outs (LP1 l25x2 [x0,x1,x2,x3,.ptr pb 0,x5,x6,x7,x8,x9,x10,x11,x12,j13,x14,x15,x16,x17,x18,x19,x20,x21,x22,x23,x24,x25,x26,x27,x28,x29,x30,x31,x32,x33,x34,x35,x36,x37,x38,x39,x40,x41,x42,x43,x44,x45,x46,x47,x48,x49,x50,x51,x52,x53,x54,x55,x56,x57,x58,x59,x60,x61,x62,x63,x64,x65,x66,x67,x68,x69,x70,x71,x72,x73,x74,x75,x76,x77,x78,x79,x80,x81,x82,x83,x84,x85,x86,x87,x88,x89,x90,x91,x92,x93,x94,x95,x96,x97,x98,x99,x100,x101,x102,x103,x104,x105,x106,x107,x108,x109,x110,x111,x112,x113,x114,x115,x116,x117,.sl b2 0 48 l.length l.length false,.int .i64 (l.length : Int),.int .i64 (i : Int),j121,j122,j123,j124,j125,j126,j127,j128,j129,j130,j131,j132,j133,x134,x135,x136,x137,x138,x139,x140,x141,x142,x143,x144,x145,x146,x147,x148] K) fun e t' K'=>e = .exit 4 ∧ Fr K0 K' (· = pb) ∧ (∃ vb',K'[pb]? = some (.rw (Pa ++ vb' :: Pc)) ∧ GB K' K0.length vb' l.flatten) ∧ ∃ fv : Nat → AV,t' = [x0,x1,x2,x3,.ptr pb 0,x5,x6,x7,x8,x9,x10,x11,x12,(fv 13),x14,x15,x16,x17,x18,x19,x20,x21,x22,x23,x24,x25,x26,x27,x28,x29,x30,x31,x32,x33,x34,x35,x36,x37,x38,x39,x40,x41,x42,x43,x44,x45,x46,x47,x48,x49,x50,x51,x52,x53,x54,x55,x56,x57,x58,x59,x60,x61,x62,x63,x64,x65,x66,x67,x68,x69,x70,x71,x72,x73,x74,x75,x76,x77,x78,x79,x80,x81,x82,x83,x84,x85,x86,x87,x88,x89,x90,x91,x92,x93,x94,x95,x96,x97,x98,x99,x100,x101,x102,x103,x104,x105,x106,x107,x108,x109,x110,x111,x112,x113,x114,x115,x116,x117,.sl b2 0 48 l.length l.length false,.int .i64 (l.length : Int),(fv 120),(fv 121),(fv 122),(fv 123),(fv 124),(fv 125),(fv 126),(fv 127),(fv 128),(fv 129),(fv 130),(fv 131),(fv 132),(fv 133),x134,x135,x136,x137,x138,x139,x140,x141,x142,x143,x144,x145,x146,x147,x148]:=by
 intro k
 obtain ⟨L,hL⟩ : ∃ L,L = LP1 l25x2:=⟨_,rfl⟩
 have lo:=zBc hL
 rw [← hL]
 induction k with
 | zero =>
  intro i vb K j13 j121 j122 j123 j124 j125 j126 j127 j128 j129 j130 j131 j132 j133 f hm g hpb hi
  obtain rfl : i = l.length:=by omega
  have hd : decide ((l.length : Int) < (l.length : Int)) = false:=by simp
  rw [List.take_length] at g
  rw [lo]
  unfold l25x2
  simp -implicitDefEqProofs (maxSteps:=5000000) only [go_sem,simprocAttr,hd,zAu,zAc]
  exact ⟨f,⟨vb,hm,g⟩,exF rfl⟩
 | succ k ih =>
  intro i vb K j13 j121 j122 j123 j124 j125 j126 j127 j128 j129 j130 j131 j132 j133 f hm g hpb hi
  have hlt : i < l.length:=by omega
  have hd : decide ((i : Int) < (l.length : Int)) = true:=decide_eq_true (by omega)
  have e2 : IntKind.i64.wrap ((i : Int) + 1) = ((i + 1 : Nat) : Int):=by rw [zAq (by omega) (by omega)]; omega
  have hx:=List.getElem?_eq_getElem hlt
  have x48:=hy _ (List.getElem_mem hlt)
  have ts:=zLi hx
  generalize l[i] = x at *
  have ix:=zEf b2 48 l.length l.length i false .i64 (by omega) hlt
  have cb:=f.cells hl nb
  obtain ⟨q1,q2⟩:=zH1 (zO7 hy) (zCf u8s hx) 0 48 (by omega)
  rw [Nat.add_zero] at q1 q2
  have xl : (u8s x).length = 48:=by rw [zAd,x48]
  rw [List.drop_zero,List.take_of_length_le (show (u8s x).length ≤ 48 by omega)] at q1
  have zl : (u8s zA2).length = 48:=by rw [zAd,zB7.1]
  have sp:=zCn zB7.1 x48 (by omega)
  have uc:=zAo x
  have kl:=f.1
  obtain ⟨K1,hK1⟩ : ∃ K1 : zAa,K1 = K ++ [.rw (u8s x)]:=⟨_,rfl⟩
  obtain ⟨P,hP⟩ : ∃ P,P = K1.take K0.length:=⟨_,rfl⟩
  have K1l : K1.length = K.length + 1:=by rw [hK1]; simp
  have Pl : P.length = K0.length:=by rw [hP,List.length_take]; omega
  have g1 : GB K1 P.length vb (l.take i).flatten:=by rw [Pl,hK1]; exact g.fr (Fr.adds ⟨_,rfl⟩ (fun _=>False)) fun _ _ h=>h
  have fl:=zG1 (l:=l.take i) fun y hh=>hy y (List.mem_of_mem_take hh)
  obtain ⟨vb',K2,ad,g2,fr,hu,ha⟩:=GB.more (d:=ty 1 false 1 [.int .u8 0]) rfl rfl (P:=P) (H:=K1) ⟨K1.drop K0.length,by rw [hP,List.take_append_drop]⟩ g1 (ys:=x) (y:=.sl K.length 0 1 48 48 true) (by rw [x48,hK1]; exact Src.block (by unfold cellsOf; simp) (by rw [zAd,x48]) (zAo x)) (by rw [fl,x48,List.length_take]; omega)
  rw [← ts,Pl] at g2
  have vlo : ∀ b,slb vb = some b → K0.length ≤ b:=fun b hb=>g.out b hb
  have m1 : K1[pb]? = some (.rw (Pa ++ vb :: Pc)):=by rw [hK1,List.getElem?_append_left (zAl hm)]; exact hm
  have m2 : K2[pb]? = some (.rw (Pa ++ vb :: Pc)):=fr.at m1 fun h=>by have:=vlo _ h; omega
  have cv:=g2.cells
  have wr : zAz K2 pb 9 [vb'] = some (K2.set pb (.rw (Pa ++ vb' :: Pc))):=by
   rw [zAv m2,if_pos ⟨by simp [hPa]; omega,by simp [cv.2]⟩,zAx,List.set_append_right _ _ (by omega),hPa]; rfl
  have c9 : (Pa ++ vb :: Pc)[9]? = some vb:=by rw [List.getElem?_append_right (by omega),hPa]; rfl
  have cm:=fun X : zAa=>zAy (x:=X) (zAj hm)
  have cm2:=zAj m2
  have sA:=zCu (n:=48) (b:=K.length) (off:=0) (H:=K ++ [.rw (u8s x)]) (cs:=u8s x) (by unfold cellsOf; simp) (by omega)
  have f2 : Fr K0 (K2.set pb (.rw (Pa ++ vb' :: Pc))) (· = pb):=by
   refine Fr.trans (F:=(· = pb)) (G:=fun b=>b = pb) ⟨?_,fun b hb hn=>?_⟩ (Fr.set _ _ rfl) fun _ _ h=>h
   ·have:=fr.1; omega
   ·rw [fr.2 b (by omega) fun h=>by have:=vlo b h; omega,hK1,List.getElem?_append_left (by omega)]
    exact f.2 b hb hn
  have g3 : GB (K2.set pb (.rw (Pa ++ vb' :: Pc))) K0.length vb' (l.take (i + 1)).flatten:=GB.fr (Fr.set (F:=(· = pb)) _ _ rfl) g2 fun b hb=>by have:=g2.out b hb; omega
  rw [hK1] at ha
  generalize hU : u8s x = U at *
  generalize hZ : u8s zA2 = Z at *
  generalize hM : Pa ++ vb :: Pc = M at *
  rw [lo]
  unfold l25x2
  simp -implicitDefEqProofs (maxSteps:=5000000) only [go_sem,simprocAttr,itr,itq,hd,ix,cb,q1,q2,zBe,hZ,zl,xl,sp,uc,cm,c9,sA,ha,cv.1,zAw,wr,e2]
  exact ih (i + 1) _ _ _ _ _ _ _ _ _ _ _ _ _ _ _ _ f2 (zA4 _ _ _ (zAl m2)) g3 hpb (by omega)
end
theorem zXy {z : List Int} (h : B64 z) : 0 ≤ (decS z).1.i ∧ (decS z).1.i ≤ 65535 ∧ B48 (decS z).1.b:=by
 refine ⟨?_,?_,(zJb h).b⟩ <;> unfold decS <;> split
 ·exact (zF1 fun y hy=>h.2 y (List.mem_of_mem_drop (List.mem_of_mem_take hy))).1
 ·exact Int.le_refl _
 ·have:=(zF1 (zs:=(z.drop 5).take 2) fun y hy=>h.2 y (List.mem_of_mem_drop (List.mem_of_mem_take hy))).2
  have l : ((z.drop 5).take 2).length = 2:=by simp [h.1]
  rw [l] at this
  show getS _ ≤ _
  omega
 ·show (0 : Int) ≤ _; omega
def ImOk (x : ImS) : Prop:=0 ≤ x.i ∧ x.i ≤ 65535 ∧ B48 x.b
section
variable {r : RgS} (hr : ∀ i,B64 (r.read 0 i).1)
include hr
theorem zWa (f c a : Int) : ImOk ⟨(zGc r f c a).1.i,(zGc r f c a).1.b⟩:=by
 unfold zGc
 split
 ·exact zXy (hr _)
 ·exact ⟨by show (0 : Int) ≤ 0; omega,by show (0 : Int) ≤ 65535; omega,zB7⟩
theorem zO4 (f c a s : Int) : ∀ (n : Nat) (l : List ImS),(∀ x ∈ l,ImOk x) → ∀ x ∈ (zEe r f c a s n l).1,ImOk x
 | 0,_,_=>fun x hx=>by cases hx
 | n + 1,l,hl=>by
  unfold zEe
  split
  ·split
   ·split
    ·refine zO4 f c a s n _ fun x hx=>?_
     rcases List.mem_append.1 hx with hx | hx
     ·exact hl x hx
     ·rw [List.mem_singleton.1 hx]; exact zWa hr f c _
    ·split
     ·exact hl
     ·intro x hx; cases hx
   ·intro x hx; cases hx
  ·intro x hx; cases hx
theorem zOu (f c : Int) (hc : 1 ≤ c) : ∀ (n : Nat) (l : LogS),(∀ t ∈ l.t,∀ x ∈ t,ImOk x) → 0 ≤ l.at_ ∧ l.at_ < c → 0 ≤ l.seq ∧ l.seq < 4294967296 → (zGb r f c n l).2 = 0 → (∀ t ∈ (zGb r f c n l).1.t,∀ x ∈ t,ImOk x) ∧ (0 ≤ (zGb r f c n l).1.at_ ∧ (zGb r f c n l).1.at_ < c) ∧ 0 ≤ (zGb r f c n l).1.seq ∧ (zGb r f c n l).1.seq < 4294967296
 | 0,l,h,h2,h3,_=>⟨h,h2,h3⟩
 | n + 1,l,h,h2,h3,he=>by
  unfold zGb at he ⊢
  split
  ·rename_i q1
   rw [if_pos q1] at he
   split
   ·exact ⟨h,h2,h3⟩
   ·rename_i q2
    rw [if_neg q2] at he
    refine zOu f c hc n _ (fun t ht x hx=>?_) ?_ ?_ he
    ·rcases List.mem_append.1 ht with ht | ht
     ·exact h t ht x hx
     ·rw [List.mem_singleton.1 ht] at hx
      exact zO4 hr f c _ _ _ _ (fun x hx=>by cases hx) x hx
    ·exact zM4 (by omega) hc
    ·show 0 ≤ (l.seq + 1) % 4294967296 ∧ (l.seq + 1) % 4294967296 < _
     omega
  ·rename_i q1
   rw [if_neg q1] at he
   exact absurd he q1
theorem zKn {f c a s : Int} (hs : 0 ≤ s ∧ s < 4294967296) (he : (zBs r f c a s).2 = 0) : (∀ t ∈ (zBs r f c a s).1.t,∀ x ∈ t,ImOk x) ∧ (0 ≤ (zBs r f c a s).1.at_ ∧ (zBs r f c a s).1.at_ < c) ∧ 0 ≤ (zBs r f c a s).1.seq ∧ (zBs r f c a s).1.seq < 4294967296:=by
 unfold zBs at he ⊢
 split
 ·rename_i g
  rw [if_pos g] at he
  obtain ⟨_,h2,_,_,h5,h6⟩:=g
  exact zOu hr f c (by omega) _ _ (fun t ht=>by cases ht) ⟨h5,h6⟩ hs he
 ·rename_i g
  rw [if_neg g] at he
  cases he
theorem zI3 (h : Int) : ∀ (k : Nat) (i : Int),(zB2 r h k i).2 = 0 → (zB2 r h k i).1.length = k ∧ ∀ x ∈ (zB2 r h k i).1,B48 x
 | 0,_,_=>⟨rfl,fun x hx=>by cases hx⟩
 | k + 1,i,he=>by
  rw [zK0] at he ⊢
  split
  ·rename_i q1
   rw [if_pos q1] at he
   split
   ·rename_i q2
    rw [if_pos q2] at he
    split
    ·rename_i q3
     obtain ⟨h1,h2⟩:=zI3 h k (i + 1) q3
     refine ⟨by simp [h1],fun x hx=>?_⟩
     rcases List.mem_cons.1 hx with rfl | hx
     ·exact (zXy (hr _)).2.2
     ·exact h2 x hx
    ·rename_i q3
     rw [if_neg q3] at he
     exact absurd he q3
   ·rename_i q2
    rw [if_neg q2] at he
    cases he
  ·rename_i q1
   rw [if_neg q1] at he
   exact absurd he q1
end
theorem zM0 : ∀ (T : List (List ImS)),(∀ t ∈ T,t.length ≤ 256) → zFb T ≤ 257 * (T.length : Int)
 | [],_=>by simp [zFb]
 | t :: T,h=>by
  rw [zFl]
  have h1:=h t (by simp)
  have h2:=zM0 T fun x hx=>h x (by simp [hx])
  simp only [List.length_cons]
  omega
end Go.Proofs.YtbmmnfeeapnhkaaGreat.G08
end
section
namespace Go.Proofs.YtbmmnfeeapnhkaaGreat.G08
open Go Go.Proofs.YtbmmnfeeapnhkaaGreat.Eng
theorem clone48C {H : zAa} {B : Nat} {v : AV} {rows : List (List AV)} (g : GR 48 H B v rows) (h48 : ∀ r ∈ rows,r.length = 48) (hc : rows.flatten.all AV.isCell = true) (h0 : rows ≠ []) (hn : rows.length ≤ 100000) : ∃ v' K',Adds H K' ∧ GR 48 K' H.length v' rows ∧ (∀ b,slb v' = some b → H.length ≤ b ∧ b < K'.length) ∧ zA7 v' = some [v'] ∧ v'.isCell = true ∧ (envL prog).call 88 [v] H = some (v',K'):=by
 have s:=(g.mono [.rw []]).src h48 hc
 rcases g with ⟨h,_⟩ | ⟨_,b,_,rfl,hb⟩
 ·exact absurd h h0
 have hp : 0 < rows.length:=List.length_pos_iff.2 h0
 have hl:=zDn h48
 have ea : app (ty 48 true 48 (rep 48 (.int .u8 0))) (.sl H.length 0 48 0 0 true) (.sl b 0 48 rows.length rows.length false) (H ++ [.rw []]) = some (.sl (H.length + 1) 0 48 rows.length rows.length false,H ++ [.rw [],.rw rows.flatten]):=by
  unfold app
  rw [s.sl]
  simp only [Option.bind_some,show (ty 48 true 48 (rep 48 (.int .u8 0))).size = 48 from rfl,s.cells]
  unfold zDd
  simp only [show (ty 48 true 48 (rep 48 (.int .u8 0))).size = 48 from rfl,show (ty 48 true 48 (rep 48 (.int .u8 0))).bytes = 48 from rfl]
  rw [if_neg (by simp),if_neg (by omega),if_neg (by omega),if_pos ⟨by omega,by unfold roomy; omega⟩]
  have hz : zC6 (H ++ [.rw []]) H.length 0 (0 * 48) = some []:=by unfold zC6 cellsOf; simp
  rw [hz]
  simp
 refine ⟨.sl (H.length + 1) 0 48 rows.length rows.length false,H ++ [.rw [],.rw rows.flatten],⟨_,rfl⟩,.inr ⟨h0,H.length + 1,by omega,rfl,by simp⟩,fun x hx=>by injection hx with hx; subst hx; exact ⟨by omega,by simp⟩,rfl,rfl,?_⟩
 have tr : ∀ X,trim H (some (AV.sl (H.length + 1) 0 48 rows.length rows.length false,X)) = some (.sl (H.length + 1) 0 48 rows.length rows.length false,X):=fun X=>zBa (by simp [AV.under])
 have rz : (List.replicate 0 (rep 48 (AV.int .u8 0))).flatten = []:=rfl
 rw [c88]
 unfold b88
 simp -implicitDefEqProofs (maxSteps:=5000000) only [go_sem,simprocAttr,itr,itq,ea,tr]
structure PtOk (r : RgS) (i : Int) (pt : PtS) : Prop where
 f : pt.Fit
 g : pt.g.good = true
 a : pt.at_ < pt.g.r
 i : i = 0 ∨ i = 1
theorem ptS_ok {z : List Int} (hz : B64 z) (h : (ptS z).2 = true) : (ptS z).1.Fit ∧ (ptS z).1.g.good = true ∧ (ptS z).1.at_ < (ptS z).1.g.r:=by
 have hg:=zR2 h
 unfold ptS at h hg ⊢
 split at h
 ·rename_i he
  rw [if_pos he] at hg ⊢
  unfold ptOk at h
  simp only [Bool.and_eq_true,decide_eq_true_eq] at h
  exact ⟨zKq (zJb hz),h.1.2,h.2⟩
 ·cases h
theorem zO1 {r : RgS} {i : Int} {z : List Int} (hz : B64 z) (hi : i = 0 ∨ i = 1) {best : Option (Int × PtS)} (hb : ∀ j q,best = some (j,q) → PtOk r j q) : ∀ j q,zJk r i z best = some (j,q) → PtOk r j q:=by
 intro j q h
 unfold zJk at h
 have key : ∀ M : Bool,(if ((ptS z).2 && zOt r (ptS z).1.g && M) = true then some (i,(ptS z).1) else best) = some (j,q) → PtOk r j q:=fun M h=>by
  split at h
  ·rename_i hc
   simp only [Bool.and_eq_true] at hc
   simp only [Option.some.injEq,Prod.mk.injEq] at h
   obtain ⟨rfl,rfl⟩:=h
   obtain ⟨h1,h2,h3⟩:=ptS_ok hz hc.1.1
   exact ⟨h1,h2,h3,hi⟩
  ·exact hb j q h
 exact key _ h
theorem zO5 {r : RgS} (hr : ∀ i,B64 (r.read 0 i).1) {i : Int} {pt : PtS} (h : (zC1 r).1 = some (i,pt)) : PtOk r i pt:=by
 have h0 : ∀ j q,(none : Option (Int × PtS)) = some (j,q) → PtOk r j q:=fun j q h=>by cases h
 have h1:=zO1 (r:=r) (hr 0) (.inl rfl) h0
 have h2:=zO1 (r:=r) (hr 1) (.inr rfl) h1
 unfold zC1 at h
 split at h
 ·split at h
  ·exact h2 i pt h
  ·split at h
   ·exact h1 i pt h
   ·cases h
 ·split at h
  ·cases h
  ·cases h
theorem zUp {l : List (List Int)} {x : ImS} (h : ∀ y ∈ l,B48 y) (hx : B48 x.b) : ∀ y ∈ zDm l x,B48 y:=fun y hy=>by
 unfold zDm at hy
 split at hy
 ·rcases List.mem_or_eq_of_mem_set hy with hy | hy
  ·exact h y hy
  ·rw [hy]; exact hx
 ·exact h y hy
theorem zMv : ∀ {t : List ImS} {l : List (List Int)},(∀ y ∈ l,B48 y) → (∀ x ∈ t,B48 x.b) → ∀ y ∈ zCx l t,B48 y
 | [],_,h,_=>h
 | x :: t,l,h,ht=>zMv (t:=t) (l:=zDm l x) (zUp h (ht x (by simp))) fun y hy=>ht y (by simp [hy])
theorem zHs : ∀ {T : List (List ImS)} {l : List (List Int)},(∀ y ∈ l,B48 y) → (∀ t ∈ T,∀ x ∈ t,B48 x.b) → (∀ y ∈ T.foldl zCx l,B48 y) ∧ (T.foldl zCx l).length = l.length
 | [],_,h,_=>⟨h,rfl⟩
 | t :: T,l,h,ht=>by
  obtain ⟨h1,h2⟩:=zHs (T:=T) (l:=zCx l t) (zMv h (ht t (by simp))) fun x hx=>ht x (by simp [hx])
  exact ⟨h1,by rw [List.foldl_cons,h2,zJg]⟩
theorem openS_ok {r : RgS} (hr : ∀ i,B64 (r.read 0 i).1) {m : MtS} (h : (zF0 r).1 = some m) : m.Ok ∧ (zF0 r).2 = 0:=by
 unfold zF0 at h ⊢
 split at h
 ·rename_i q0
  rw [if_pos q0]
  split at h
  ·cases h
  ·rename_i i pt hp
   have o:=zO5 hr hp
   have N:=pt.g.nm o.g
   have Np:=N.hp; have Ny:=N.hy; have Nc:=N.hc
   split at h
   ·rename_i q1
    rw [if_pos q1]
    split at h
    ·rename_i q2
     rw [if_pos q2]
     simp only [Option.some.injEq] at h
     subst h
     obtain ⟨hl,hb⟩:=zI3 hr _ _ _ q1
     obtain ⟨t1,t2,t3⟩:=zKn hr o.f.seq q2
     obtain ⟨l1,l2⟩:=zKo r 2 pt.g.r pt.at_ pt.seq
     obtain ⟨p1,p2⟩:=zHs hb fun t ht x hx=>(t1 t ht x hx).2.2
     have fl:=zG1 fun y hy=>(p1 y hy).1
     have u:=zM0 _ l2
     have un:=zJv (zBs r 2 pt.g.r pt.at_ pt.seq).1.t
     refine ⟨⟨o.g,?_,fun z hz=>?_,?_,hb,o.f.gen,o.i,t2,t3,un,?_⟩,rfl⟩
     ·show ((List.take pt.g.bytes.toNat (List.foldl zCx (zB2 r pt.g.home pt.g.pages.toNat 0).1 (zBs r 2 pt.g.r pt.at_ pt.seq).1.t).flatten).length : Int) = pt.g.bytes
      rw [List.length_take,fl,p2,hl]
      omega
     ·obtain ⟨y,hy,hz⟩:=List.mem_flatten.1 (List.mem_of_mem_take hz)
      exact (p1 y hy).2 z hz
     ·show ((zB2 r pt.g.home pt.g.pages.toNat 0).1.length : Int) = pt.g.pages
      rw [hl]; omega
     ·show zFb (zBs r 2 pt.g.r pt.at_ pt.seq).1.t ≤ 100000
      omega
    ·cases h
   ·cases h
 ·cases h
end Go.Proofs.YtbmmnfeeapnhkaaGreat.G08
end
section
namespace Go.Proofs.YtbmmnfeeapnhkaaGreat.G08
open Go Go.Proofs.YtbmmnfeeapnhkaaGreat.Eng
theorem openS_A {r : RgS} (h : (zC1 r).2 ≠ 0) : zF0 r = (none,(zC1 r).2):=by unfold zF0; rw [if_neg h]
theorem openS_B {r : RgS} (h : (zC1 r).2 = 0) (h1 : (zC1 r).1 = none) : zF0 r = (none,11):=by unfold zF0; rw [if_pos h,h1]
theorem openS_C {r : RgS} {i : Int} {p : PtS} (h : (zC1 r).2 = 0) (h1 : (zC1 r).1 = some (i,p)) (h2 : (zB2 r p.g.home p.g.pages.toNat 0).2 ≠ 0) : zF0 r = (none,(zB2 r p.g.home p.g.pages.toNat 0).2):=by unfold zF0; rw [if_pos h,h1]; dsimp only; rw [if_neg h2]
theorem openS_D {r : RgS} {i : Int} {p : PtS} (h : (zC1 r).2 = 0) (h1 : (zC1 r).1 = some (i,p)) (h2 : (zB2 r p.g.home p.g.pages.toNat 0).2 = 0) (h3 : (zBs r 2 p.g.r p.at_ p.seq).2 ≠ 0) : zF0 r = (none,(zBs r 2 p.g.r p.at_ p.seq).2):=by unfold zF0; rw [if_pos h,h1]; dsimp only; rw [if_pos h2,if_neg h3]
theorem openS_E {r : RgS} {i : Int} {p : PtS} (h : (zC1 r).2 = 0) (h1 : (zC1 r).1 = some (i,p)) (h2 : (zB2 r p.g.home p.g.pages.toNat 0).2 = 0) (h3 : (zBs r 2 p.g.r p.at_ p.seq).2 = 0) : zF0 r = (some ⟨p.g,p.gen,((zBs r 2 p.g.r p.at_ p.seq).1.t.foldl zCx (zB2 r p.g.home p.g.pages.toNat 0).1).flatten.take p.g.bytes.toNat,(zB2 r p.g.home p.g.pages.toNat 0).1,i,(zBs r 2 p.g.r p.at_ p.seq).1.at_,(zBs r 2 p.g.r p.at_ p.seq).1.seq,zFb (zBs r 2 p.g.r p.at_ p.seq).1.t⟩,0):=by unfold zF0; rw [if_pos h,h1]; dsimp only; rw [if_pos h2,if_pos h3]
theorem pgs_cell (l : List (List Int)) : (pgs l).all AV.isCell = true:=by
 unfold pgs
 rw [List.all_eq_true]
 intro a ha
 obtain ⟨y,hy,ha⟩:=List.mem_flatten.1 ha
 obtain ⟨x,_,rfl⟩:=List.mem_map.1 hy
 exact List.all_eq_true.1 (zAo x) a ha
section
variable {q : RPl} {H : zAa} {n : Nat} {r : RgS} {F : Nat → Prop} (m : zA3 q H n r F)
include m
set_option maxHeartbeats 16000000 in
theorem openC : (∃ mm pm G H',zF0 r = (some mm,0) ∧ Adds H H' ∧ MtH H' pm q.p mm G ∧ (∀ b,G b → H.length ≤ b) ∧ (envL prog).call 25 [.ptr q.p 0] H = some (.tup [.ptr pm 0,.int .i64 0],H')) ∨
  ((zF0 r).1 = none ∧ (envL prog).call 25 [.ptr q.p 0] H = some (.tup [.nilPtr,.int .i64 (zF0 r).2],H)):=by
 have hr : ∀ i,B64 (r.read 0 i).1:=fun i=>zUn m 0 i
 have fT : ∀ {K : zAa} (e : Int),Adds H K → trim H (some (AV.tup [.nilPtr,.int .i64 e],K)) = some (.tup [.nilPtr,.int .i64 e],H):=fun e a=>a.trimS rfl
 obtain ⟨v1,K1,a1,⟨h0,rfl,en⟩ | ⟨h0,h1,rfl,en⟩ | ⟨h0,i,pt,pb,h1,rfl,hpb,hat,en⟩⟩:=newerC m
 ·rw [openS_A h0]
  refine .inr ⟨rfl,?_⟩
  have n0 : ((zC1 r).2 != 0) = true:=by simpa using h0
  have ft:=fT (zC1 r).2 a1
  rw [c25]
  unfold b25
  simp -implicitDefEqProofs (maxSteps:=5000000) only [go_sem,simprocAttr,itr,itq,en,n0,ft]
 ·rw [openS_B h0 h1]
  refine .inr ⟨rfl,?_⟩
  have n0 : ((11 : Int) != 0) = true:=rfl
  have ft:=fT 11 a1
  rw [c25]
  unfold b25
  simp -implicitDefEqProofs (maxSteps:=5000000) only [go_sem,simprocAttr,itr,itq,en,n0,ft]
 have po:=zO5 hr h1
 have hg:=po.g
 have N:=pt.g.nm hg
 have Np:=N.hp; have Ny:=N.hy; have Nc:=N.hc; have Nr:=N.hr
 have n00 : ((0 : Int) != 0) = false:=rfl
 have m1 : zA3 q K1 n r F:=by obtain ⟨X,rfl⟩:=a1; exact m.adds X
 obtain ⟨v2,K2,a2,hv2,eh⟩:=homesC m1 hg
 have cpb:=zAj hat
 have pg5 : (zGp q.p i pt).take 5 = pt.g.cells:=rfl
 have ml : 5 ≤ (zGp q.p i pt).length:=by show 5 ≤ 15; omega
 rcases hv2 with ⟨h2,g2,p48⟩ | ⟨h2,rfl⟩
 rotate_left
 ·rw [openS_C h0 h1 h2]
  refine .inr ⟨rfl,?_⟩
  have n0 : ((zB2 r pt.g.home pt.g.pages.toNat 0).2 != 0) = true:=by simpa using h2
  have ft:=fT (zB2 r pt.g.home pt.g.pages.toNat 0).2 (a1.trans a2)
  generalize zGp q.p i pt = MZ at *
  generalize pt.g.cells = GC at *
  rw [c25]
  unfold b25
  simp -implicitDefEqProofs (maxSteps:=5000000) only [go_sem,simprocAttr,itr,itq,en,n00,cpb,pg5,ml,eh,n0,ft]
 obtain ⟨hl,hb48⟩:=zI3 hr _ _ _ h2
 obtain ⟨PG,hPG⟩ : ∃ PG,PG = (zB2 r pt.g.home pt.g.pages.toNat 0).1:=⟨_,rfl⟩
 rw [← hPG] at g2 p48 hl hb48
 have hlp : PG.length = pt.g.pages.toNat:=hl
 rcases g2 with ⟨h,_⟩ | ⟨_,b2,hb2,rfl,at2⟩
 ·exfalso
  have:=congrArg List.length h
  rw [List.length_map,hlp] at this
  simp at this
  omega
 rw [List.length_map] at *
 have g2 : GR 48 K2 K1.length (.sl b2 0 48 PG.length PG.length false) (PG.map u8s):=.inr ⟨fun h=>by have:=congrArg List.length h; rw [List.length_map,hlp] at this; simp at this; omega,b2,hb2,by rw [List.length_map],at2⟩
 obtain ⟨K3,hK3⟩ : ∃ K3 : zAa,K3 = K2 ++ [.rw [.nilSl,.int .i64 0,.int .u32 0]]:=⟨_,rfl⟩
 have a3 : Adds K2 K3:=⟨_,hK3⟩
 have m3 : zA3 q K3 n r F:=by obtain ⟨X,rfl⟩:=(a2.trans a3); exact m1.adds X
 obtain ⟨lv,vs,K4,a4,lg,er⟩:=replayC m3 2 pt.g.r pt.at_ pt.seq
 have K3l : K3.length = K2.length + 1:=by rw [hK3]; simp
 have pb1:=zAl hat
 have b21:=zAl at2
 have L12:=a2.len; have L34:=a4.len
 have cpb2:=a2.cells cpb
 have cpb3:=fun X=>zAy (x:=X) cpb2
 have rg:=fun X=>ringP hg (K2 ++ X)
 have l4 : K4[K2.length]? = some (.rw [.nilSl,.int .i64 0,.int .u32 0]):=a4.at (by rw [hK3]; simp)
 have cl:=lg.g.cells
 obtain ⟨LA,hLA⟩ : ∃ LA,LA = zBs r 2 pt.g.r pt.at_ pt.seq:=⟨_,rfl⟩
 rw [← hLA] at er lg
 obtain ⟨K5,hK5⟩ : ∃ K5 : zAa,K5 = K4.set K2.length (.rw [lv,.int .i64 LA.1.at_,.int .u32 LA.1.seq]):=⟨_,rfl⟩
 have w5 : zAz K4 K2.length 0 [lv,.int .i64 LA.1.at_,.int .u32 LA.1.seq] = some K5:=by
  rw [zAv l4,if_pos ⟨by simp,by rw [List.all_cons,cl.2]; rfl⟩,hK5]; rfl
 have f45 : Fr K4 K5 (· = K2.length):=by rw [hK5]; exact Fr.set _ _ rfl
 have L5 : K5.length = K4.length:=by rw [hK5]; simp
 have a5 : Adds H K5:=by rw [hK5]; exact zD5 (a1.trans (a2.trans (a3.trans a4))) _ (by have:=a1.len; omega)
 have z6 : (zGp q.p i pt)[4]? = some (.int .i64 pt.g.r):=rfl
 have z7 : (zGp q.p i pt)[6]? = some (.int .i64 pt.at_):=rfl
 have z8 : (zGp q.p i pt)[7]? = some (.int .u32 pt.seq):=rfl
 rw [hK3] at er
 have PGl : (PG.length : Int) = pt.g.pages:=by omega
 by_cases h3 : LA.2 = 0
 rotate_left
 ·rw [hLA] at h3
  rw [openS_D h0 h1 h2 h3,← hLA]
  rw [← hLA] at h3
  refine .inr ⟨rfl,?_⟩
  have n0 : (LA.2 != 0) = true:=by simpa using h3
  have ft:=fT LA.2 a5
  rw [← hPG] at *
  generalize zGp q.p i pt = MZ at *
  generalize pt.g.cells = GC at *
  rw [c25]
  unfold b25
  simp -implicitDefEqProofs (maxSteps:=5000000) only [go_sem,simprocAttr,itr,itq,en,n00,cpb,pg5,ml,eh,h2,cpb2,cpb3,z6,z7,z8,rg,er,w5,n0,ft]
 have h3' : (zBs r 2 pt.g.r pt.at_ pt.seq).2 = 0:=by rw [← hLA]; exact h3
 obtain ⟨tr1,tr2,tr3⟩:=zKn hr po.f.seq h3'
 obtain ⟨tl1,tl2⟩:=zKo r 2 pt.g.r pt.at_ pt.seq
 have eO:=openS_E h0 h1 h2 h3'
 rw [← hLA] at tr1 tr2 tr3 tl1 tl2 eO
 rw [← hPG] at eO
 have ule:=zM0 _ tl2
 have unn:=zJv LA.1.t
 obtain ⟨ap1,ap2⟩:=zHs (l:=PG) hb48 fun t ht x hx=>(tr1 t ht x hx).2.2
 obtain ⟨PG',hPG'⟩ : ∃ PG',PG' = LA.1.t.foldl zCx PG:=⟨_,rfl⟩
 rw [← hPG'] at ap1 ap2 eO
 have g5 : GR 48 K5 K1.length (.sl b2 0 48 PG.length PG.length false) (PG.map u8s):=by
  rw [hK5]
  exact ((g2.frS (Fr.adds a3 (fun _=>False)) fun _ _ h=>h).frS (Fr.adds a4 (fun _=>False)) fun _ _ h=>h).frS (Fr.set (F:=(· = K2.length)) _ _ rfl) fun b hb=>by injection hb with hb; omega
 obtain ⟨vh,K6,a6,g6,vho,ch,chc,ec⟩:=clone48C g5 (zO7 p48) (pgs_cell PG) (fun h=>by have:=congrArg List.length h; rw [List.length_map,hlp] at this; simp at this; omega) (by rw [List.length_map]; omega)
 have L56:=a6.len
 have pb6 : K6[pb]? = some (.rw (zGp q.p i pt)):=a6.at (by rw [hK5,zAf _ _ _ _ (by omega)]; exact (a4.at (a3.at (a2.at hat))))
 have cT5 : cellsOf K5 K2.length = some [lv,.int .i64 LA.1.at_,.int .u32 LA.1.seq]:=by rw [hK5]; exact zAj (zA4 _ _ _ (zAl l4))
 have cT6:=a6.cells cT5
 obtain ⟨P,hP⟩ : ∃ P : List AV,P = pt.cells ++ [.ptr q.p 0,.nilSl,vh,.int .i64 i,.int .i64 LA.1.at_,.int .u32 LA.1.seq]:=⟨_,rfl⟩
 have Pl : P.length = 14:=by rw [hP]; rfl
 have sS : ∀ C : List AV,∀ c,c ≠ pb → cellsOf (K6.set pb (.rw C)) c = cellsOf K6 c:=fun C c hc=>zBj _ _ _ _ hc
 obtain ⟨c1v,hc1⟩ : ∃ c,c = pt.cells ++ [.ptr q.p 0,.nilSl,vh,.int .i64 i,.int .i64 0,.int .u32 0,.int .i64 0]:=⟨_,rfl⟩
 obtain ⟨c2v,hc2⟩ : ∃ c,c = pt.cells ++ [.ptr q.p 0,.nilSl,vh,.int .i64 i,.int .i64 LA.1.at_,.int .u32 0,.int .i64 0]:=⟨_,rfl⟩
 have s2 : ∀ X Y : List AV,(K6.set pb (.rw X)).set pb (.rw Y) = K6.set pb (.rw Y):=fun X Y=>List.set_set ..
 have lp6:=zAl pb6
 have w1 : zAz K6 pb 10 [vh] = some (K6.set pb (.rw c1v)):=by
  rw [zAv pb6,if_pos ⟨by show 10 + 1 ≤ 15; omega,by simp [chc]⟩,zAx,hc1]; rfl
 have w2 : zAz (K6.set pb (.rw c1v)) pb 12 [.int .i64 LA.1.at_] = some (K6.set pb (.rw c2v)):=by
  rw [zAv (zA4 _ _ _ lp6),if_pos ⟨by rw [hc1]; show 12 + 1 ≤ 15; omega,rfl⟩,zAx,s2,hc1,hc2]; rfl
 have w3 : zAz (K6.set pb (.rw c2v)) pb 13 [.int .u32 LA.1.seq] = some (K6.set pb (.rw (P ++ [.int .i64 0]))):=by
  rw [zAv (zA4 _ _ _ lp6),if_pos ⟨by rw [hc2]; show 13 + 1 ≤ 15; omega,rfl⟩,zAx,s2,hP,hc2]; rfl
 obtain ⟨K7,hK7⟩ : ∃ K7,K7 = K6.set pb (.rw (P ++ [.int .i64 0])):=⟨_,rfl⟩
 rw [← hK7] at w3
 have q25:=fun C=>(sS C K2.length (by omega)).trans cT6
 have q27 : cellsOf K7 K2.length = some [lv,.int .i64 LA.1.at_,.int .u32 LA.1.seq]:=by rw [hK7]; exact q25 _
 have m7 : K7[pb]? = some (.rw (P ++ [.int .i64 0])):=by rw [hK7]; exact zA4 _ _ _ lp6
 have f67 : Fr K6 K7 (· = pb):=by rw [hK7]; exact Fr.set _ _ rfl
 have lg7 : LogH K7 K3.length lv LA.1.t vs:=((lg.fr f45 fun b hb=>by omega).fr (Fr.adds a6 (fun _=>False)) fun _ _ h=>h).fr f67 fun b hb=>by omega
 have b27 : K7[b2]? = some (.rw (pgs PG)):=by
  have : K6[b2]? = some (.rw (pgs PG)):=a6.at (by rw [hK5,zAf _ _ _ _ (by omega)]; exact a4.at (a3.at at2))
  exact f67.at this (by omega)
 have l0:=openL1 lg7 (fun t ht x hx=>(tr1 t ht x hx).1) (fun t ht=>by have:=tl2 t ht; omega) (by omega) (N:=PG.length) (b2:=b2) (pb:=pb) Pl (by omega) (fun b hb=>by omega) (fun b hb=>by omega) (k:=LA.1.t.length) (i:=0) (l:=PG) (u:=0) (K:=K7)
 rw [show ((0 : Nat) : Int) = 0 from rfl,List.drop_zero,← hPG'] at l0
 have lvl:=lg.lenSl
 have sA : ∀ X : zAa × Int,X.2 = 0 → True:=fun _ _=>trivial
 have key : Outs (runC (envL prog) (b25 (envL prog)) ([.ptr q.p 0] ++ List.replicate (149 - [AV.ptr q.p 0].length) .undef) H) fun e' t K=>∃ vb G,Adds H K ∧ MtC K pb q.p ⟨pt.g,pt.gen,PG'.flatten.take pt.g.bytes.toNat,PG,i,LA.1.at_,LA.1.seq,zFb LA.1.t⟩ pt.at_ pt.seq vb vh G ∧ (∀ b,G b → H.length ≤ b) ∧ fin [.tmp 2,.tmp 3] (some (e',t,K)) = some (.tup [.ptr pb 0,.int .i64 0],K):=by
  unfold b25
  generalize hQ : (fun (e' : Ex) (t : T) (K : zAa)=>∃ vb G,Adds H K ∧ MtC K pb q.p ⟨pt.g,pt.gen,PG'.flatten.take pt.g.bytes.toNat,PG,i,LA.1.at_,LA.1.seq,zFb LA.1.t⟩ pt.at_ pt.seq vb vh G ∧ (∀ b,G b → H.length ≤ b) ∧ fin [.tmp 2,.tmp 3] (some (e',t,K)) = some (.tup [.ptr pb 0,.int .i64 0],K)) = Q
  rw [← hPG] at *
  have eh:=eh
  rw [h2] at eh
  rw [h3] at er
  generalize hMZ : zGp q.p i pt = MZ at *
  generalize hGC : pt.g.cells = GC at *
  simp -implicitDefEqProofs (maxSteps:=5000000) only [go_sem,simprocAttr,itr,itq,zA6,en,n00,cpb,pg5,ml,eh,cpb2,cpb3,z6,z7,z8,rg,er,w5,cT5,ec,cT6,zAw,ch,w1,w2,w3,q25,q27,lvl]
  unfold LP1 at l0
  generalize (envL prog).loop (runC (envL prog) (l25x1 (envL prog))) = L0 at l0 ⊢
  refine zBo (fun r=>seqR (zBr 0 r) _) (l0 _ _ _ _ _ _ _ _ _ _ _ _ _ _ _ _ _ _ _ _ _ _ _ _ _ _ _ _ _ _ _ _ _ _ _ _ _ _ _ _ _ _ _ _ _ _ _ _ _ _ _ _ _ _ _ _ _ _ _ _ _ _ _ _ _ _ _ _ _ _ _ _ _ _ _ _ _ _ _ _ _ _ _ _ _ _ _ _ _ _ _ _ _ _ _ _ _ _ _ _ _ _ _ _ _ _ _ _ _ _ _ _ _ _ _ _ _ _ _ _ _ _ _ _ _ _ _ _ _ _ _ _ _ _ _ _ _ _ _ _ _ _ _ _ (Fr.refl _ _) b27 m7 p48 rfl (by omega) (by omega) (by omega)) ?_
  rintro e t K8 ⟨rfl,f8,hb8,hm8,fv,rfl⟩
  rw [Int.zero_add] at hm8
  have c8:=zAj hb8
  have fl:=zG1 fun y hy=>(ap1 y hy).1
  obtain ⟨Pa,hPa⟩ : ∃ Pa : List AV,Pa = pt.cells ++ [.ptr q.p 0]:=⟨_,rfl⟩
  obtain ⟨Pc,hPc⟩ : ∃ Pc : List AV,Pc = [vh,.int .i64 i,.int .i64 LA.1.at_,.int .u32 LA.1.seq,.int .i64 (zFb LA.1.t)]:=⟨_,rfl⟩
  have ePP : P ++ [.int .i64 (zFb LA.1.t)] = Pa ++ .nilSl :: Pc:=by rw [hP,hPa,hPc]; rfl
  rw [ePP] at hm8
  have Pal : Pa.length = 9:=by rw [hPa]; rfl
  have L67:=f67.1; have L78:=f8.1
  have l2:=openL2 c8 (fun y hy=>(ap1 y hy).1) (pb:=pb) (Pc:=Pc) (by omega) Pal (by omega) (k:=PG'.length) (i:=0) (vb:=.nilSl) (K:=K8)
  rw [show ((0 : Nat) : Int) = 0 from rfl,ap2] at l2
  simp -implicitDefEqProofs (maxSteps:=5000000) only [go_sem,simprocAttr,itr,itq,zA6]
  unfold LP1 at l2
  generalize (envL prog).loop (runC (envL prog) (l25x2 (envL prog))) = L2 at l2 ⊢
  refine zBo (fun r=>seqR (zBr 4 r) _) (l2 _ _ _ _ _ _ _ _ _ _ _ _ _ _ _ _ _ _ _ _ _ _ _ _ _ _ _ _ _ _ _ _ _ _ _ _ _ _ _ _ _ _ _ _ _ _ _ _ _ _ _ _ _ _ _ _ _ _ _ _ _ _ _ _ _ _ _ _ _ _ _ _ _ _ _ _ _ _ _ _ _ _ _ _ _ _ _ _ _ _ _ _ _ _ _ _ _ _ _ _ _ _ _ _ _ _ _ _ _ _ _ _ _ _ _ _ _ _ _ _ _ _ _ _ _ _ _ _ _ _ _ _ _ _ _ _ _ _ _ _ _ _ _ _ _ (Fr.refl _ _) hm8 (.inl ⟨by simp,rfl⟩) (by omega) (by omega)) ?_
  rintro e t K9 ⟨rfl,f9,⟨vb',hm9,g9⟩,fv',rfl⟩
  have ib : ((pt.g.bytes.toNat : Nat) : Int) = pt.g.bytes:=by omega
  have L89:=f9.1
  rcases g9 with ⟨h,_⟩ | ⟨_,bb,hbb,rfl,hat9⟩
  ·rw [h] at fl; simp at fl; omega
  have sT:=sl_to (sz:=1) (b:=bb) (off:=0) (len:=PG'.flatten.length) (cp:=PG'.flatten.length) (ex:=false) (u:=pt.g.bytes.toNat) (by omega)
  rw [ib] at sT
  obtain ⟨V9,hV9⟩ : ∃ V9,V9 = AV.sl bb 0 1 PG'.flatten.length PG'.flatten.length false:=⟨_,rfl⟩
  obtain ⟨V10,hV10⟩ : ∃ V10,V10 = AV.sl bb 0 1 pt.g.bytes.toNat PG'.flatten.length false:=⟨_,rfl⟩
  rw [← hV9,← hV10] at sT
  rw [← hV9] at hm9
  have cm9:=zAj hm9
  have p9 : (Pa ++ V9 :: Pc)[9]? = some V9:=by rw [List.getElem?_append_right (by omega),Pal]; rfl
  have p5 : (Pa ++ V9 :: Pc).take 5 = GC:=by rw [hPa,← hGC]; rfl
  have pln : 5 ≤ (Pa ++ V9 :: Pc).length:=by rw [List.length_append,Pal]; omega
  have ey:=fun X=>bytesP hg X
  rw [hGC] at ey
  have cv10 : zA7 V10 = some [V10]:=by rw [hV10]; rfl
  obtain ⟨KA,hKA⟩ : ∃ KA,KA = K9.set pb (.rw (Pa ++ V10 :: Pc)):=⟨_,rfl⟩
  have wA : zAz K9 pb 9 [V10] = some KA:=by
   rw [zAv hm9,if_pos ⟨by simp [Pal]; omega,by rw [List.all_cons,hV10]; rfl⟩,zAx,hKA]
   congr 4
   rw [List.set_append_right _ _ (by omega),Pal]; rfl
  have fA : Fr K9 KA (· = pb):=by rw [hKA]; exact Fr.set _ _ rfl
  have LA9 : KA.length = K9.length:=by rw [hKA]; simp
  have aA : Adds H KA:=fA.old (f9.old (f8.old (f67.old (a5.trans a6) fun b hb h=>by omega) fun b hb h=>by omega) fun b hb h=>by omega) fun b hb h=>by omega
  have mA : KA[pb]? = some (.rw (Pa ++ V10 :: Pc)):=by rw [hKA]; exact zA4 _ _ _ (zAl hm9)
  generalize hM9 : Pa ++ V9 :: Pc = M9 at *
  simp -implicitDefEqProofs (maxSteps:=5000000) only [go_sem,simprocAttr,itr,itq,cm9,p9,p5,pln,ey,sT,zAw,cv10,wA,zAc]
  subst hQ
  refine ⟨V10,fun b=>H.length ≤ b ∧ b < KA.length,aA,⟨?_,?_,?_,?_,?_,?_,?_,fun b hb=>hb.2⟩,fun b hb=>hb.1,?_⟩
  ·rw [mA,hPa,hPc]; rfl
  ·have ll : (PG'.flatten.take pt.g.bytes.toNat).length = pt.g.bytes.toNat:=by rw [List.length_take]; omega
   refine .inr ⟨bb,0,PG'.flatten.length,false,u8s PG'.flatten,by rw [ll,hV10],zAj (fA.at hat9 (by omega)),fun j z hz=>?_,by rw [ll,zAd]; omega⟩
   rw [List.getElem?_take] at hz
   split at hz
   ·rw [Nat.zero_add]; exact zGh hz
   ·cases hz
  ·rw [hV10]
   intro b o s n l e he
   injection he
   omega
  ·exact ((((g6.low (Nat.zero_le _)).frS f67 fun b hb=>by have:=vho b hb; omega).frS f8 fun b hb=>by have:=vho b hb; omega).frS f9 fun b hb=>by have:=vho b hb; omega).frS fA fun b hb=>by have:=vho b hb; omega
  ·exact ⟨by omega,by omega⟩
  ·intro b hb
   rw [hV10] at hb
   injection hb with hb
   have:=a1.len
   exact ⟨⟨by omega,by have:=zAl hat9; omega⟩,by omega⟩
  ·intro b hb
   have:=vho b hb
   have:=a1.len
   exact ⟨⟨by omega,by omega⟩,by omega⟩
  ·simp -implicitDefEqProofs (maxSteps:=5000000) only [go_sem,simprocAttr]
 obtain ⟨e',t,K,hrn,vb,G,aK,mc,hG,hf⟩:=key
 refine .inl ⟨_,pb,G,K,eO,aK,⟨_,_,_,_,mc⟩,hG,?_⟩
 rw [c25,hrn,hf]
 exact zBa (by simp [AV.under,zAt]; omega)
end
end Go.Proofs.YtbmmnfeeapnhkaaGreat.G08
end
section
namespace Go.Proofs.YtbmmnfeeapnhkaaGreat.G08
open Go Go.Proofs.YtbmmnfeeapnhkaaGreat.Eng
noncomputable abbrev ImL (s : LoopState) (t : T) : ABlk:=.loop ⟨s,.normal,t,[7],zIc,zIb⟩
structure ImY (H : zAa) (B : Nat) (s : LoopState) (t : T) (l : List ImS) (K : zAa) : Prop where
 old : ∀ b,b < H.length → K[b]? = H[b]?
 len : H.length + 2 ≤ K.length
 out : ∃ v,K[H.length]? = some (.rw [v]) ∧ GR 49 K B v (zBt l)
 lp : K[H.length + 1]? = some (ImL s t)
theorem ImY.adds {H K : zAa} {B : Nat} {s : LoopState} {t : T} {l : List ImS} (y : ImY H B s t l K) : Adds H K:=Adds.of_get (by have:=y.len; omega) y.old
theorem ImY.more {H K : zAa} {B : Nat} {s : LoopState} {t : T} {l : List ImS} (y : ImY H B s t l K) {K' : zAa} (a : Adds K K') : ImY H B s t l K':=by
 obtain ⟨X,rfl⟩:=a
 obtain ⟨v,hv,g⟩:=y.out
 have yl:=y.len
 exact ⟨fun b hb=>by rw [List.getElem?_append_left (by omega)]; exact y.old b hb,by simp; omega,⟨v,by rw [List.getElem?_append_left (by omega)]; exact hv,g.mono X⟩,by rw [List.getElem?_append_left (by omega)]; exact y.lp⟩
theorem imRows48 {l : List ImS} (h : ∀ x ∈ l,x.b.length = 48) : ∀ r ∈ zBt l,r.length = 49:=fun r hr=>by
 obtain ⟨x,hx,rfl⟩:=List.mem_map.1 hr
 simp [ImS.cells,zAd,h x hx]
set_option maxHeartbeats 8000000 in
theorem imRound {H K : zAa} {B : Nat} (hB : H.length + 2 ≤ B) (hBK : B ≤ K.length) {t : T} (ht : t.length = 13) (t2 : getT t 2 = .ptr H.length 0) {l : List ImS} (y : ImY H B .ready t l K) (hl : l.length ≤ 1000) (h48 : ∀ x ∈ l,x.b.length = 48) {x : ImS} (hx : x.b.length = 48) :
  ∃ K',(envL prog).yield (H.length + 1) [.agg x.cells] K = some (.bool true,K') ∧ ImY H B .ready t (l ++ [x]) K' ∧ Fr K K' (fun b=>b = H.length ∨ b = H.length + 1 ∨ B ≤ b):=by
 obtain ⟨v,hv,g⟩:=y.out
 have kl:=y.len
 have xl : x.cells.length = 49:=by simp [ImS.cells,zAd,hx]
 have xt : x.cells.take 49 = x.cells:=List.take_of_length_le (by omega)
 have xc : x.cells.all AV.isCell = true:=by simp [ImS.cells,AV.isCell]; exact fun y hy=>List.all_eq_true.1 (zAo x.b) y hy
 obtain ⟨Kb,hKb⟩ : ∃ Kb,Kb = (K ++ [ABlk.rw x.cells]).set (H.length + 1) (ImL .busy t):=⟨_,rfl⟩
 have lb : Kb.length = K.length + 1:=by rw [hKb]; exact zSy
 have fb : ∀ b,b < K.length → b ≠ H.length + 1 → Kb[b]? = K[b]?:=fun b hb hn=>by rw [hKb]; exact zYs hb hn
 have b0 : Kb[H.length]? = some (.rw [v]):=by rw [fb _ (by omega) (by omega)]; exact hv
 have b1 : Kb[H.length + 1]? = some (ImL .busy t):=by rw [hKb]; exact busy_lp (by omega)
 have b6 : Kb[K.length]? = some (.rw x.cells):=by rw [hKb]; exact busy_new (by omega)
 have frb : Fr K Kb (fun b=>b = H.length + 1):=by rw [hKb]; exact busy_fr
 have ov:=g.out
 have gb : GR 49 Kb B v (zBt l):=g.frS frb fun z hz h=>by have:=ov z hz; omega
 obtain ⟨Kc,hKc⟩ : ∃ Kc,Kc = Kb ++ [ABlk.rw x.cells]:=⟨_,rfl⟩
 have Ac : Adds Kb Kc:=⟨_,hKc⟩
 have lc : Kc.length = K.length + 2:=by rw [hKc]; simp [lb]
 have gc : GR 49 Kc B v (zBt l):=by rw [hKc]; exact gb.mono _
 have il : (zBt l).length = l.length:=by simp [zBt]
 obtain ⟨v',Kd,ea,gd,frd,sv,ldd,cv1,cv2⟩:=zQr (k:=49) (by omega) (d:=ty 49 true 56 ([.int .i64 0] ++ rep 48 (.int .u8 0))) rfl (by decide) (s:=Kb.length) (r:=x.cells) gc (imRows48 h48) (by rw [hKc]; unfold cellsOf; simp) xl xc (by rw [il]; unfold roomy; show (_ + 1) * 56 ≤ _; omega) (by omega)
 have ir : zBt l ++ [x.cells] = zBt (l ++ [x]):=by simp [zBt]
 rw [ir] at gd
 have oc:=gc.out
 have d0 : Kd[H.length]? = some (.rw [v]):=frd.at (Ac.at b0) fun h=>by have:=oc _ h; omega
 have d1 : Kd[H.length + 1]? = some (ImL .busy t):=frd.at (Ac.at b1) fun h=>by have:=oc _ h; omega
 have wr : zAz Kd H.length 0 [v'] = some (Kd.set H.length (.rw [v'])):=zJ8 d0 cv2
 have c0:=zAj b0
 have c6:=zAj b6
 have hKc':=hKc.symm
 have zl : (u8s zA2).length = 48:=by rw [zAd,zB7.1]
 have spx : zBp (AV.int .i64 0 :: u8s zA2) 0 x.cells = x.cells:=by
  rw [zAs _ _ _ (by omega),xl,List.take_zero,List.nil_append,List.drop_of_length_le (by simp [zl]),List.append_nil]
 have al : zAz (K ++ [ABlk.rw (AV.int .i64 0 :: u8s zA2)]) K.length 0 x.cells = some (K ++ [ABlk.rw x.cells]):=by
  rw [zCj,if_pos ⟨by rw [xl]; simp [zl],xc⟩,spx]
 have fx : zHp (AV.int .i64 0 :: u8s zA2) [(0,49,.agg x.cells)] = some x.cells:=by
  rw [zId,zFt]
  simp only [Option.bind_some]
  rw [if_pos ⟨xl,by simp [zl]⟩,zJ2,spx]
 have lv : ∀ K2 : zAa,Kd.length = K.length + 3:=fun _=>by rw [ldd,lc]
 rw [zBe] at ea
 simp only [List.cons_append,List.nil_append] at ea
 obtain ⟨e,K2,K4,⟨rfl,rfl⟩,ey,h4⟩:=zVz (P:=prog) (l:=H.length + 1) (args:=[.agg x.cells]) (K:=K) (eaq108x0 _) (ebq108x0 _) y.lp rfl (t1:=(t.set 7 (.agg x.cells)).set 5 (.ptr K.length 0)) (cs:=x.cells) (by
   unfold zY0
   generalize x.cells = XC at *
   generalize hZ : u8s zA2 = Z at *
   simp -implicitDefEqProofs (maxSteps:=5000000) only [go_sem,simprocAttr,zBq,zC2,ht,List.length_set,Nat.reduceLT,zAw,zFt,zBe,hZ,zl,xl,xc,spx,al])
  (R:=fun e K2=>e = .normal ∧ K2 = Kd.set H.length (.rw [v'])) (by
   rw [← hKb]
   unfold zYu
   generalize x.cells = XC at *
   generalize hZ : u8s zA2 = Z at *
   simp -implicitDefEqProofs (maxSteps:=5000000) only [go_sem,simprocAttr,itr,itq,zC2,ht,t2,List.length_set,Nat.reduceLT,c0,c6,xl,xt,zBe,hZ,zl,fx,spx,hKc',ea,zAw,cv1,wr,zAc]) (by
   rintro e K2 ⟨_,rfl⟩
   rw [zAf _ _ _ _ (by omega)]; exact d1)
 have a0 : ∀ b,b < B → b ≠ H.length → b ≠ H.length + 1 → (Kd.set H.length (.rw [v']))[b]? = K[b]?:=fun b hb h1 h2=>by
  rw [zAf _ _ _ _ h1,frd.2 b (by omega) (fun h=>by have:=oc _ h; omega),hKc,List.getElem?_append_left (by omega),fb b (by omega) h2]
 rcases h4 with rfl | ⟨tt,_⟩
 ·refine ⟨_,ey,⟨fun b hb=>?_,by simp; omega,⟨v',?_,?_⟩,?_⟩,⟨by simp; omega,fun b hb hn=>?_⟩⟩
  ·rw [zAf _ _ _ _ (by omega),a0 b (by omega) (by omega) (by omega)]; exact y.old b hb
  ·rw [zAf _ _ _ _ (by omega)]; exact zA4 _ _ _ (by omega)
  ·have od:=gd.out
   exact (gd.frS (Fr.set (F:=(· = H.length)) _ _ rfl) fun z hz h=>by have:=od z hz; omega).frS (Fr.set (F:=(· = H.length + 1)) _ _ rfl) fun z hz h=>by have:=od z hz; omega
  ·exact zA4 _ _ _ (by simp; omega)
  ·rw [zAf _ _ _ _ (fun h=>hn (.inr (.inl h))),a0 b (Nat.lt_of_not_le fun h=>hn (.inr (.inr h))) (fun h=>hn (.inl h)) (fun h=>hn (.inr (.inl h)))]
 ·exfalso
  have:=zRn tt (b:=H.length) (by omega) (vs:=[v']) (by rw [zAf _ _ _ _ (by omega)]; exact zA4 _ _ _ (by omega)) (a:=v') (by simp) (fun k hk a ha z hz=>by
   rw [hv] at hk; injection hk with hk
   rw [← hk] at ha
   simp only [ABlk.vals,List.mem_cons,List.not_mem_nil,or_false] at ha
   subst ha
   exact (ov z hz).2) Kc.length sv
  omega
end Go.Proofs.YtbmmnfeeapnhkaaGreat.G08
end
section
namespace Go.Proofs.YtbmmnfeeapnhkaaGreat.G08
open Go Go.Proofs.YtbmmnfeeapnhkaaGreat.Eng
theorem zPr {l m : List (List Int)} {i : Nat} {x y : List Int} (hx : l[i]? = some x) (hy : m[i]? = some y) : zF6 (i : Int) (l.drop i) (m.drop i) = (if y = x then [] else [⟨(i : Int),y⟩]) ++ zF6 ((i + 1 : Nat) : Int) (l.drop (i + 1)) (m.drop (i + 1)):=by
 obtain ⟨hl,rfl⟩:=List.getElem?_eq_some_iff.1 hx
 obtain ⟨hm,rfl⟩:=List.getElem?_eq_some_iff.1 hy
 rw [List.drop_eq_getElem_cons hl,List.drop_eq_getElem_cons hm]
 show _ ++ zF6 ((i : Int) + 1) _ _ = _
 rw [show (i : Int) + 1 = ((i + 1 : Nat) : Int) by omega]
theorem zPs {l m : List (List Int)} {i : Nat} (hm : m.length ≤ i) : zF6 (i : Int) (l.drop i) (m.drop i) = []:=by
 rw [List.drop_of_length_le hm]
 cases l.drop i <;> rfl
theorem zK9 : ∀ (l m : List (List Int)) (i : Int),(zF6 i l m).length ≤ m.length
 | [],_,_=>by simp [zF6]
 | _ :: _,[],_=>by simp [zF6]
 | a :: l,b :: m,i=>by
  have:=zK9 l m (i + 1)
  show ((if b = a then [] else [(⟨i,b⟩ : ImS)]) ++ zF6 (i + 1) l m).length ≤ _
  rw [List.length_append,List.length_cons]
  split <;> simp <;> omega
section
variable {H : zAa} {B : Nat} (hB : H.length + 2 ≤ B) {t : T} (ht : t.length = 13) (t2 : getT t 2 = .ptr H.length 0) {K2 : zAa} (hB2 : B = K2.length) {C1 C2 : Nat} (hC1 : H.length + 2 ≤ C1) (hC2 : H.length + 2 ≤ C2) {w1 w2 : AV} {l m : List (List Int)} (g1 : GR 48 K2 C1 w1 (l.map u8s)) (g2 : GR 48 K2 C2 w2 (m.map u8s)) (h1 : ∀ x ∈ l,x.length = 48) (h2 : ∀ x ∈ m,x.length = 48) (hlm : l.length = m.length) (hm : m.length ≤ 1000)
include hB ht t2 hB2 hC1 hC2 g1 g2 h1 h2 hlm hm
set_option maxHeartbeats 8000000 in
theorem dfL (x1 x2 x3 x7 x8 x9 x10 x11 x12 : AV) : ∀ (k i : Nat) (acc : List ImS) (K : zAa) (j5 j6 j16 j17 j18 j19 j20 j21 j22 j23 j24 j25 j26 j27 j28 j29 j30 j31 j32 j33 j34 : AV),ImY H B .ready t acc K → Fr K2 K (fun b=>b = H.length ∨ b = H.length + 1 ∨ B ≤ b) → (∀ x ∈ acc,x.b.length = 48) → acc.length ≤ i → i + k = m.length →
  Outs (LP1 l109x0 [.yld (H.length + 1),x1,x2,x3,w1,j5,j6,x7,x8,x9,x10,x11,x12,w2,.int .i64 (m.length : Int),.int .i64 (i : Int),j16,j17,j18,j19,j20,j21,j22,j23,j24,j25,j26,j27,j28,j29,j30,j31,j32,j33,j34] K) fun e t' K'=>e = .exit 0 ∧ ImY H B .ready t (acc ++ zF6 (i : Int) (l.drop i) (m.drop i)) K' ∧ Fr K2 K' (fun b=>b = H.length ∨ b = H.length + 1 ∨ B ≤ b):=by
 intro k
 obtain ⟨L0,hL0⟩ : ∃ L,L = LP1 l109x0:=⟨_,rfl⟩
 have lo:=zBc hL0
 rw [← hL0]
 induction k with
 | zero =>
  intro i acc K j5 j6 j16 j17 j18 j19 j20 j21 j22 j23 j24 j25 j26 j27 j28 j29 j30 j31 j32 j33 j34 y f ha hA hi
  obtain rfl : i = m.length:=by omega
  have hd : decide ((m.length : Int) < (m.length : Int)) = false:=by simp
  rw [lo,zPs (Nat.le_refl _),List.append_nil]
  unfold l109x0
  simp -implicitDefEqProofs (maxSteps:=5000000) only [go_sem,simprocAttr,hd,zAu,zAc]
  exact ⟨y,f⟩
 | succ k ih =>
  intro i acc K j5 j6 j16 j17 j18 j19 j20 j21 j22 j23 j24 j25 j26 j27 j28 j29 j30 j31 j32 j33 j34 y f ha hA hi
  have hlt : i < m.length:=by omega
  have hd : decide ((i : Int) < (m.length : Int)) = true:=decide_eq_true (by omega)
  have e2 : IntKind.i64.wrap ((i : Int) + 1) = ((i + 1 : Nat) : Int):=by rw [zAq (by omega) (by omega)]; omega
  have hx:=List.getElem?_eq_getElem (show i < l.length by omega)
  have hy:=List.getElem?_eq_getElem hlt
  have x48:=h1 _ (List.getElem_mem (show i < l.length by omega))
  have y48:=h2 _ (List.getElem_mem hlt)
  rw [zPr hx hy]
  generalize l[i] = x at *
  generalize m[i] = z at *
  obtain ⟨b1,cs1,sb1,ix1,hc1,ht1,hle1⟩:=GR.read (by omega) g1 (zO7 h1) (zCf u8s hx)
  obtain ⟨b2,cs2,sb2,ix2,hc2,ht2,hle2⟩:=GR.read (by omega) g2 (zO7 h2) (zCf u8s hy)
  have o1:=g1.out b1 sb1
  have o2:=g2.out b2 sb2
  have k1:=fun X : zAa=>zAy (x:=X) (f.cells hc1 fun h=>by rcases h with h | h | h <;> omega)
  have k2:=f.cells hc2 fun h=>by rcases h with h | h | h <;> omega
  have ne:=ne_u8 (n:=48) (x:=z) (y:=x) y48 x48
  have zl : (u8s zA2).length = 48:=by rw [zAd,zB7.1]
  have zz : (u8s z).length = 48:=by rw [zAd,y48]
  have zt : (u8s z).take 48 = u8s z:=List.take_of_length_le (by omega)
  have zc:=zAo z
  have sp:=zCn zB7.1 y48 (by omega)
  have sp1 : zBp (AV.int .i64 (i : Int) :: u8s zA2) 1 (u8s z) = AV.int .i64 (i : Int) :: u8s z:=by
   rw [zAs _ _ _ (by omega),List.drop_of_length_le (by simp [zl,zz])]; simp
  have KB : B ≤ K.length:=by have:=f.1; omega
  have y1:=y.more ⟨[.rw (u8s z)],rfl⟩
  have f1 : Fr K2 (K ++ [.rw (u8s z)]) (fun b=>b = H.length ∨ b = H.length + 1 ∨ B ≤ b):=f.trans (Fr.adds ⟨_,rfl⟩ (fun _=>False)) fun _ _ h=>h.elim
  by_cases hq : z = x
  ·have dq : (!decide (z = x)) = false:=by rw [decide_eq_true hq]; rfl
   rw [if_pos hq,List.nil_append]
   rw [dq] at ne
   generalize hZ : u8s zA2 = Z at *
   rw [lo]
   unfold l109x0
   simp -implicitDefEqProofs (maxSteps:=5000000) only [go_sem,simprocAttr,itr,itq,hd,ix1,ix2,k1,k2,ht1,ht2,hle1,hle2,zBe,hZ,zl,zz,zt,zc,sp,ne,e2]
   exact ih (i + 1) acc _ _ _ _ _ _ _ _ _ _ _ _ _ _ _ _ _ _ _ _ _ _ y1 f1 ha (by omega) (by omega)
  ·have dq : (!decide (z = x)) = true:=by rw [decide_eq_false hq]; rfl
   rw [if_neg hq]
   rw [dq] at ne
   obtain ⟨K3,ey,y3,f3⟩:=imRound hB (K:=K ++ [.rw (u8s z)]) (by simp; omega) ht t2 y1 (by omega) ha (x:=⟨(i : Int),z⟩) y48
   have ey : (envL prog).yield (H.length + 1) [.agg (.int .i64 (i : Int) :: u8s z)] (K ++ [.rw (u8s z)]) = some (.bool true,K3):=ey
   have f4:=f1.trans f3 fun _ _ h=>h
   generalize hZ : u8s zA2 = Z at *
   rw [lo]
   unfold l109x0
   simp -implicitDefEqProofs (maxSteps:=5000000) only [go_sem,simprocAttr,itr,zDe,zE8,hd,ix1,ix2,k1,k2,ht1,ht2,hle1,hle2,zBe,hZ,zl,zz,zt,zc,sp,sp1,ne,ey,e2]
   rw [List.append_cons]
   exact ih (i + 1) (acc ++ [⟨(i : Int),z⟩]) K3 _ _ _ _ _ _ _ _ _ _ _ _ _ _ _ _ _ _ _ _ _ y3 f4 (fun a hh=>by
    rcases List.mem_append.1 hh with hh | hh
    ·exact ha a hh
    ·rw [List.mem_singleton.1 hh]; exact y48) (by simp; omega) (by omega)
end
end Go.Proofs.YtbmmnfeeapnhkaaGreat.G08
end
section
namespace Go.Proofs.YtbmmnfeeapnhkaaGreat.G08
open Go Go.Proofs.YtbmmnfeeapnhkaaGreat.Eng
section
variable {H : zAa} {wb w : AV} {zb z : List Int} (b1 : BS H wb zb) (ok1 : zDz wb) (u1 : IsU8 zb) (b2 : BS H w z) (ok2 : zDz w) (u2 : IsU8 z) (hz : zb.length ≤ 1000) (hl : z.length = zb.length) {pm c1 c2 : Nat} {MC : List AV} (k1 : cellsOf H c1 = some [.ptr pm 0]) (kp : cellsOf H pm = some MC) (k9 : MC[9]? = some wb) (k2 : cellsOf H c2 = some [w])
include b1 ok1 u1 b2 ok2 u2 hz hl k1 kp k9 k2
set_option maxHeartbeats 4000000 in
theorem dfCall {t : T} (ht : t.length = 13) (t2 : getT t 2 = .ptr H.length 0) {K0 : zAa} (hK0 : K0 = H ++ [.rw [.nilSl],ImL .ready t]) : ∃ K',(envL prog).call 109 [.yld (H.length + 1),.ptr c1 0,.ptr c2 0] K0 = some (.tup [],K') ∧ ImY H (H.length + 2) .ready t (zBl zb z) K':=by
 have l0 : K0.length = H.length + 2:=by rw [hK0]; simp
 have a0 : Adds H K0:=⟨_,hK0⟩
 have y0 : ∀ B,ImY H B .ready t [] K0:=fun B=>⟨fun b hb=>by rw [hK0,List.getElem?_append_left hb],by omega,⟨.nilSl,by rw [hK0]; simp,.inl ⟨rfl,rfl⟩⟩,by rw [hK0]; simp⟩
 obtain ⟨w1,K1,a1,g1,e1⟩:=cutC (a0.bs b1) ok1 u1 (by omega)
 obtain ⟨w2,K2,a2,g2,e2⟩:=cutC ((a0.trans a1).bs b2) ok2 u2 (by omega)
 have L1:=a1.len
 have L2:=a2.len
 have cl : (cutS z).length = (cutS zb).length:=by rw [zCe,zCe,hl]
 have cl2 : (cutS z).length ≤ 100:=by rw [zCe]; unfold zB1; omega
 have ll : lenSl w2 = some (.int .i64 ((cutS z).length : Int)):=by have:=g2.len; rw [List.length_map] at this; exact this
 have l1:=dfL (H:=H) (B:=K2.length) (by omega) ht t2 rfl (C1:=K0.length) (C2:=K1.length) (by omega) (by omega) (by obtain ⟨X,rfl⟩:=a2; exact g1.mono X) g2 (fun x hx=>(zFg u1 x hx).1) (fun x hx=>(zFg u2 x hx).1) cl.symm (by omega) (k:=(cutS z).length) (i:=0) (acc:=[]) (K:=K2)
 rw [show ((0 : Nat) : Int) = 0 from rfl,List.drop_zero,List.drop_zero,List.nil_append] at l1
 have q1:=a0.cells k1
 have qp:=a0.cells kp
 have q2:=(a0.trans a1).cells k2
 have key : Outs (runC (envL prog) (b109 (envL prog)) ([.yld (H.length + 1),.ptr c1 0,.ptr c2 0] ++ List.replicate (35 - [AV.yld (H.length + 1),.ptr c1 0,.ptr c2 0].length) .undef) K0) fun e' t' K=>ImY H K2.length .ready t (zBl zb z) K ∧ K2.length ≤ K.length ∧ fin [] (some (e',t',K)) = some (.tup [],K):=by
  unfold b109
  generalize hQ : (fun (e' : Ex) (t' : T) (K : zAa)=>ImY H K2.length .ready t (zBl zb z) K ∧ K2.length ≤ K.length ∧ fin [] (some (e',t',K)) = some (AV.tup [],K)) = Q
  simp -implicitDefEqProofs (maxSteps:=5000000) only [go_sem,simprocAttr,itr,itq,zA6,q1,qp,k9,q2,e1,e2,ll]
  unfold LP1 at l1
  generalize (envL prog).loop (runC (envL prog) (l109x0 (envL prog))) = LL at l1 ⊢
  refine zBo (fun r=>zBr 0 r) (l1 _ _ _ _ _ _ _ _ _ _ _ _ _ _ _ _ _ _ _ _ _ _ _ _ _ _ _ _ _ _ ((y0 _).more (a1.trans a2)) (Fr.refl _ _) (fun _ h=>by cases h) (Nat.zero_le _) (by omega)) ?_
  rintro e t' K ⟨rfl,y,f⟩
  simp -implicitDefEqProofs (maxSteps:=5000000) only [go_sem,simprocAttr,zAc]
  subst hQ
  refine ⟨y,f.1,?_⟩
  simp -implicitDefEqProofs (maxSteps:=5000000) only [go_sem,simprocAttr]
 obtain ⟨e',t',K,hr,y,hK,hf⟩:=key
 obtain ⟨K4,et,h4⟩:=zRl K0 (.tup []) K
 refine ⟨K4,by rw [c109,hr,hf]; exact et,?_⟩
 obtain ⟨v,hv,g⟩:=y.out
 have yl:=y.len
 have og:=g.out
 rcases h4 with rfl | ⟨tt,rfl⟩
 ·exact ⟨y.old,y.len,⟨v,hv,g.low (by omega)⟩,y.lp⟩
 ·have ts:=zRn tt (by omega) hv (a:=v) (by simp) (fun k hk a ha x hx=>by
   have : K0[H.length]? = some (.rw [.nilSl]):=by rw [hK0]; simp
   rw [this] at hk; injection hk with hk
   rw [← hk] at ha
   simp only [ABlk.vals,List.mem_cons,List.not_mem_nil,or_false] at ha
   subst ha; cases hx)
  have gn : GR 49 (K.take K0.length) (H.length + 2) v (zBt (zBl zb z)):=by
   rcases g with g | ⟨h0,b,hb,rfl,_⟩
   ·exact .inl g
   ·have:=ts b rfl
    omega
  exact ⟨fun b hb=>by rw [zXz (by omega)]; exact y.old b hb,by rw [List.length_take]; omega,⟨v,by rw [zXz (by omega)]; exact hv,gn⟩,by rw [zXz (by omega)]; exact y.lp⟩
set_option maxHeartbeats 4000000 in
theorem collectD : ∃ v K,(envL prog).call 70 [.fn 109 [.ptr c1 0,.ptr c2 0]] H = some (v,K) ∧ Adds H K ∧ GR 49 K H.length v (zBt (zBl zb z)):=by
 have hr : ∀ T : Eng.T,T.length = 13 → getT T 2 = .ptr H.length 0 → getT T 6 = .fn 109 [.ptr c1 0,.ptr c2 0] → Outs (runC (envL prog) (.range (X 6) [7] zIc zIb) T (H ++ [ABlk.rw [.nilSl]])) fun e t K=>e = .normal ∧ t = T ∧ ImY H (H.length + 2) .exhausted T (zBl zb z) K:=by
  intro T ht t2 tf
  obtain ⟨K0,hK0⟩ : ∃ K0,K0 = H ++ [ABlk.rw [.nilSl],ImL .ready T]:=⟨_,rfl⟩
  obtain ⟨K1,ec,y1⟩:=dfCall b1 ok1 u1 b2 ok2 u2 hz hl k1 kp k9 k2 ht t2 hK0
  have lG : (H ++ [ABlk.rw [AV.nilSl]]).length = H.length + 1:=by simp
  have hK0' : K0 = (H ++ [ABlk.rw [.nilSl]]) ++ [ImL .ready T]:=by rw [hK0]; simp
  have:=zWe (E:=envL prog) (f:=X 6) (ps:=[7]) (ka:=zIc) (kb:=zIb) (t:=T) (h:=H ++ [ABlk.rw [.nilSl]]) (K:=K1) (e:=.normal) (st:=.ready) (v:=.tup []) (by rw [X_ap,tf,lG,← hK0']; exact ec) (by rw [lG]; exact y1.lp) (by decide)
  rw [lG] at this
  obtain ⟨v,hv,g⟩:=y1.out
  have yl:=y1.len
  have og:=g.out
  exact ⟨_,_,_,this,rfl,rfl,fun b hb=>by rw [zAf _ _ _ _ (by omega)]; exact y1.old b hb,by rw [List.length_set]; exact yl,⟨v,by rw [zAf _ _ _ _ (by omega)]; exact hv,g.frS (Fr.set (F:=(· = H.length + 1)) _ _ rfl) fun x hx h=>by have:=og x hx; omega⟩,zA4 _ _ _ (by omega)⟩
 have key : Outs (runC (envL prog) (b108 (envL prog)) ([.nilSl,.fn 109 [.ptr c1 0,.ptr c2 0]] ++ List.replicate (13 - [AV.nilSl,.fn 109 [.ptr c1 0,.ptr c2 0]].length) .undef) H) fun e' t K=>∃ v,Adds H K ∧ GR 49 K H.length v (zBt (zBl zb z)) ∧ fin [.tmp 4] (some (e',t,K)) = some (v,K):=by
  unfold b108
  generalize hQ : (fun (e' : Ex) (t : T) (K : zAa)=>∃ v,Adds H K ∧ GR 49 K H.length v (zBt (zBl zb z)) ∧ fin [.tmp 4] (some (e',t,K)) = some (v,K)) = Q
  simp -implicitDefEqProofs (maxSteps:=5000000) only [go_sem,simprocAttr,itr]
  refine zBo (fun r=>seqR (zBr 0 r) _) (hr _ rfl rfl rfl) ?_
  rintro e t K ⟨rfl,rfl,y⟩
  obtain ⟨v,hv,g⟩:=y.out
  have c0:=zAj hv
  simp -implicitDefEqProofs (maxSteps:=5000000) only [go_sem,simprocAttr,itr,itq,c0,zAc]
  subst hQ
  refine ⟨v,y.adds,g.low (by omega),?_⟩
  simp -implicitDefEqProofs (maxSteps:=5000000) only [go_sem,simprocAttr]
 obtain ⟨e',t,K,hr',v,aK,g,hf⟩:=key
 have cut : ∀ K,Adds H K → GR 49 K H.length v (zBt (zBl zb z)) → ∃ K',trim H (some (v,K)) = some (v,K') ∧ Adds H K' ∧ GR 49 K' H.length v (zBt (zBl zb z)):=fun K aK g=>by
  have og:=g.out
  rcases Go.Proofs.YtbmmnfeeapnhkaaGreat.Eng.trim_adds (v:=v) aK with e | ⟨u,e⟩
  ·exact ⟨K,e,aK,g⟩
  ·refine ⟨H,e,Adds.refl H,?_⟩
   rcases g with g | ⟨_,b,hb,rfl,_⟩
   ·exact .inl g
   ·have:=zHz u rfl; omega
 obtain ⟨K',et,aK',g'⟩:=cut K aK g
 have ea : (envL prog).call 108 [.nilSl,.fn 109 [.ptr c1 0,.ptr c2 0]] H = some (v,K'):=by
  rw [c108,hr',hf]; exact et
 obtain ⟨K2,et2,a2,g2⟩:=cut K' aK' g'
 refine ⟨v,K2,?_,a2,g2⟩
 rw [c70]
 unfold b70
 simp -implicitDefEqProofs (maxSteps:=5000000) only [go_sem,simprocAttr,itr,itq,ea,et2]
end
theorem differC (pm : Nat) {w : AV} (hw : zA7 w = some [w]) (H : zAa) : (envL prog).call 71 [.ptr pm 0,w] H = some (.fn 109 [.ptr H.length 0,.ptr (H.length + 1) 0],H ++ [.rw [.ptr pm 0],.rw [w]]):=by
 have tr : ∀ X,trim H (some (AV.fn 109 [.ptr H.length 0,.ptr (H.length + 1) 0],X)) = some (.fn 109 [.ptr H.length 0,.ptr (H.length + 1) 0],X):=fun X=>zBa (by simp [AV.under,zAt])
 rw [c71]
 unfold b71
 simp -implicitDefEqProofs (maxSteps:=5000000) only [go_sem,simprocAttr,itr,itq,hw,tr]
end Go.Proofs.YtbmmnfeeapnhkaaGreat.G08
end
section
namespace Go.Proofs.YtbmmnfeeapnhkaaGreat.G08
open Go Go.Proofs.YtbmmnfeeapnhkaaGreat.Eng
theorem zUd {h : Int} {l m : List (List Int)} {i : Nat} {x y : List Int} (hx : l[i]? = some x) (hy : m[i]? = some y) : zEt h (i : Int) (l.drop i) (m.drop i) = (if x = y then [] else [some (h + (i : Int),zEv (i : Int) x)]) ++ zEt h ((i + 1 : Nat) : Int) (l.drop (i + 1)) (m.drop (i + 1)):=by
 obtain ⟨hl,rfl⟩:=List.getElem?_eq_some_iff.1 hx
 obtain ⟨hm,rfl⟩:=List.getElem?_eq_some_iff.1 hy
 rw [List.drop_eq_getElem_cons hl,List.drop_eq_getElem_cons hm]
 show _ ++ zEt h ((i : Int) + 1) _ _ = _
 rw [show (i : Int) + 1 = ((i + 1 : Nat) : Int) by omega]
theorem zUe {h : Int} {l m : List (List Int)} {i : Nat} (hl : l.length ≤ i) : zEt h (i : Int) (l.drop i) (m.drop i) = []:=by
 rw [List.drop_of_length_le hl]; rfl
section
variable {q : RPl} {H : zAa} {n : Nat} {r : RgS} {F : Nat → Prop} (m : zA3 q H n r F) {g : GmS} (hg : g.good = true) {pm : Nat} {MC : List AV} {vh : AV} (kp : cellsOf H pm = some MC) (kl : MC.length = 15) (k8 : MC[8]? = some (.ptr q.p 0)) (k10 : MC[10]? = some vh) (kg : MC.take 5 = g.cells) (np : ¬ F pm)
 {B1 B2 : Nat} {w : AV} {l o : List (List Int)} (g1 : GR 48 H B1 w (l.map u8s)) (gF1 : ∀ b,slb w = some b → ¬ F b) (g2 : GR 48 H B2 vh (o.map u8s)) (gF2 : ∀ b,slb vh = some b → ¬ F b) (h1 : ∀ x ∈ l,B48 x) (h2 : ∀ x ∈ o,B48 x) (hlo : l.length = o.length) (hl : l.length ≤ 1000) (hn : n + l.length ≤ 1000000000)
include m hg kp kl k8 k10 kg np g1 gF1 g2 gF2 h1 h2 hlo hl hn
set_option maxHeartbeats 8000000 in
theorem carryL (x1 x7 x8 x9 x10 x11 x12 x13 x14 x15 x52 x53 x54 x55 x56 x57 x58 x59 x60 x61 x62 x63 x64 x65 x66 x67 x68 x69 x70 x71 x72 x73 x74 x75 x76 x77 x78 x79 x80 x81 x82 x83 x84 x85 x86 x87 x88 x89 x90 x91 x92 x93 x94 x95 x96 x97 x98 x99 x100 x101 x102 x103 x104 x105 x106 x107 x108 x109 x110 x111 x112 x113 x114 x115 x116 x117 x118 x119 x120 x121 : AV) : ∀ (k i : Nat) (K : zAa) (r' : RgS) (F' : Nat → Prop) (j2 j4 j5 j6 j19 j20 j21 j22 j23 j24 j25 j26 j27 j28 j29 j30 j31 j32 j33 j34 j35 j36 j37 j38 j39 j40 j41 j42 j43 j44 j45 j46 j47 j48 j49 j50 j51 : AV),zA3 q K (n + i) r' F' → zBm H F K F' → i + k = l.length →
  Outs (LP1 l72x0 [.ptr pm 0,x1,j2,w,j4,j5,j6,x7,x8,x9,x10,x11,x12,x13,x14,x15,w,.int .i64 (l.length : Int),.int .i64 (i : Int),j19,j20,j21,j22,j23,j24,j25,j26,j27,j28,j29,j30,j31,j32,j33,j34,j35,j36,j37,j38,j39,j40,j41,j42,j43,j44,j45,j46,j47,j48,j49,j50,j51,x52,x53,x54,x55,x56,x57,x58,x59,x60,x61,x62,x63,x64,x65,x66,x67,x68,x69,x70,x71,x72,x73,x74,x75,x76,x77,x78,x79,x80,x81,x82,x83,x84,x85,x86,x87,x88,x89,x90,x91,x92,x93,x94,x95,x96,x97,x98,x99,x100,x101,x102,x103,x104,x105,x106,x107,x108,x109,x110,x111,x112,x113,x114,x115,x116,x117,x118,x119,x120,x121] K) fun e t K'=>∃ n' F'',zA3 q K' n' (opsS r' (zEt g.home (i : Int) (l.drop i) (o.drop i))).1 F'' ∧ n' ≤ n + l.length ∧ zBm H F K' F'' ∧ ∃ fv : Nat → AV,t = [.ptr pm 0,x1,(fv 2),w,(fv 4),(fv 5),(fv 6),x7,x8,x9,x10,x11,x12,x13,x14,x15,w,.int .i64 (l.length : Int),(fv 18),(fv 19),(fv 20),(fv 21),(fv 22),(fv 23),(fv 24),(fv 25),(fv 26),(fv 27),(fv 28),(fv 29),(fv 30),(fv 31),(fv 32),(fv 33),(fv 34),(fv 35),(fv 36),(fv 37),(fv 38),(fv 39),(fv 40),(fv 41),(fv 42),(fv 43),(fv 44),(fv 45),(fv 46),(fv 47),(fv 48),(fv 49),(fv 50),(fv 51),x52,x53,x54,x55,x56,x57,x58,x59,x60,x61,x62,x63,x64,x65,x66,x67,x68,x69,x70,x71,x72,x73,x74,x75,x76,x77,x78,x79,x80,x81,x82,x83,x84,x85,x86,x87,x88,x89,x90,x91,x92,x93,x94,x95,x96,x97,x98,x99,x100,x101,x102,x103,x104,x105,x106,x107,x108,x109,x110,x111,x112,x113,x114,x115,x116,x117,x118,x119,x120,x121] ∧
   ((e = .exit 0 ∧ (opsS r' (zEt g.home (i : Int) (l.drop i) (o.drop i))).2 = 0) ∨ (e = .ret ∧ fv 2 = .int .i64 (opsS r' (zEt g.home (i : Int) (l.drop i) (o.drop i))).2 ∧ (opsS r' (zEt g.home (i : Int) (l.drop i) (o.drop i))).2 ≠ 0)):=by
 intro k
 obtain ⟨L,hL⟩ : ∃ L,L = LP1 l72x0:=⟨_,rfl⟩
 have lo:=zBc hL
 rw [← hL]
 induction k with
 | zero =>
  intro i K r' F' j2 j4 j5 j6 j19 j20 j21 j22 j23 j24 j25 j26 j27 j28 j29 j30 j31 j32 j33 j34 j35 j36 j37 j38 j39 j40 j41 j42 j43 j44 j45 j46 j47 j48 j49 j50 j51 mK st hi
  obtain rfl : i = l.length:=by omega
  have hd : decide ((l.length : Int) < (l.length : Int)) = false:=by simp
  rw [lo,zUe (Nat.le_refl _)]
  unfold l72x0 opsS
  simp -implicitDefEqProofs (maxSteps:=5000000) only [go_sem,simprocAttr,hd,zAu,zAc]
  exact ⟨_,F',mK,Nat.le_refl _,st,exF2 rfl (.inl trivial)⟩
 | succ k ih =>
  intro i K r' F' j2 j4 j5 j6 j19 j20 j21 j22 j23 j24 j25 j26 j27 j28 j29 j30 j31 j32 j33 j34 j35 j36 j37 j38 j39 j40 j41 j42 j43 j44 j45 j46 j47 j48 j49 j50 j51 mK st hi
  have hlt : i < l.length:=by omega
  have N:=g.nm hg
  have hd : decide ((i : Int) < (l.length : Int)) = true:=decide_eq_true (by omega)
  have e2 : IntKind.i64.wrap ((i : Int) + 1) = ((i + 1 : Nat) : Int):=by rw [zAq (by omega) (by omega)]; omega
  have wa : IntKind.i64.wrap (g.home + (i : Int)) = g.home + (i : Int):=by
   have:=N.hr; have:=N.hp
   unfold GmS.home
   exact zAq (by omega) (by omega)
  have hx:=List.getElem?_eq_getElem hlt
  have hy:=List.getElem?_eq_getElem (show i < o.length by omega)
  have xb:=h1 _ (List.getElem_mem hlt)
  have yb:=h2 _ (List.getElem_mem (show i < o.length by omega))
  rw [zUd hx hy]
  generalize l[i] = x at *
  generalize o[i] = y at *
  obtain ⟨b1,cs1,sb1,ix1,hc1,ht1,hle1⟩:=GR.read (by omega) g1 (zO7 fun x hx=>(h1 x hx).1) (zCf u8s hx)
  obtain ⟨b2,cs2,sb2,ix2,hc2,ht2,hle2⟩:=GR.read (by omega) g2 (zO7 fun x hx=>(h2 x hx).1) (zCf u8s hy)
  have q1:=st.1.cells hc1 (gF1 b1 sb1)
  have q2:=fun X : zAa=>zAy (x:=X) (st.1.cells hc2 (gF2 b2 sb2))
  have qp:=fun X : zAa=>zAy (x:=X) (st.1.cells kp np)
  have eq:=eq_u8 (n:=48) (x:=x) (y:=y) xb.1 yb.1
  have xl : (u8s x).length = 48:=by rw [zAd,xb.1]
  have x48 : (u8s x).take 48 = u8s x:=List.take_of_length_le (by omega)
  have zl : (u8s zA2).length = 48:=by rw [zAd,zB7.1]
  have sp:=zCn zB7.1 xb.1 (by omega)
  have xc:=zAo x
  have gl : g.cells.length = 5:=rfl
  have st1 : zBm H F (K ++ [.rw (u8s x)]) F':=st.trans (zBm.adds K _ F')
  have m1 : zA3 q (K ++ [.rw (u8s x)]) (n + i) r' F':=mK.adds _
  by_cases hq : x = y
  ·have dq : decide (x = y) = true:=decide_eq_true hq
   rw [if_pos hq,List.nil_append]
   rw [dq] at eq
   generalize hZ : u8s zA2 = Z at *
   rw [lo]
   unfold l72x0
   simp -implicitDefEqProofs (maxSteps:=5000000) only [go_sem,simprocAttr,itr,itq,hd,ix1,ix2,q1,q2,qp,k10,ht1,ht2,hle1,hle2,zBe,hZ,zl,xl,x48,xc,sp,eq,e2]
   exact ih (i + 1) _ _ _ _ _ _ _ _ _ _ _ _ _ _ _ _ _ _ _ _ _ _ _ _ _ _ _ _ _ _ _ _ _ _ _ _ _ _ _ _ (m1.up (by omega) (by omega)) st1 (by omega)
  ·have dq : decide (x = y) = false:=decide_eq_false hq
   rw [if_neg hq,List.cons_append,List.nil_append,zGn]
   rw [dq] at eq
   obtain ⟨pok,pen⟩:=zSb (i:=(i : Int)) (by omega) xb
   obtain ⟨n2,K2,F2,hn2,m2,st2,ew⟩:=mputC m1 (g.home + (i : Int)) pok pen (by omega)
   have st3 : zBm H F K2 F2:=st1.trans st2
   have m3 : zA3 q K2 (n + (i + 1)) (opsS r' [some (g.home + (i : Int),zEv (i : Int) x)]).1 F2:=m2.up (by simp only [List.length_cons,List.length_nil] at hn2; omega) (by omega)
   have ew : (envL prog).call 58 [.ptr q.p 0,.int .i64 (g.home + (i : Int)),.agg (⟨72,0,(i : Int),x⟩ : PgS).cells] (K ++ [.rw (u8s x)]) = some (.int .i64 (opsS r' [some (g.home + (i : Int),zEv (i : Int) x)]).2,K2):=ew
   rw [zGz] at ew m3
   have hh:=fun X=>homeP hg (K ++ X)
   have hp:=fun X=>zK1 (i : Int) xb.1 (K ++ X)
   have qp2:=st3.1.cells kp np
   have q5 : cellsOf K2 K.length = some (u8s x):=st2.1.cells (by unfold cellsOf; simp) (fun hf=>by have:=mK.lt _ hf; omega)
   generalize oneS r' (some (g.home + (i : Int),zEv (i : Int) x)) = O at *
   generalize g.cells = GC at *
   generalize u8s x = X at *
   generalize hZ : u8s zA2 = Z at *
   generalize (⟨72,0,(i : Int),x⟩ : PgS).cells = PC at *
   rw [lo]
   unfold l72x0
   by_cases hw : O.2 = 0
   ·have n0 : (O.2 != 0) = false:=by rw [hw]; rfl
    rw [if_pos hw]
    simp -implicitDefEqProofs (maxSteps:=5000000) only [go_sem,simprocAttr,itr,itq,hd,ix1,ix2,q1,q2,qp,qp2,q5,kl,k8,k10,kg,gl,ht1,ht2,hle1,hle2,zBe,hZ,zl,xl,x48,xc,sp,eq,hh,wa,hp,ew,n0,e2]
    exact ih (i + 1) _ _ _ _ _ _ _ _ _ _ _ _ _ _ _ _ _ _ _ _ _ _ _ _ _ _ _ _ _ _ _ _ _ _ _ _ _ _ _ _ m3 st3 (by omega)
   ·have n0 : (O.2 != 0) = true:=by simpa using hw
    rw [if_neg hw]
    simp -implicitDefEqProofs (maxSteps:=5000000) only [go_sem,simprocAttr,itr,itq,hd,ix1,ix2,q1,q2,qp,qp2,q5,kl,k8,k10,kg,gl,ht1,ht2,hle1,hle2,zBe,hZ,zl,xl,x48,xc,sp,eq,hh,wa,hp,ew,n0,zAc]
    exact ⟨_,_,m3,by omega,st3,exF2 rfl (.inr ⟨rfl,hw⟩)⟩
end
end Go.Proofs.YtbmmnfeeapnhkaaGreat.G08
end
