/- What the functions that the law reaches answer, for every argument. No condition but those in each statement. -/
import Derived.Test.YthgflkfhjnbheaaGRB
set_option linter.unusedSimpArgs false
set_option linter.unusedVariables false
set_option linter.unusedSectionVars false
set_option maxRecDepth 10000
section
namespace Go.Proofs.Ythgflkfhjnbheaa.G14
open Go Go.Proofs.Ythgflkfhjnbheaa.Eng
noncomputable abbrev rdV (B k N : Nat) : AV:=.sl B k 1 (N - k) (N - k) false
structure RdS (K : zAb) (p B k : Nat) (zs : List Int) : Prop where
 pt : K[p]? = some (.rw [rdV B k zs.length])
 bt : K[B]? = some (.rw (u8s zs))
 ne : p ≠ B
theorem RdS.adds {K K' : zAb} {p B k : Nat} {zs : List Int} (r : RdS K p B k zs) (a : Adds K K') : RdS K' p B k zs:=⟨a.at r.pt,a.at r.bt,r.ne⟩
theorem RdS.next {K : zAb} {p B k m : Nat} {zs : List Int} (r : RdS K p B k zs) : RdS (K.set p (.rw [rdV B m zs.length])) p B m zs:=⟨zBf _ _ _ (zBb r.pt),by rw [zAn _ _ _ _ fun e=>r.ne e.symm]; exact r.bt,r.ne⟩
theorem RdS.piece {K : zAb} {p B k m c : Nat} {zs : List Int} (r : RdS K p B k zs) (h : k + m ≤ zs.length) : BS K (.sl B k 1 m c false) ((zs.drop k).take m):=by
 have hl : ((zs.drop k).take m).length = m:=by rw [List.length_take,List.length_drop]; omega
 refine .inr ⟨B,k,c,false,u8s zs,by rw [hl],zAm r.bt,fun i z hz=>?_,by rw [hl,zDt]; omega⟩
 rw [List.getElem?_take] at hz
 split at hz
 ·rw [List.getElem?_drop] at hz
  unfold u8s
  rw [List.getElem?_map,hz]; rfl
 ·cases hz
theorem zR6 {K : zAb} {w : AV} {G : zAb} {ys : List Int} (o : Bt.Own K w G ys) (h : ys ≠ []) : w = .sl (K.length + 1) 0 1 ys.length ys.length false ∧ G = [.rw [],.rw (u8s ys)]:=by
 rcases o with ⟨h0,_⟩ | ⟨_,h⟩
 ·exact absurd h0 h
 ·exact h
section
variable {K : zAb} {p B k m : Nat} {zs : List Int} (r : RdS K p B k zs) (h : k + m ≤ zs.length) (hm : 1 ≤ m) (hz : zs.length ≤ 100000)
include r h hm hz
theorem takeC : ∃ w G,w = .sl (K.length + 1) 0 1 m m false ∧ G = [ABlk.rw [],.rw (u8s ((zs.drop k).take m))] ∧ (envL prog).call 36 [.ptr p 0,.int .i64 (m : Int)] K = some (.tup [w,.bool true],(K ++ G).set p (.rw [rdV B (k + m) zs.length])):=by
 have hl : ((zs.drop k).take m).length = m:=by rw [List.length_take,List.length_drop]; omega
 have cp:=zAm r.pt
 have lp:=zBb r.pt
 have el : (envL prog).call 68 [.ptr p 0] K = some (.int .i64 ((zs.length - k : Nat) : Int),K):=by
  rw [c68]
  unfold b68
  simp -implicitDefEqProofs (maxSteps:=5000000) only [go_sem,simprocAttr,itr,itq,cp]
 have d0 : decide ((m : Int) < 0) = false:=decide_eq_false (by omega)
 have d1 : decide ((m : Int) > ((zs.length - k : Nat) : Int)) = false:=decide_eq_false (by omega)
 have s1:=sl_to (sz:=1) (b:=B) (off:=k) (len:=zs.length - k) (cp:=zs.length - k) (ex:=false) (u:=m) (by omega)
 have s2:=zMx (sz:=1) (b:=B) (off:=k) (len:=zs.length - k) (cp:=zs.length - k) (ex:=false) (i:=m) (by omega) (by omega)
 obtain ⟨w,G,o,ec⟩:=Bt.cloneC (r.piece (c:=zs.length - k) h) (by rw [hl]; omega)
 obtain ⟨hw,hG⟩:=zR6 o (fun e=>by have:=congrArg List.length e; rw [hl] at this; simp at this; omega)
 rw [hl] at hw
 have hb : (K ++ G)[p]? = some (.rw [rdV B k zs.length]):=by rw [List.getElem?_append_left lp]; exact r.pt
 have cpG:=zAm hb
 have er : AV.sl B (k + m * 1) 1 (zs.length - k - m) (zs.length - k - m) false = rdV B (k + m) zs.length:=by rw [Nat.mul_one,Nat.sub_sub]
 rw [er] at s2
 have wr : zA4 (K ++ G) p 0 [rdV B (k + m) zs.length] = some ((K ++ G).set p (.rw [rdV B (k + m) zs.length])):=by
  rw [zA5 hb,if_pos ⟨by simp,rfl⟩]; rfl
 have cr : zAy (rdV B (k + m) zs.length) = some [rdV B (k + m) zs.length]:=rfl
 refine ⟨w,G,hw,hG,?_⟩
 have tr : ∀ X,trim K (some (AV.tup [w,.bool true],X)) = some (.tup [w,.bool true],X):=fun X=>zA9 (by rw [hw]; simp [AV.under,zA7])
 generalize rdV B (k + m) zs.length = nv at *
 rw [c36]
 unfold b36
 simp -implicitDefEqProofs (maxSteps:=5000000) only [go_sem,simprocAttr,itr,itq,el,d0,d1,cp,s1,ec,cpG,s2,zBa,cr,wr,tr]
theorem set_take {X : ABlk} {G : zAb} : ((K ++ G).set p X).take K.length = K.set p X:=by
 have lp:=zBb r.pt
 rw [List.set_append_left _ _ lp,List.take_append_of_le_length (by simp),List.take_of_length_le (by simp)]
theorem numC (h8 : m ≤ 8) (hu : IsU8 zs) : (envL prog).call 34 [.ptr p 0,.int .i64 (m : Int)] K = some (.tup [.int .u64 (getS ((zs.drop k).take m)),.bool true],K.set p (.rw [rdV B (k + m) zs.length])):=by
 obtain ⟨w,G,hw,hG,et⟩:=takeC r h hm hz
 have hl : ((zs.drop k).take m).length = m:=by rw [List.length_take,List.length_drop]; omega
 have lp:=zBb r.pt
 obtain ⟨K1,hK1⟩ : ∃ K1,K1 = (K ++ G).set p (.rw [rdV B (k + m) zs.length]):=⟨_,rfl⟩
 have bw : BS K1 w ((zs.drop k).take m):=by
  have:=BS.block (H:=K1) (b:=K.length + 1) (zs:=(zs.drop k).take m) (l:=m) (e:=false) (by rw [hK1,zAn _ _ _ _ (by omega),hG]; simp)
  rw [hl] at this
  rw [hw]; exact this
 have eg:=Pg.getC bw (fun y hy=>hu y (List.mem_of_mem_drop (List.mem_of_mem_take hy))) (by omega) (fun b o s n l e he=>by rw [hw] at he; injection he; omega)
 rw [← hK1] at et
 have tr : trim K (some (AV.tup [.int .u64 (getS ((zs.drop k).take m)),.bool true],K1)) = some (.tup [.int .u64 (getS ((zs.drop k).take m)),.bool true],K.set p (.rw [rdV B (k + m) zs.length])):=by
  rw [zQ0 (by rw [hK1]; simp) rfl (fun b k' hb hk=>?_)]
  ·rw [hK1,set_take r h hm hz]
  ·rw [hK1] at hk
   by_cases e : b = p
   ·subst e
    rw [zBf _ _ _ (by simp; omega)] at hk
    injection hk with hk
    refine .inr fun x hx=>?_
    rw [← hk] at hx
    simp only [ABlk.vals,List.mem_cons,List.not_mem_nil,or_false] at hx
    subst hx
    simp [AV.under]; exact zBb r.bt
   ·rw [zAn _ _ _ _ e,List.getElem?_append_left hb] at hk
    exact .inl hk
 rw [c34]
 unfold b34
 simp -implicitDefEqProofs (maxSteps:=5000000) only [go_sem,simprocAttr,itr,itq,et,eg,tr]
theorem zP0 (h8 : m ≤ 7) (hu : IsU8 zs) {c : Nat} (hc : cellsOf K c = some [.ptr p 0]) : (envL prog).call 33 [.int .i64 (m : Int),.ptr c 0] K = some (.int .i64 (getS ((zs.drop k).take m)),K.set p (.rw [rdV B (k + m) zs.length])):=by
 have en:=numC r h hm hz (by omega) hu
 have gl:=zNc (zs:=(zs.drop k).take m) fun y hy=>hu y (List.mem_of_mem_drop (List.mem_of_mem_take hy))
 have hl : ((zs.drop k).take m).length = m:=by rw [List.length_take,List.length_drop]; omega
 rw [hl] at gl
 have pw : (256 : Int) ^ m ≤ 256 ^ 7:=by
  have:=Nat.pow_le_pow_right (show 0 < 256 by omega) h8
  exact_mod_cast this
 have w : IntKind.i64.wrap (getS ((zs.drop k).take m)) = getS ((zs.drop k).take m):=zAl (by omega) (by omega)
 rw [c33]
 unfold b33
 simp -implicitDefEqProofs (maxSteps:=5000000) only [go_sem,simprocAttr,itr,itq,hc,en,w]
theorem dec2C {c : Nat} (hc : cellsOf K c = some [.ptr p 0]) : (envL prog).call 35 [.int .i64 (m : Int),.ptr c 0] K = some (.sl (K.length + 1) 0 1 m m false,(K ++ [ABlk.rw [],.rw (u8s ((zs.drop k).take m))]).set p (.rw [rdV B (k + m) zs.length])):=by
 obtain ⟨w,G,hw,hG,et⟩:=takeC r h hm hz
 rw [hG,hw] at et
 have tr : ∀ X,trim K (some (AV.sl (K.length + 1) 0 1 m m false,X)) = some (.sl (K.length + 1) 0 1 m m false,X):=fun X=>zA9 (by simp [AV.under])
 rw [c35]
 unfold b35
 simp -implicitDefEqProofs (maxSteps:=5000000) only [go_sem,simprocAttr,itr,itq,hc,et,tr]
end
end Go.Proofs.Ythgflkfhjnbheaa.G14
end
section
namespace Go.Proofs.Ythgflkfhjnbheaa.G14
open Go Go.Proofs.Ythgflkfhjnbheaa.Eng
noncomputable abbrev PsL (s : LoopState) (t : T) : ABlk:=.loop ⟨s,.normal,t,[7],zH7,zH6⟩
structure PsY (H : zAb) (s : LoopState) (t : T) (l : List PrS) (K : zAb) : Prop where
 old : ∀ b,b < H.length → K[b]? = H[b]?
 len : H.length + 2 ≤ K.length
 out : ∃ v,K[H.length]? = some (.rw [v]) ∧ Gp K (H.length + 2) v l
 lp : K[H.length + 1]? = some (PsL s t)
set_option maxHeartbeats 4000000 in
theorem zR1 {H K : zAb} {t : T} (ht : t.length = 13) (t2 : getT t 2 = .ptr H.length 0) {l : List PrS} (y : PsY H .ready t l K) (hl : l.length ≤ 1000) (x : PrS) :
  ∃ K',(envL prog).yield (H.length + 1) [.agg [.int .i64 x.1,.int .i64 x.2]] K = some (.bool true,K') ∧ PsY H .ready t (l ++ [x]) K':=by
 obtain ⟨v,hv,g⟩:=y.out
 have kl:=y.len
 obtain ⟨Kb,hKb⟩ : ∃ Kb,Kb = (K ++ [ABlk.rw [.int .i64 x.1,.int .i64 x.2]]).set (H.length + 1) (PsL .busy t):=⟨_,rfl⟩
 have lb : Kb.length = K.length + 1:=by rw [hKb]; exact zKl
 have fb : ∀ b,b < K.length → b ≠ H.length + 1 → Kb[b]? = K[b]?:=fun b hb hn=>by rw [hKb]; exact zNo hb hn
 have b0 : Kb[H.length]? = some (.rw [v]):=by rw [fb _ (by omega) (by omega)]; exact hv
 have b1 : Kb[H.length + 1]? = some (PsL .busy t):=by rw [hKb]; exact zT7 (by omega)
 have b6 : Kb[K.length]? = some (.rw [.int .i64 x.1,.int .i64 x.2]):=by rw [hKb]; exact zO0 (by omega)
 have frb : Fr K Kb (fun b=>b = H.length + 1):=by rw [hKb]; exact zT8
 have ov:=g.out
 have gb : Gp Kb (H.length + 2) v l:=g.fr frb fun z hz h=>by have:=ov z hz; omega
 obtain ⟨Kc,hKc⟩ : ∃ Kc,Kc = Kb ++ [ABlk.rw [.int .i64 x.1,.int .i64 x.2]]:=⟨_,rfl⟩
 have Ac : Adds Kb Kc:=⟨_,hKc⟩
 have lc : Kc.length = K.length + 2:=by rw [hKc]; simp [lb]
 have gc : Gp Kc (H.length + 2) v l:=by rw [hKc]; exact gb.adds _
 have sy : zA1 2 [x].length (.sl Kb.length 0 2 1 1 true) Kc = some (flat [x]):=by
  show zA1 2 1 _ Kc = _
  have hcc : cellsOf Kc Kb.length = some [.int .i64 x.1,.int .i64 x.2]:=by rw [hKc]; unfold cellsOf; simp
  unfold zA1 zBt
  simp only [if_true,hcc,Option.bind_some]
  rfl
 obtain ⟨v',Kd,ea,gd,frd,sv,_⟩:=zOj gc (y:=.sl Kb.length 0 2 1 1 true) (m:=[x]) (by omega) rfl sy (by unfold roomy; simp; omega)
 have sv:=sv (by simp)
 have ld:=frd.1
 have oc:=gc.out
 have d0 : Kd[H.length]? = some (.rw [v]):=frd.at (Ac.at b0) fun h=>by have:=oc _ h; omega
 have d1 : Kd[H.length + 1]? = some (PsL .busy t):=frd.at (Ac.at b1) fun h=>by have:=oc _ h; omega
 have cv:=gd.isP.cell
 have wr : zA4 Kd H.length 0 [v'] = some (Kd.set H.length (.rw [v'])):=by
  rw [zA5 d0,if_pos ⟨by simp,by simp [cv.2]⟩]; rfl
 have c0:=zAm b0
 have c6:=zAm b6
 have hKc':=hKc.symm
 have al : zA4 (K ++ [ABlk.rw [AV.int .i64 0,.int .i64 0]]) K.length 0 [.int .i64 x.1,.int .i64 x.2] = some (K ++ [ABlk.rw [.int .i64 x.1,.int .i64 x.2]]):=by
  rw [zDz,if_pos ⟨by simp,rfl⟩]; rfl
 obtain ⟨e,K2,K4,⟨rfl,rfl⟩,ey,h4⟩:=zLc (P:=prog) (l:=H.length + 1) (args:=[.agg [.int .i64 x.1,.int .i64 x.2]]) (K:=K) (eaq69x0 _) (ebq69x0 _) y.lp rfl (t1:=(t.set 7 (.agg [.int .i64 x.1,.int .i64 x.2])).set 5 (.ptr K.length 0)) (cs:=[.int .i64 x.1,.int .i64 x.2]) (by
   unfold aq69x0
   simp -implicitDefEqProofs (maxSteps:=5000000) only [go_sem,simprocAttr,zBi,zA8,ht,List.length_set,Nat.reduceLT,zBa,zAe,al])
  (R:=fun e K2=>e = .normal ∧ K2 = Kd.set H.length (.rw [v'])) (by
   rw [← hKb]
   unfold bq69x0
   simp -implicitDefEqProofs (maxSteps:=5000000) only [go_sem,simprocAttr,itr,itq,zA8,ht,t2,List.length_set,Nat.reduceLT,c0,c6,hKc',ea,zBa,cv.1,wr,zAc]) (by
   rintro e K2 ⟨_,rfl⟩
   rw [zAn _ _ _ _ (by omega)]; exact d1)
 have a0 : ∀ b,b < H.length → (Kd.set H.length (.rw [v']))[b]? = H[b]?:=fun b hb=>by
  rw [zAn _ _ _ _ (by omega),frd.2 b (by omega) (fun h=>by have:=oc _ h; omega),hKc,List.getElem?_append_left (by omega),fb b (by omega) (by omega)]
  exact y.old b hb
 rcases h4 with rfl | ⟨tt,_⟩
 ·refine ⟨_,ey,fun b hb=>?_,by simp; omega,⟨v',?_,?_⟩,?_⟩
  ·rw [zAn _ _ _ _ (by omega)]; exact a0 b hb
  ·rw [zAn _ _ _ _ (by omega)]; exact zBf _ _ _ (by omega)
  ·have od:=gd.out
   exact (gd.fr (Fr.set (F:=(· = H.length)) _ _ rfl) fun z hz h=>by have:=od z hz; omega).fr (Fr.set (F:=(· = H.length + 1)) _ _ rfl) fun z hz h=>by have:=od z hz; omega
  ·exact zBf _ _ _ (by simp; omega)
 ·exfalso
  have:=zQ5 tt (b:=H.length) (by omega) (vs:=[v']) (by rw [zAn _ _ _ _ (by omega)]; exact zBf _ _ _ (by omega)) (a:=v') (by simp) (fun k hk a ha z hz=>by
   rw [hv] at hk; injection hk with hk
   rw [← hk] at ha
   simp only [ABlk.vals,List.mem_cons,List.not_mem_nil,or_false] at ha
   subst ha
   exact (ov z hz).2) Kc.length sv
  omega
end Go.Proofs.Ythgflkfhjnbheaa.G14
end
section
namespace Go.Proofs.Ythgflkfhjnbheaa.G14
open Go Go.Proofs.Ythgflkfhjnbheaa.Eng
theorem unm_snoc (x : List Int) (c : Int) : unmF 0 (x ++ [c]) = unmF 0 x ++ (if c = 0 then [] else [((x.length : Int),if c = 255 then 255 else c - 1)]):=by
 rw [zFn,Nat.zero_add]
 congr 1
 rw [unmF,unmF,List.append_nil]
theorem zMp : ∀ (x : List Int) (i : Nat),(unmF i x).length ≤ x.length
 | [],i=>by unfold unmF; simp
 | c :: x,i=>by
  have:=zMp x (i + 1)
  rw [unmF,List.length_append,List.length_cons]
  split <;> simp <;> omega
theorem PsY.adds {H K : zAb} {s : LoopState} {t : T} {l : List PrS} (y : PsY H s t l K) : Adds H K:=Adds.of_get (by have:=y.len; omega) y.old
section
variable {H : zAb} {w : AV} {z : List Int} (bw : BS H w z) (uz : IsU8 z) (lz : z.length ≤ 1000) {t : T} (ht : t.length = 13) (t2 : getT t 2 = .ptr H.length 0)
include bw uz lz ht t2
set_option maxHeartbeats 4000000 in
theorem psL (x1 x2 : AV) : ∀ (m i : Nat) (K : zAb) (j3 j4 j5 j9 j10 j11 j12 j13 j14 j15 j16 j17 j18 j19 j20 j21 j22 j23 j24 j25 j26 j27 j28 : AV),PsY H .ready t (unmF 0 (z.take i)) K → i + m = z.length →
  Outs (LP1 l70x0 [.yld (H.length + 1),x1,x2,j3,j4,j5,w,.int .i64 (z.length : Int),.int .i64 (i : Int),j9,j10,j11,j12,j13,j14,j15,j16,j17,j18,j19,j20,j21,j22,j23,j24,j25,j26,j27,j28] K) fun e t' K'=>e = .exit 0 ∧ PsY H .ready t (unmS z) K':=by
 intro m
 obtain ⟨L0,hL0⟩ : ∃ L,L = LP1 l70x0:=⟨_,rfl⟩
 have lo:=zAr hL0
 rw [← hL0]
 induction m with
 | zero =>
  intro i K j3 j4 j5 j9 j10 j11 j12 j13 j14 j15 j16 j17 j18 j19 j20 j21 j22 j23 j24 j25 j26 j27 j28 y hi
  obtain rfl : i = z.length:=by omega
  have hd : decide ((z.length : Int) < (z.length : Int)) = false:=by simp
  rw [List.take_length] at y
  rw [lo]
  unfold l70x0
  simp -implicitDefEqProofs (maxSteps:=5000000) only [go_sem,simprocAttr,hd,zAh,zAc]
  exact y
 | succ m ih =>
  intro i K j3 j4 j5 j9 j10 j11 j12 j13 j14 j15 j16 j17 j18 j19 j20 j21 j22 j23 j24 j25 j26 j27 j28 y hi
  have hlt : i < z.length:=by omega
  have hd : decide ((i : Int) < (z.length : Int)) = true:=decide_eq_true (by omega)
  have e2 : IntKind.i64.wrap ((i : Int) + 1) = ((i + 1 : Nat) : Int):=by rw [zAl (by omega) (by omega)]; omega
  have hx:=List.getElem?_eq_getElem hlt
  have ux:=uz _ (List.getElem_mem hlt)
  have tl : (z.take i).length = i:=by rw [List.length_take]; omega
  have tk : z.take (i + 1) = z.take i ++ [z[i]]:=by rw [List.take_add_one,hx]; rfl
  have key:=ih (i + 1)
  rw [tk,unm_snoc,tl] at key
  generalize z[i] = c at *
  obtain ⟨ad,ix,ld⟩:=(y.adds.bs bw).idx hx .i64
  have w1 : IntKind.i64.wrap c = c:=zAl (by omega) (by omega)
  have w2 : IntKind.i64.wrap (c - 1) = c - 1:=zAl (by omega) (by omega)
  have ul:=zMp (z.take i) 0
  rw [lo]
  unfold l70x0
  by_cases c0 : c = 0
  ·have n0 : (c != 0) = false:=by simp [c0]
   have n5 : (c == 255) = false:=by simp [c0]
   rw [if_pos c0,List.append_nil] at key
   simp -implicitDefEqProofs (maxSteps:=5000000) only [go_sem,simprocAttr,itr,itq,hd,ix,ld,w1,w2,n0,n5,e2]
   exact key K _ _ _ _ _ _ _ _ _ _ _ _ _ _ _ _ _ _ _ _ _ _ _ y (by omega)
  have n0 : (c != 0) = true:=bne_iff_ne.2 c0
  rw [if_neg c0] at key
  by_cases c5 : c = 255
  ·have n5 : (c == 255) = true:=by simp [c5]
   rw [if_pos c5] at key
   obtain ⟨K1,ey,y1⟩:=zR1 ht t2 y (by omega) ((i : Int),255)
   simp -implicitDefEqProofs (maxSteps:=5000000) only [go_sem,simprocAttr,itr,zCr,zD4,hd,ix,ld,w1,w2,n0,n5,ey,e2]
   exact key K1 _ _ _ _ _ _ _ _ _ _ _ _ _ _ _ _ _ _ _ _ _ _ _ y1 (by omega)
  ·have n5 : (c == 255) = false:=by simp [c5]
   rw [if_neg c5] at key
   obtain ⟨K1,ey,y1⟩:=zR1 ht t2 y (by omega) ((i : Int),c - 1)
   simp -implicitDefEqProofs (maxSteps:=5000000) only [go_sem,simprocAttr,itr,zCr,zD4,hd,ix,ld,w1,w2,n0,n5,ey,e2]
   exact key K1 _ _ _ _ _ _ _ _ _ _ _ _ _ _ _ _ _ _ _ _ _ _ _ y1 (by omega)
theorem Gp.cut {K : zAb} {B n : Nat} {v : AV} {l : List PrS} (g : Gp K B v l) (h : ∀ b,slb v = some b → b < n) : Gp (K.take n) B v l:=by
 rcases g with g | ⟨h0,b,hb,rfl,q⟩ | ⟨h0,b,hb,rfl,q⟩
 ·exact .inl g
 ·exact .inr (.inl ⟨h0,b,hb,rfl,by rw [zIg (h b rfl)]; exact q⟩)
 ·exact .inr (.inr ⟨h0,b,hb,rfl,by rw [zIg (h b rfl)]; exact q⟩)
set_option maxHeartbeats 4000000 in
theorem psCall {c : Nat} (hc : cellsOf H c = some [w]) {K0 : zAb} (y0 : PsY H .ready t [] K0) (l0 : K0.length = H.length + 2) (v0 : ∀ k,K0[H.length]? = some k → ∀ a ∈ k.vals,∀ x,slb a = some x → x < K0.length) : ∃ K',(envL prog).call 70 [.yld (H.length + 1),.ptr c 0] K0 = some (.tup [],K') ∧ PsY H .ready t (unmS z) K':=by
 have wl:=bw.len
 have l1:=psL bw uz lz ht t2 (m:=z.length) (i:=0) (K:=K0)
 rw [show ((0 : Nat) : Int) = 0 from rfl,List.take_zero,show unmF 0 [] = [] by unfold unmF; rfl] at l1
 have c1:=y0.adds.cells hc
 have key : Outs (runC (envL prog) (b70 (envL prog)) ([.yld (H.length + 1),.ptr c 0] ++ List.replicate (29 - [AV.yld (H.length + 1),.ptr c 0].length) .undef) K0) fun e' t' K=>PsY H .ready t (unmS z) K ∧ fin [] (some (e',t',K)) = some (.tup [],K):=by
  unfold b70
  generalize hQ : (fun (e' : Ex) (t' : T) (K : zAb)=>PsY H .ready t (unmS z) K ∧ fin [] (some (e',t',K)) = some (AV.tup [],K)) = Q
  simp -implicitDefEqProofs (maxSteps:=5000000) only [go_sem,simprocAttr,itr,itq,zAj,c1,wl]
  unfold LP1 at l1
  generalize (envL prog).loop (runC (envL prog) (l70x0 (envL prog))) = LL at l1 ⊢
  refine zAq (fun r=>zAt 0 r) (l1 _ _ _ _ _ _ _ _ _ _ _ _ _ _ _ _ _ _ _ _ _ _ _ _ _ y0 (by omega)) ?_
  rintro e t' K ⟨rfl,y⟩
  simp -implicitDefEqProofs (maxSteps:=5000000) only [go_sem,simprocAttr,zAc]
  subst hQ
  refine ⟨y,?_⟩
  simp -implicitDefEqProofs (maxSteps:=5000000) only [go_sem,simprocAttr]
 obtain ⟨e',t',K,hr,y,hf⟩:=key
 obtain ⟨K4,et,h4⟩:=zJl K0 (.tup []) K
 refine ⟨K4,by rw [c70,hr,hf]; exact et,?_⟩
 rcases h4 with rfl | ⟨tt,rfl⟩
 ·exact y
 ·obtain ⟨v,hv,g⟩:=y.out
  have yl:=y.len
  refine ⟨fun b hb=>by rw [zIg (by omega)]; exact y.old b hb,by rw [List.length_take]; omega,⟨v,by rw [zIg (by omega)]; exact hv,Gp.cut bw uz lz ht t2 g (zQ5 tt (by omega) hv (by simp) v0)⟩,by rw [zIg (by omega)]; exact y.lp⟩
end
set_option maxHeartbeats 4000000 in
theorem zOt {H : zAb} {w : AV} {z : List Int} (bw : BS H w z) (uz : IsU8 z) (lz : z.length ≤ 1000) {c : Nat} (hc : cellsOf H c = some [w]) : ∃ v K,(envL prog).call 37 [.fn 70 [.ptr c 0]] H = some (v,K) ∧ Adds H K ∧ Gp K H.length v (unmS z):=by
 have hr : ∀ T : Eng.T,T.length = 13 → getT T 2 = .ptr H.length 0 → getT T 6 = .fn 70 [.ptr c 0] → Outs (runC (envL prog) (.range (X 6) [7] zH7 zH6) T (H ++ [ABlk.rw [.nilSl]])) fun e t K=>e = .normal ∧ t = T ∧ PsY H .exhausted T (unmS z) K:=by
  intro T ht t2 tf
  obtain ⟨K0,hK0⟩ : ∃ K0,K0 = (H ++ [ABlk.rw [.nilSl]]) ++ [PsL .ready T]:=⟨_,rfl⟩
  have l0 : K0.length = H.length + 2:=by rw [hK0]; simp
  have y0 : PsY H .ready T [] K0:=⟨fun b hb=>by rw [hK0,List.append_assoc,List.getElem?_append_left hb],by omega,⟨.nilSl,by rw [hK0]; simp,.inl ⟨rfl,rfl⟩⟩,by rw [hK0]; simp⟩
  obtain ⟨K1,ec,y1⟩:=psCall bw uz lz ht t2 hc y0 l0 (fun k hk a ha x hx=>by
   have : K0[H.length]? = some (.rw [.nilSl]):=by rw [hK0]; simp
   rw [this] at hk; injection hk with hk
   rw [← hk] at ha
   simp only [ABlk.vals,List.mem_cons,List.not_mem_nil,or_false] at ha
   subst ha; cases hx)
  have lG : (H ++ [ABlk.rw [AV.nilSl]]).length = H.length + 1:=by simp
  have:=zLh (E:=envL prog) (f:=X 6) (ps:=[7]) (ka:=zH7) (kb:=zH6) (t:=T) (h:=H ++ [ABlk.rw [.nilSl]]) (K:=K1) (e:=.normal) (st:=.ready) (v:=.tup []) (by rw [X_ap,tf,lG,← hK0]; exact ec) (by rw [lG]; exact y1.lp) (by decide)
  rw [lG] at this
  obtain ⟨v,hv,g⟩:=y1.out
  have yl:=y1.len
  have og:=g.out
  exact ⟨_,_,_,this,rfl,rfl,fun b hb=>by rw [zAn _ _ _ _ (by omega)]; exact y1.old b hb,by rw [List.length_set]; exact yl,⟨v,by rw [zAn _ _ _ _ (by omega)]; exact hv,g.fr (Fr.set (F:=(· = H.length + 1)) _ _ rfl) fun x hx h=>by have:=og x hx; omega⟩,zBf _ _ _ (by omega)⟩
 have key : Outs (runC (envL prog) (b69 (envL prog)) ([.nilSl,.fn 70 [.ptr c 0]] ++ List.replicate (13 - [AV.nilSl,.fn 70 [.ptr c 0]].length) .undef) H) fun e' t K=>∃ v,Adds H K ∧ Gp K H.length v (unmS z) ∧ fin [.tmp 4] (some (e',t,K)) = some (v,K):=by
  unfold b69
  generalize hQ : (fun (e' : Ex) (t : T) (K : zAb)=>∃ v,Adds H K ∧ Gp K H.length v (unmS z) ∧ fin [.tmp 4] (some (e',t,K)) = some (v,K)) = Q
  simp -implicitDefEqProofs (maxSteps:=5000000) only [go_sem,simprocAttr,itr]
  refine zAq (fun r=>seqR (zAt 0 r) _) (hr _ rfl rfl rfl) ?_
  rintro e t K ⟨rfl,rfl,y⟩
  obtain ⟨v,hv,g⟩:=y.out
  have c0:=zAm hv
  simp -implicitDefEqProofs (maxSteps:=5000000) only [go_sem,simprocAttr,itr,itq,c0,zAc]
  subst hQ
  refine ⟨v,y.adds,g.low (by omega),?_⟩
  simp -implicitDefEqProofs (maxSteps:=5000000) only [go_sem,simprocAttr]
 obtain ⟨e',t,K,hr',v,aK,g,hf⟩:=key
 have og:=g.out
 have tr : ∃ K',trim H (some (v,K)) = some (v,K') ∧ Adds H K' ∧ Gp K' H.length v (unmS z):=by
  rcases zEi (v:=v) aK with e | ⟨u,e⟩
  ·exact ⟨K,e,aK,g⟩
  ·refine ⟨H,e,Adds.refl H,?_⟩
   rcases g with g | ⟨_,b,hb,rfl,_⟩ | ⟨_,b,hb,rfl,_⟩
   ·exact .inl g
   ·have:=zB3 u rfl; omega
   ·have:=zB3 u rfl; omega
 obtain ⟨K',et,aK',g'⟩:=tr
 have ea : (envL prog).call 69 [.nilSl,.fn 70 [.ptr c 0]] H = some (v,K'):=by
  rw [c69,hr',hf]; exact et
 have tr2 : ∃ K2,trim H (some (v,K')) = some (v,K2) ∧ Adds H K2 ∧ Gp K2 H.length v (unmS z):=by
  rcases zEi (v:=v) aK' with e | ⟨u,e⟩
  ·exact ⟨K',e,aK',g'⟩
  ·refine ⟨H,e,Adds.refl H,?_⟩
   rcases g' with g | ⟨_,b,hb,rfl,_⟩ | ⟨_,b,hb,rfl,_⟩
   ·exact .inl g
   ·have:=zB3 u rfl; omega
   ·have:=zB3 u rfl; omega
 obtain ⟨K2,et2,a2,g2⟩:=tr2
 refine ⟨v,K2,?_,a2,g2⟩
 rw [c37]
 unfold b37
 simp -implicitDefEqProofs (maxSteps:=5000000) only [go_sem,simprocAttr,itr,itq,ea,et2]
end Go.Proofs.Ythgflkfhjnbheaa.G14
end
section
namespace Go.Proofs.Ythgflkfhjnbheaa.G14
open Go Go.Proofs.Ythgflkfhjnbheaa.Eng
section
variable {H : zAb} {w : AV} {z : List Int} (bw : BS H w z) (uz : IsU8 z) (lz : z.length ≤ 1000)
include bw uz lz
end
end Go.Proofs.Ythgflkfhjnbheaa.G14
end
section
namespace Go.Proofs.Ythgflkfhjnbheaa.G14
open Go Go.Proofs.Ythgflkfhjnbheaa.Eng
theorem Fr.rd {K K' : zAb} {F : Nat → Prop} {p B k : Nat} {zs : List Int} (r : RdS K p B k zs) (a : Fr K K' F) (h1 : ¬ F p) (h2 : ¬ F B) : RdS K' p B k zs:=⟨a.at r.pt h1,a.at r.bt h2,r.ne⟩
theorem zNb {zs : List Int} {k : Nat} {c : Int} (h : zs[k]? = some c) (uc : 0 ≤ c) : getS ((zs.drop k).take 1) = c:=by
 have : (zs.drop k).take 1 = [c]:=by
  have lt:=(List.getElem?_eq_some_iff.1 h).1
  rw [List.drop_eq_getElem_cons lt,List.take_succ_cons,List.take_zero]
  rw [List.getElem?_eq_getElem lt] at h
  injection h with h; rw [h]
 rw [this]
 simp [getS]
section
variable {zs : List Int} (uz : IsU8 zs) (lz : zs.length ≤ 100000) {H : zAb} {p B c sb : Nat} {nx kd pd : Int} (hc : cellsOf H c = some [.ptr p 0]) (ap : p ≠ sb ∧ B ≠ sb ∧ c ≠ p ∧ c ≠ sb) (lt : p < H.length ∧ B < H.length ∧ sb < H.length)
include uz lz hc ap lt
set_option maxHeartbeats 8000000 in
theorem decL0 {k0 n : Nat} (hk : k0 + n ≤ zs.length) (x0 x1 x2 x3 x4 x5 x6 x8 x10 x11 x12 x13 x14 x15 x16 x17 x18 x19 x20 x21 x22 x23 x24 x25 x26 x27 x28 x29 x30 x31 x32 x33 x34 x35 x36 x37 x38 x39 x40 x41 x42 x43 x44 x45 x46 x47 x60 x61 x62 x63 x64 x65 x66 x67 x68 x69 x70 x71 x72 x73 x74 x75 x76 x77 x78 x79 x80 x81 x82 x83 x84 x85 x86 x87 x88 x89 x90 x91 x92 x93 x94 x95 x96 x97 x98 x99 x100 x101 x102 x103 x104 x105 x106 x107 x108 x109 x110 x111 : AV) : ∀ (m i : Nat) (K : zAb) (vd : AV) (j50 j51 j52 j53 j54 j55 j56 j57 j58 j59 : AV),Fr H K (fun b=>b = p ∨ b = sb) → RdS K p B (k0 + i) zs → K[sb]? = some (.rw [vd,.nilSl,.int .i64 nx,.int .i64 kd,.int .i64 pd,.nilSl]) → FS K H.length vd (((zs.drop k0).take i).map (· - 1)) → i + m = n →
  Outs (LP1 l11x0 [x0,x1,x2,x3,x4,x5,x6,.fn 33 [.ptr c 0],x8,.ptr sb 0,x10,x11,x12,x13,x14,x15,x16,x17,x18,x19,x20,x21,x22,x23,x24,x25,x26,x27,x28,x29,x30,x31,x32,x33,x34,x35,x36,x37,x38,x39,x40,x41,x42,x43,x44,x45,x46,x47,.int .i64 (n : Int),.int .i64 (i : Int),j50,j51,j52,j53,j54,j55,j56,j57,j58,j59,x60,x61,x62,x63,x64,x65,x66,x67,x68,x69,x70,x71,x72,x73,x74,x75,x76,x77,x78,x79,x80,x81,x82,x83,x84,x85,x86,x87,x88,x89,x90,x91,x92,x93,x94,x95,x96,x97,x98,x99,x100,x101,x102,x103,x104,x105,x106,x107,x108,x109,x110,x111] K) fun e t K'=>e = .exit 1 ∧ (∃ vd,Fr H K' (fun b=>b = p ∨ b = sb) ∧ RdS K' p B (k0 + n) zs ∧ K'[sb]? = some (.rw [vd,.nilSl,.int .i64 nx,.int .i64 kd,.int .i64 pd,.nilSl]) ∧ FS K' H.length vd (((zs.drop k0).take n).map (· - 1))) ∧ ∃ fv : Nat → AV,t = [x0,x1,x2,x3,x4,x5,x6,.fn 33 [.ptr c 0],x8,.ptr sb 0,x10,x11,x12,x13,x14,x15,x16,x17,x18,x19,x20,x21,x22,x23,x24,x25,x26,x27,x28,x29,x30,x31,x32,x33,x34,x35,x36,x37,x38,x39,x40,x41,x42,x43,x44,x45,x46,x47,.int .i64 (n : Int),(fv 49),(fv 50),(fv 51),(fv 52),(fv 53),(fv 54),(fv 55),(fv 56),(fv 57),(fv 58),(fv 59),x60,x61,x62,x63,x64,x65,x66,x67,x68,x69,x70,x71,x72,x73,x74,x75,x76,x77,x78,x79,x80,x81,x82,x83,x84,x85,x86,x87,x88,x89,x90,x91,x92,x93,x94,x95,x96,x97,x98,x99,x100,x101,x102,x103,x104,x105,x106,x107,x108,x109,x110,x111]:=by
 intro m
 obtain ⟨L0,hL0⟩ : ∃ L,L = LP1 l11x0:=⟨_,rfl⟩
 have lo:=zAr hL0
 rw [← hL0]
 induction m with
 | zero =>
  intro i K vd j50 j51 j52 j53 j54 j55 j56 j57 j58 j59 fK r hs g hi
  obtain rfl : i = n:=by omega
  have hd : decide ((i : Int) < (i : Int)) = false:=by simp
  rw [lo]
  unfold l11x0
  simp -implicitDefEqProofs (maxSteps:=5000000) only [go_sem,simprocAttr,hd,zAh,zAc]
  exact ⟨⟨vd,fK,r,hs,g⟩,exF rfl⟩
 | succ m ih =>
  intro i K vd j50 j51 j52 j53 j54 j55 j56 j57 j58 j59 fK r hs g hi
  have hd : decide ((i : Int) < (n : Int)) = true:=decide_eq_true (by omega)
  have e2 : IntKind.i64.wrap ((i : Int) + 1) = ((i + 1 : Nat) : Int):=by rw [zAl (by omega) (by omega)]; omega
  have hx:=List.getElem?_eq_getElem (show k0 + i < zs.length by omega)
  have ux:=uz _ (List.getElem_mem (show k0 + i < zs.length by omega))
  have kl:=fK.1
  have cc:=fK.cells hc (by rintro (h | h) <;> omega)
  have ed:=zP0 r (m:=1) (by omega) (by omega) lz (by omega) uz cc
  rw [zNb hx ux.1,show ((1 : Nat) : Int) = 1 from rfl] at ed
  have tk : ((zs.drop k0).take (i + 1)).map (· - 1) = ((zs.drop k0).take i).map (· - 1) ++ [zs[k0 + i] - 1]:=by
   rw [List.take_add_one,List.getElem?_drop,hx,List.map_append]; rfl
  have key:=ih (i + 1)
  rw [tk] at key
  generalize zs[k0 + i] = x at *
  have w1 : IntKind.i64.wrap (x - 1) = x - 1:=zAl (by omega) (by omega)
  obtain ⟨K1,hK1⟩ : ∃ K1,K1 = K.set p (.rw [rdV B (k0 + i + 1) zs.length]):=⟨_,rfl⟩
  have r1 : RdS K1 p B (k0 + i + 1) zs:=by rw [hK1]; exact r.next
  rw [← hK1] at ed
  have l1 : K1.length = K.length:=by rw [hK1]; simp
  have hs1 : K1[sb]? = some (.rw [vd,.nilSl,.int .i64 nx,.int .i64 kd,.int .i64 pd,.nilSl]):=by rw [hK1,zAn _ _ _ _ (by omega)]; exact hs
  have f1 : Fr K K1 (fun b=>b = p):=by rw [hK1]; exact Fr.set _ _ rfl
  have og:=FS.out g
  have g1 : FS K1 H.length vd (((zs.drop k0).take i).map (· - 1)):=g.frT f1 fun b hb h=>by have:=og b hb; omega
  obtain ⟨K2,hK2⟩ : ∃ K2,K2 = K1 ++ [ABlk.rw [.int .i64 (x - 1)]]:=⟨_,rfl⟩
  have A2 : Adds K1 K2:=⟨_,hK2⟩
  have g2 : FS K2 H.length vd (((zs.drop k0).take i).map (· - 1)):=g1.frT (Fr.adds A2 (fun _=>False)) fun _ _ h=>h
  obtain ⟨v',K3,ep,g3,f3,sb3,l3⟩:=FS.push g2 (s:=K1.length) (z:=x - 1) (by rw [hK2]; unfold cellsOf; simp) (by simp; omega) (by have:=A2.len; omega)
  have o2:=FS.out g2
  have hs3 : K3[sb]? = some (.rw [vd,.nilSl,.int .i64 nx,.int .i64 kd,.int .i64 pd,.nilSl]):=f3.at (A2.at hs1) fun h=>by have:=(o2 sb h).1; omega
  have r3 : RdS K3 p B (k0 + i + 1) zs:=Fr.rd (r1.adds A2) f3 (fun h=>by have:=(o2 _ h).1; omega) (fun h=>by have:=(o2 _ h).1; omega)
  have cv:=FS.cell g3
  have wr : zA4 K3 sb 0 [v'] = some (K3.set sb (.rw [v',.nilSl,.int .i64 nx,.int .i64 kd,.int .i64 pd,.nilSl])):=by
   rw [zA5 hs3,if_pos ⟨by simp,by simp [cv.2]⟩]; rfl
  have l2:=A2.len
  have fz : Fr H (K3.set sb (.rw [v',.nilSl,.int .i64 nx,.int .i64 kd,.int .i64 pd,.nilSl])) (fun b=>b = p ∨ b = sb):=by
   refine ⟨by simp; omega,fun z hz hn=>?_⟩
   rw [zAn _ _ _ _ (fun h=>hn (.inr h)),f3.2 z (by omega) (fun h=>by have:=(o2 z h).1; omega),hK2,List.getElem?_append_left (by omega),f1.2 z (by omega) (fun h=>hn (.inl h))]
   exact fK.2 z hz hn
  have o3:=FS.out g3
  have cs0:=zAm hs
  have cs1:=zAm hs1
  have cs2:=zAm (A2.at hs1)
  have cs3:=zAm hs3
  have hK2:=hK2.symm
  rw [lo]
  unfold l11x0
  simp -implicitDefEqProofs (maxSteps:=5000000) only [go_sem,simprocAttr,itr,itq,zGh,hd,cs0,cs1,cs2,cs3,ed,w1,hK2,ep,zBa,cv.1,wr,e2]
  exact key (K3.set sb (.rw [v',.nilSl,.int .i64 nx,.int .i64 kd,.int .i64 pd,.nilSl])) v' _ _ _ _ _ _ _ _ _ _ fz (Fr.rd r3 (Fr.set (F:=(· = sb)) _ _ rfl) (by omega) (by omega)) (zBf _ _ _ (by omega)) (g3.frT (Fr.set (F:=(· = sb)) _ _ rfl) fun b hb h=>by have:=(o3 b hb).1; omega) (by omega)
end
end Go.Proofs.Ythgflkfhjnbheaa.G14
end
section
namespace Go.Proofs.Ythgflkfhjnbheaa.G14
open Go Go.Proofs.Ythgflkfhjnbheaa.Eng
theorem zR5 (w : AV) (hw : zAy w = some [w] ∧ w.isCell = true) (H : zAb) : (envL prog).call 38 [w] H = some (.fn 70 [.ptr H.length 0],H ++ [.rw [w]]):=by
 rw [c38]
 unfold b38
 simp -implicitDefEqProofs (maxSteps:=5000000) only [go_sem,simprocAttr,hw.1,hw.2]
 exact zA9 (by simp [AV.under,zA7])
section
variable {zs : List Int} (uz : IsU8 zs) (lz : zs.length ≤ 100000) {p B c k nb b : Nat}
include uz lz
theorem decSlot {K : zAb} (r : RdS K p B k zs) (hc : cellsOf K c = some [.ptr p 0]) (cp : c ≠ p) (h : k + (4 + nb + b) ≤ zs.length) (hnb : Bt.newN (b : Int) = nb) (n1 : 1 ≤ nb) (b1 : 1 ≤ b) (b2 : b ≤ 1000) : ∃ vn vt Kb Kc Kd Ke Kg,
  (envL prog).call 33 [.int .i64 4,.ptr c 0] (K ++ [ABlk.rw [.int .i64 0,.nilSl,.nilSl]]) = some (.int .i64 (getS ((zs.drop k).take 4)),Kb) ∧
  (envL prog).call 26 [.int .i64 (b : Int)] Kb = some (vn,Kc) ∧ zDi vn = some (.int .i64 (nb : Int)) ∧
  (envL prog).call 35 [.int .i64 (nb : Int),.ptr c 0] Kc = some (.sl (Kc.length + 1) 0 1 nb nb false,Kd) ∧
  (envL prog).call 35 [.int .i64 (b : Int),.ptr c 0] Kd = some (.sl (Kd.length + 1) 0 1 b b false,Ke) ∧
  (envL prog).call 38 [.sl (Kd.length + 1) 0 1 b b false] Ke = some (.fn 70 [.ptr Ke.length 0],Ke ++ [ABlk.rw [.sl (Kd.length + 1) 0 1 b b false]]) ∧
  (envL prog).call 37 [.fn 70 [.ptr Ke.length 0]] (Ke ++ [ABlk.rw [.sl (Kd.length + 1) 0 1 b b false]]) = some (vt,Kg) ∧
  zA4 Kg K.length 0 [.int .i64 (getS ((zs.drop k).take 4)),.sl (Kc.length + 1) 0 1 nb nb false,vt] = some (Kg.set K.length (.rw [.int .i64 (getS ((zs.drop k).take 4)),.sl (Kc.length + 1) 0 1 nb nb false,vt])) ∧
  (zAy vt = some [vt] ∧ vt.isCell = true) ∧
  Fr K Kb (· = p) ∧ Fr K Kc (· = p) ∧ Fr K Kd (· = p) ∧ Fr K Ke (· = p) ∧ Fr K Kg (· = p) ∧
  Fr K (Kg.set K.length (.rw [.int .i64 (getS ((zs.drop k).take 4)),.sl (Kc.length + 1) 0 1 nb nb false,vt])) (· = p) ∧
  RdS (Kg.set K.length (.rw [.int .i64 (getS ((zs.drop k).take 4)),.sl (Kc.length + 1) 0 1 nb nb false,vt])) p B (k + (4 + nb + b)) zs ∧
  SnR (Kg.set K.length (.rw [.int .i64 (getS ((zs.drop k).take 4)),.sl (Kc.length + 1) 0 1 nb nb false,vt])) [.int .i64 (getS ((zs.drop k).take 4)),.sl (Kc.length + 1) 0 1 nb nb false,vt] (snOf nb b (zs.drop k)) ∧
  K.length < Kg.length ∧ (∀ x ∈ [AV.int .i64 (getS ((zs.drop k).take 4)),.sl (Kc.length + 1) 0 1 nb nb false,vt],∀ z,slb x = some z → K.length < z):=by
 have lp:=zBb r.pt
 have lB:=zBb r.bt
 have lc:=zCe hc
 obtain ⟨Ka,hKa⟩ : ∃ Ka,Ka = K ++ [ABlk.rw [.int .i64 0,.nilSl,.nilSl]]:=⟨_,rfl⟩
 have Aa : Adds K Ka:=⟨_,hKa⟩
 have la : Ka.length = K.length + 1:=by rw [hKa]; simp
 have e1:=zP0 (r.adds Aa) (m:=4) (by omega) (by omega) lz (by omega) uz (Aa.cells hc)
 rw [show ((4 : Nat) : Int) = 4 from rfl] at e1
 obtain ⟨Kb,hKb⟩ : ∃ Kb,Kb = Ka.set p (.rw [rdV B (k + 4) zs.length]):=⟨_,rfl⟩
 rw [← hKb] at e1
 have rb : RdS Kb p B (k + 4) zs:=by rw [hKb]; exact (r.adds Aa).next
 have fb : Fr K Kb (· = p):=by rw [hKb]; exact (Fr.adds Aa _).trans (Fr.set (F:=(· = p)) _ _ rfl) fun _ _ h=>h
 have lb : Kb.length = K.length + 1:=by rw [hKb]; simp [la]
 obtain ⟨vn,G,on,e2⟩:=Bt.newC (b : Int) Kb
 obtain ⟨Kc,hKc⟩ : ∃ Kc,Kc = Kb ++ G:=⟨_,rfl⟩
 have Ac : Adds Kb Kc:=⟨_,hKc⟩
 have bn:=on.bs.len
 rw [List.length_replicate,hnb] at bn
 rw [← hKc] at e2
 have fc : Fr K Kc (· = p):=fb.trans (Fr.adds Ac _) fun _ _ h=>h
 have lcb:=Ac.len
 have e3:=dec2C (rb.adds Ac) (m:=nb) (by omega) n1 lz (fc.cells hc cp)
 obtain ⟨Kd,hKd⟩ : ∃ Kd,Kd = (Kc ++ [ABlk.rw [],.rw (u8s ((zs.drop (k + 4)).take nb))]).set p (.rw [rdV B (k + 4 + nb) zs.length]):=⟨_,rfl⟩
 rw [← hKd] at e3
 have rd : RdS Kd p B (k + 4 + nb) zs:=by rw [hKd]; exact ((rb.adds Ac).adds ⟨_,rfl⟩).next
 have fcd : Fr Kc Kd (· = p):=by rw [hKd]; exact (Fr.adds ⟨_,rfl⟩ _).trans (Fr.set (F:=(· = p)) _ _ rfl) fun _ _ h=>h
 have fd : Fr K Kd (· = p):=fc.trans fcd fun _ _ h=>h
 have ld : Kd.length = Kc.length + 2:=by rw [hKd]; simp
 have hch : Kd[Kc.length + 1]? = some (.rw (u8s ((zs.drop (k + 4)).take nb))):=by rw [hKd,zAn _ _ _ _ (by omega)]; simp
 have e4:=dec2C rd (m:=b) (by omega) b1 lz (fd.cells hc cp)
 obtain ⟨Ke,hKe⟩ : ∃ Ke,Ke = (Kd ++ [ABlk.rw [],.rw (u8s ((zs.drop (k + 4 + nb)).take b))]).set p (.rw [rdV B (k + 4 + nb + b) zs.length]):=⟨_,rfl⟩
 rw [← hKe] at e4
 have re : RdS Ke p B (k + 4 + nb + b) zs:=by rw [hKe]; exact (rd.adds ⟨_,rfl⟩).next
 have fde : Fr Kd Ke (· = p):=by rw [hKe]; exact (Fr.adds ⟨_,rfl⟩ _).trans (Fr.set (F:=(· = p)) _ _ rfl) fun _ _ h=>h
 have fe : Fr K Ke (· = p):=fd.trans fde fun _ _ h=>h
 have le : Ke.length = Kd.length + 2:=by rw [hKe]; simp
 have htb : Ke[Kd.length + 1]? = some (.rw (u8s ((zs.drop (k + 4 + nb)).take b))):=by rw [hKe,zAn _ _ _ _ (by omega)]; simp
 have e5:=zR5 (.sl (Kd.length + 1) 0 1 b b false) ⟨rfl,rfl⟩ Ke
 obtain ⟨Kf,hKf⟩ : ∃ Kf,Kf = Ke ++ [ABlk.rw [.sl (Kd.length + 1) 0 1 b b false]]:=⟨_,rfl⟩
 have Af : Adds Ke Kf:=⟨_,hKf⟩
 have lf : Kf.length = Ke.length + 1:=by rw [hKf]; simp
 have ltb : ((zs.drop (k + 4 + nb)).take b).length = b:=by rw [List.length_take,List.length_drop]; omega
 have lch : ((zs.drop (k + 4)).take nb).length = nb:=by rw [List.length_take,List.length_drop]; omega
 have bt : BS Kf (.sl (Kd.length + 1) 0 1 b b false) ((zs.drop (k + 4 + nb)).take b):=by
  have:=BS.block (l:=b) (e:=false) (Af.at htb)
  rwa [ltb] at this
 obtain ⟨vt,Kg,e6,Ag,gt⟩:=zOt bt (fun y hy=>uz y (List.mem_of_mem_drop (List.mem_of_mem_take hy))) (by omega) (c:=Ke.length) (by rw [hKf]; unfold cellsOf; simp)
 have fg : Fr K Kg (· = p):=fe.trans (Fr.adds (Af.trans Ag) _) fun _ _ h=>h
 have lg:=Ag.len
 have hq : Kg[K.length]? = some (.rw [.int .i64 0,.nilSl,.nilSl]):=by
  have q1 : Kb[K.length]? = some (.rw [.int .i64 0,.nilSl,.nilSl]):=by rw [hKb,zAn _ _ _ _ (by omega),hKa]; simp
  exact (Af.trans Ag).at (fde.at (fcd.at (Ac.at q1) (by omega)) (by omega))
 have ct:=gt.isP.cell
 have og:=gt.out
 have wr : zA4 Kg K.length 0 [.int .i64 (getS ((zs.drop k).take 4)),.sl (Kc.length + 1) 0 1 nb nb false,vt] = some (Kg.set K.length (.rw [.int .i64 (getS ((zs.drop k).take 4)),.sl (Kc.length + 1) 0 1 nb nb false,vt])):=by
  rw [zA5 hq,if_pos ⟨by simp,by simp only [List.all_cons,ct.2]; rfl⟩]; rfl
 have fz : Fr Kg (Kg.set K.length (.rw [.int .i64 (getS ((zs.drop k).take 4)),.sl (Kc.length + 1) 0 1 nb nb false,vt])) (· = K.length):=Fr.set _ _ rfl
 refine ⟨vn,vt,Kb,Kc,Kd,Ke,Kg,by rw [← hKa]; exact e1,e2,bn,e3,e4,e5,by rw [← hKf]; exact e6,wr,ct,fb,fc,fd,fe,fg,?_,?_,?_,by omega,?_⟩
 ·exact fg.trans fz fun x hx h=>by omega
 ·have:=Fr.rd (re.adds (Af.trans Ag)) fz (by omega) (by omega)
  rwa [show k + (4 + nb + b) = k + 4 + nb + b by omega]
 ·refine ⟨_,_,rfl,?_,?_⟩
  ·have : BS Kg (.sl (Kc.length + 1) 0 1 nb nb false) ((zs.drop (k + 4)).take nb):=by
    have:=BS.block (l:=nb) (e:=false) ((Af.trans Ag).at (fde.at hch (by omega)))
    rwa [lch] at this
   have:=this.fr fz fun x hx h=>by injection hx with hx; omega
   show BS _ _ (((zs.drop k).drop 4).take nb)
   rw [List.drop_drop]; exact this
  ·have:=gt.isP.fr fz fun x hx h=>by have:=og x hx; omega
   show IsP _ _ (unmS (((zs.drop k).drop (4 + nb)).take b))
   rw [List.drop_drop,show k + (4 + nb) = k + 4 + nb by omega]; exact this
 ·intro x hx z hz
  simp only [List.mem_cons,List.not_mem_nil,or_false] at hx
  rcases hx with rfl | rfl | rfl
  ·cases hz
  ·injection hz with hz; omega
  ·have:=og z hz; omega
end
end Go.Proofs.Ythgflkfhjnbheaa.G14
end
section
namespace Go.Proofs.Ythgflkfhjnbheaa.G14
open Go Go.Proofs.Ythgflkfhjnbheaa.Eng
theorem zFq (nb b : Nat) : ∀ (k : Nat) (z : List Int),(zDu nb b k z).length = k
 | 0,z=>by unfold zDu; rfl
 | k + 1,z=>by unfold zDu; rw [List.length_cons,zFq nb b k]
theorem zK1 (nb b : Nat) : ∀ (k : Nat) (z : List Int) (i : Nat),i < k → (zDu nb b k z)[i]? = some (snOf nb b (z.drop (i * (4 + nb + b))))
 | 0,z,i,h=>absurd h (by omega)
 | k + 1,z,0,h=>by unfold zDu; simp
 | k + 1,z,i + 1,h=>by
  unfold zDu
  rw [List.getElem?_cons_succ,zK1 nb b k _ i (by omega),List.drop_drop]
  congr 3
  rw [Nat.add_mul,Nat.one_mul]; omega
section
variable {zs : List Int} (uz : IsU8 zs) (lz : zs.length ≤ 100000) {H : zAb} {p B c sb q nb b k1 cnt : Nat} {s w a r nx kd pd : Int} {vd : AV} (hc : cellsOf H c = some [.ptr p 0]) (hq : cellsOf H q = some [.int .i64 (b : Int),.int .i64 s,.int .i64 w,.int .i64 a,.int .i64 r]) (ap : p ≠ sb ∧ B ≠ sb ∧ c ≠ p ∧ c ≠ sb ∧ q ≠ p ∧ q ≠ sb) (lt : p < H.length ∧ B < H.length ∧ sb < H.length) (hnb : Bt.newN (b : Int) = nb) (n1 : 1 ≤ nb) (b1 : 1 ≤ b) (b2 : b ≤ 1000) (cd : vd.isCell = true) (hk : k1 + 8 * (4 + nb + b) ≤ zs.length)
include uz lz hc hq ap lt hnb n1 b1 b2 cd hk
set_option maxHeartbeats 16000000 in
theorem decL1 (x0 x1 x3 x4 x5 x6 x13 x14 x15 x16 x17 x18 x19 x20 x21 x22 x23 x24 x25 x26 x27 x28 x29 x30 x31 x32 x33 x34 x35 x36 x37 x38 x39 x40 x41 x42 x43 x44 x45 x46 x47 x48 x49 x50 x51 x52 x53 x54 x55 x56 x57 x58 x59 x88 x89 x90 x91 x92 x93 x94 x95 x96 x97 x98 x99 x100 x101 x102 x103 x104 x105 x106 x107 x108 x109 x110 x111 : AV) : ∀ (m i : Nat) (K : zAb) (vs : AV) (rows : List (List AV)) (j11 j12 j61 j62 j63 j64 j65 j66 j67 j68 j69 j70 j71 j72 j73 j74 j75 j76 j77 j78 j79 j80 j81 j82 j83 j84 j85 j86 j87 : AV),Fr H K (fun x=>x = p ∨ x = sb) → RdS K p B (k1 + i * (4 + nb + b)) zs → K[sb]? = some (.rw [vd,vs,.int .i64 nx,.int .i64 kd,.int .i64 pd,.nilSl]) → Gc K H.length vs ((zDu nb b 8 (zs.drop k1)).take (min i cnt)) rows → (∀ r ∈ rows,∀ x ∈ r,∀ z,slb x = some z → H.length ≤ z) → i + m = 8 →
  Outs (LP1 l11x1 [x0,x1,.ptr q 0,x3,x4,x5,x6,.fn 33 [.ptr c 0],.fn 35 [.ptr c 0],.ptr sb 0,.int .i64 (cnt : Int),j11,j12,x13,x14,x15,x16,x17,x18,x19,x20,x21,x22,x23,x24,x25,x26,x27,x28,x29,x30,x31,x32,x33,x34,x35,x36,x37,x38,x39,x40,x41,x42,x43,x44,x45,x46,x47,x48,x49,x50,x51,x52,x53,x54,x55,x56,x57,x58,x59,.int .i64 (i : Int),j61,j62,j63,j64,j65,j66,j67,j68,j69,j70,j71,j72,j73,j74,j75,j76,j77,j78,j79,j80,j81,j82,j83,j84,j85,j86,j87,x88,x89,x90,x91,x92,x93,x94,x95,x96,x97,x98,x99,x100,x101,x102,x103,x104,x105,x106,x107,x108,x109,x110,x111] K) fun e t K'=>e = .exit 3 ∧ (∃ vs rows,Fr H K' (fun x=>x = p ∨ x = sb) ∧ RdS K' p B (k1 + 8 * (4 + nb + b)) zs ∧ K'[sb]? = some (.rw [vd,vs,.int .i64 nx,.int .i64 kd,.int .i64 pd,.nilSl]) ∧ Gc K' H.length vs ((zDu nb b 8 (zs.drop k1)).take (min 8 cnt)) rows ∧ (∀ r ∈ rows,∀ x ∈ r,∀ z,slb x = some z → H.length ≤ z)) ∧ ∃ fv : Nat → AV,t = [x0,x1,.ptr q 0,x3,x4,x5,x6,.fn 33 [.ptr c 0],.fn 35 [.ptr c 0],.ptr sb 0,.int .i64 (cnt : Int),(fv 11),(fv 12),x13,x14,x15,x16,x17,x18,x19,x20,x21,x22,x23,x24,x25,x26,x27,x28,x29,x30,x31,x32,x33,x34,x35,x36,x37,x38,x39,x40,x41,x42,x43,x44,x45,x46,x47,x48,x49,x50,x51,x52,x53,x54,x55,x56,x57,x58,x59,(fv 60),(fv 61),(fv 62),(fv 63),(fv 64),(fv 65),(fv 66),(fv 67),(fv 68),(fv 69),(fv 70),(fv 71),(fv 72),(fv 73),(fv 74),(fv 75),(fv 76),(fv 77),(fv 78),(fv 79),(fv 80),(fv 81),(fv 82),(fv 83),(fv 84),(fv 85),(fv 86),(fv 87),x88,x89,x90,x91,x92,x93,x94,x95,x96,x97,x98,x99,x100,x101,x102,x103,x104,x105,x106,x107,x108,x109,x110,x111]:=by
 intro m
 obtain ⟨L0,hL0⟩ : ∃ L,L = LP1 l11x1:=⟨_,rfl⟩
 have lo:=zAr hL0
 obtain ⟨a1,a2,a3,a4,a5,a6⟩:=ap
 obtain ⟨sz,hsz⟩ : ∃ sz,4 + nb + b = sz:=⟨_,rfl⟩
 rw [hsz] at hk
 simp only [hsz]
 rw [← hL0]
 induction m with
 | zero =>
  intro i K vs rows j11 j12 j61 j62 j63 j64 j65 j66 j67 j68 j69 j70 j71 j72 j73 j74 j75 j76 j77 j78 j79 j80 j81 j82 j83 j84 j85 j86 j87 fK rr hs g ro hi
  obtain rfl : i = 8:=by omega
  have hd : decide (((8 : Nat) : Int) < 8) = false:=rfl
  rw [lo]
  unfold l11x1
  simp -implicitDefEqProofs (maxSteps:=5000000) only [go_sem,simprocAttr,hd,zAh,zAc]
  exact ⟨⟨vs,rows,fK,rr,hs,g,ro⟩,exF rfl⟩
 | succ m ih =>
  intro i K vs rows j11 j12 j61 j62 j63 j64 j65 j66 j67 j68 j69 j70 j71 j72 j73 j74 j75 j76 j77 j78 j79 j80 j81 j82 j83 j84 j85 j86 j87 fK rr hs g ro hi
  have hd : decide ((i : Int) < 8) = true:=decide_eq_true (by omega)
  have e2 : IntKind.i64.wrap ((i : Int) + 1) = ((i + 1 : Nat) : Int):=by rw [zAl (by omega) (by omega)]; omega
  have kl:=fK.1
  have im : i * sz + sz ≤ 8 * sz:=by
   have:=Nat.mul_le_mul_right sz (show i + 1 ≤ 8 by omega)
   rw [Nat.add_mul,Nat.one_mul] at this; exact this
  have cc:=fK.cells hc (by rintro (h | h) <;> omega)
  obtain ⟨vn,vt,Kb,Kc,Kd,Ke,Kg,d1,d2,d3,d4,d5,d6,d7,wr,ct,fb,fc,fd,fe,fg,fh,rh,sr,lg,ox⟩:=decSlot uz lz rr cc a3 (by rw [hsz]; omega) hnb n1 b1 b2
  rw [hsz] at rh
  obtain ⟨x,hx⟩ : ∃ x,x = snOf nb b (zs.drop (k1 + i * sz)):=⟨_,rfl⟩
  rw [← hx] at sr
  have gx : (zDu nb b 8 (zs.drop k1))[i]? = some x:=by rw [zK1 nb b 8 _ i (by omega),List.drop_drop,hx,hsz]
  have nl:=zFq nb b 8 (zs.drop k1)
  generalize zDu nb b 8 (zs.drop k1) = SN at *
  generalize getS ((zs.drop (k1 + i * sz)).take 4) = id at *
  obtain ⟨Kh,hKh⟩ : ∃ Kh,Kh = Kg.set K.length (.rw [.int .i64 id,.sl (Kc.length + 1) 0 1 nb nb false,vt]):=⟨_,rfl⟩
  rw [← hKh] at wr fh rh sr
  have lh : Kh.length = Kg.length:=by rw [hKh]; simp
  have hxx : cellsOf Kh K.length = some [.int .i64 id,.sl (Kc.length + 1) 0 1 nb nb false,vt]:=by rw [hKh]; exact zAm (zBf _ _ _ lg)
  have cq : cellsOf K q = some [.int .i64 (b : Int),.int .i64 s,.int .i64 w,.int .i64 a,.int .i64 r]:=fK.cells hq (by rintro (h | h) <;> omega)
  have cqa : ∀ X,cellsOf (K ++ [X]) q = some [.int .i64 (b : Int),.int .i64 s,.int .i64 w,.int .i64 a,.int .i64 r]:=fun X=>zBz cq
  have cqb:=fb.cells cq a5
  have cqc:=fc.cells cq a5
  have cqd:=fd.cells cq a5
  have cqe:=fe.cells cq a5
  have cqg:=fg.cells cq a5
  have cqf : ∀ X,cellsOf (Ke ++ [X]) q = some [.int .i64 (b : Int),.int .i64 s,.int .i64 w,.int .i64 a,.int .i64 r]:=fun X=>zBz cqe
  have hsh : Kh[sb]? = some (.rw [vd,vs,.int .i64 nx,.int .i64 kd,.int .i64 pd,.nilSl]):=fh.at hs (by show ¬ sb = p; omega)
  have csh:=zAm hsh
  have og:=g.g.out
  have gh : Gc Kh H.length vs (SN.take (min i cnt)) rows:=g.frT fh (fun z hz h=>by have:=og z hz; omega) fun r hr y hy z hz h=>by have:=ro r hr y hy z hz; omega
  have ogh:=gh.g.out
  have eo : k1 + i * sz + sz = k1 + (i + 1) * sz:=by rw [Nat.add_mul,Nat.one_mul]; omega
  rw [eo] at rh
  have fHh : Fr H Kh (fun x=>x = p ∨ x = sb):=fK.trans fh fun z hz h=>.inl h
  have key:=ih (i + 1)
  rw [lo]
  unfold l11x1
  by_cases hlt : i < cnt
  ·have dl : decide ((i : Int) < (cnt : Int)) = true:=decide_eq_true (by omega)
   have tk : SN.take (min (i + 1) cnt) = SN.take (min i cnt) ++ [x]:=by
    rw [Nat.min_eq_left (by omega),Nat.min_eq_left (by omega),List.take_add_one,gx]; rfl
   rw [tk] at key
   obtain ⟨Ki,hKi⟩ : ∃ Ki,Ki = Kh ++ [ABlk.rw [.int .i64 id,.sl (Kc.length + 1) 0 1 nb nb false,vt]]:=⟨_,rfl⟩
   have Ai : Adds Kh Ki:=⟨_,hKi⟩
   have li : Ki.length = Kh.length + 1:=by rw [hKi]; simp
   have gi:=gh.adds Ai
   have ogi:=gi.g.out
   obtain ⟨v',Kj,ea,gj,fj,sj,lj,cj1,cj2⟩:=Gc.push (d:=ty 3 true 56 [.int .i64 0,.nilSl,.nilSl]) rfl (by decide) (by decide) gi (s:=Kh.length) (r:=[.int .i64 id,.sl (Kc.length + 1) 0 1 nb nb false,vt]) (x:=x) (by rw [hKi]; unfold cellsOf; simp) (sr.fr (Fr.adds Ai (fun _=>False)) fun _ _ _ _ h=>h) (fun y hy z hz h=>by
    have h1:=ox y hy z hz
    have h2:=(og z h).2
    omega) (by rw [List.length_take]; omega) (by omega)
   have hsj : Kj[sb]? = some (.rw [vd,vs,.int .i64 nx,.int .i64 kd,.int .i64 pd,.nilSl]):=fj.at (Ai.at hsh) fun h=>by have:=(og sb h).1; omega
   have wr2 : zA4 Kj sb 1 [v'] = some (Kj.set sb (.rw [vd,v',.int .i64 nx,.int .i64 kd,.int .i64 pd,.nilSl])):=by
    rw [zA5 hsj,if_pos ⟨by simp,by simp [cj2]⟩]; rfl
   have fHj : Fr H (Kj.set sb (.rw [vd,v',.int .i64 nx,.int .i64 kd,.int .i64 pd,.nilSl])) (fun x=>x = p ∨ x = sb):=by
    refine ⟨by simp; omega,fun z hz hn=>?_⟩
    rw [zAn _ _ _ _ (fun h=>hn (.inr h)),fj.2 z (by omega) (fun h=>by have:=(og z h).1; omega),hKi,List.getElem?_append_left (by omega)]
    exact fHh.2 z hz hn
   have rj : RdS (Kj.set sb (.rw [vd,v',.int .i64 nx,.int .i64 kd,.int .i64 pd,.nilSl])) p B (k1 + (i + 1) * sz) zs:=Fr.rd (Fr.rd (rh.adds Ai) fj (fun h=>by have:=(og _ h).1; omega) (fun h=>by have:=(og _ h).1; omega)) (Fr.set (F:=(· = sb)) _ _ rfl) (by omega) (by omega)
   have ro2 : ∀ r ∈ rows ++ [[AV.int .i64 id,.sl (Kc.length + 1) 0 1 nb nb false,vt]],∀ y ∈ r,∀ z,slb y = some z → H.length ≤ z:=fun r hr y hy z hz=>by
    rcases List.mem_append.1 hr with hr | hr
    ·exact ro r hr y hy z hz
    ·rw [List.mem_singleton.1 hr] at hy
     have:=ox y hy z hz; omega
   have gj2 : Gc (Kj.set sb (.rw [vd,v',.int .i64 nx,.int .i64 kd,.int .i64 pd,.nilSl])) H.length v' (SN.take (min i cnt) ++ [x]) (rows ++ [[AV.int .i64 id,.sl (Kc.length + 1) 0 1 nb nb false,vt]]):=gj.frT (Fr.set (F:=(· = sb)) _ _ rfl) (fun z hz h=>by rw [sj] at hz; injection hz with hz; omega) fun r hr y hy z hz h=>by have:=ro2 r hr y hy z hz; omega
   have hKi:=hKi.symm
   simp -implicitDefEqProofs (maxSteps:=5000000) only [go_sem,simprocAttr,itr,itq,zGh,hd,cq,cqa,cqb,cqc,cqd,cqe,cqf,cqg,d1,d2,d3,d4,d5,d6,d7,ct.1,ct.2,zBa,zAe,wr,dl,csh,hxx,hKi,ea,cj1,wr2,e2]
   exact key (Kj.set sb (.rw [vd,v',.int .i64 nx,.int .i64 kd,.int .i64 pd,.nilSl])) v' (rows ++ [[AV.int .i64 id,.sl (Kc.length + 1) 0 1 nb nb false,vt]]) _ _ _ _ _ _ _ _ _ _ _ _ _ _ _ _ _ _ _ _ _ _ _ _ _ _ _ _ _ fHj rj (zBf _ _ _ (by omega)) gj2 ro2 (by omega)
  ·have dl : decide ((i : Int) < (cnt : Int)) = false:=decide_eq_false (by omega)
   have tk : min (i + 1) cnt = min i cnt:=by omega
   rw [tk] at key
   simp -implicitDefEqProofs (maxSteps:=5000000) only [go_sem,simprocAttr,itr,itq,zGh,hd,cq,cqa,cqb,cqc,cqd,cqe,cqf,cqg,d1,d2,d3,d4,d5,d6,d7,ct.1,ct.2,zBa,zAe,wr,dl,e2]
   exact key Kh vs rows _ _ _ _ _ _ _ _ _ _ _ _ _ _ _ _ _ _ _ _ _ _ _ _ _ _ _ _ _ fHh rh hsh gh ro (by omega)
end
end Go.Proofs.Ythgflkfhjnbheaa.G14
end
section
namespace Go.Proofs.Ythgflkfhjnbheaa.G14
open Go Go.Proofs.Ythgflkfhjnbheaa.Eng
theorem zHm {α : Type} [DecidableEq α] (x y : α) (l m : List α) : decide (x :: l = y :: m) = (decide (x = y) && decide (l = m)):=by
 rw [Bool.eq_iff_iff,Bool.and_eq_true,decide_eq_true_eq,decide_eq_true_eq,decide_eq_true_eq,List.cons.injEq]
section
variable {H : zAb} {v w : AV} {xs ys : List Int} (gx : BS H v xs) (gy : BS H w ys) (lx : xs.length ≤ 1000000000000)
include gx gy lx
set_option maxHeartbeats 4000000 in
theorem eqLB (hl : xs.length = ys.length) (x2 x3 x6 x7 x8 x9 x10 x11 : AV) : ∀ (m i : Nat) (j5 j14 j15 j16 j17 j18 j19 j20 j21 j22 j23 j24 j25 : AV),i + m = xs.length →
  Outs (LP1 l39x0 [v,w,x2,x3,.bool false,j5,x6,x7,x8,x9,x10,x11,.int .i64 (xs.length : Int),.int .i64 (i : Int),j14,j15,j16,j17,j18,j19,j20,j21,j22,j23,j24,j25] H) fun e t K=>K = H ∧ ∃ fv : Nat → AV,t = [v,w,x2,x3,(fv 4),(fv 5),x6,x7,x8,x9,x10,x11,.int .i64 (xs.length : Int),(fv 13),(fv 14),(fv 15),(fv 16),(fv 17),(fv 18),(fv 19),(fv 20),(fv 21),(fv 22),(fv 23),(fv 24),(fv 25)] ∧ fv 4 = .bool false ∧ ((e = .exit 0 ∧ decide (xs.drop i = ys.drop i) = true) ∨ (e = .ret ∧ decide (xs.drop i = ys.drop i) = false)):=by
 intro m
 obtain ⟨L0,hL0⟩ : ∃ L,L = LP1 l39x0:=⟨_,rfl⟩
 have lo:=zAr hL0
 rw [← hL0]
 induction m with
 | zero =>
  intro i j5 j14 j15 j16 j17 j18 j19 j20 j21 j22 j23 j24 j25 hi
  obtain rfl : i = xs.length:=by omega
  have hd : decide ((xs.length : Int) < (xs.length : Int)) = false:=by simp
  have e : decide (xs.drop xs.length = ys.drop xs.length) = true:=by rw [List.drop_length,hl,List.drop_length]; rfl
  rw [e,lo]
  unfold l39x0
  simp -implicitDefEqProofs (maxSteps:=5000000) only [go_sem,simprocAttr,hd,zAh,zAc]
  exact exF2 rfl (by first | exact ⟨rfl,.inl rfl⟩ | exact ⟨rfl,trivial⟩ | rfl | exact ⟨rfl,.inl trivial⟩)
 | succ m ih =>
  intro i j5 j14 j15 j16 j17 j18 j19 j20 j21 j22 j23 j24 j25 hi
  have hlt : i < xs.length:=by omega
  have hd : decide ((i : Int) < (xs.length : Int)) = true:=decide_eq_true (by omega)
  have e2 : IntKind.i64.wrap ((i : Int) + 1) = ((i + 1 : Nat) : Int):=by rw [zAl (by omega) (by omega)]; omega
  have hx:=List.getElem?_eq_getElem hlt
  have hy:=List.getElem?_eq_getElem (show i < ys.length by omega)
  have key:=ih (i + 1)
  rw [List.drop_eq_getElem_cons hlt,List.drop_eq_getElem_cons (show i < ys.length by omega),zHm]
  generalize xs[i] = x at *
  generalize ys[i] = y at *
  obtain ⟨a1,ix,ld⟩:=gx.idx hx .i64
  obtain ⟨a2,iy,le⟩:=gy.idx hy .i64
  rw [lo]
  unfold l39x0
  by_cases h : x = y
  ·have hn : (x != y) = false:=by simp [h]
   rw [decide_eq_true h,Bool.true_and]
   simp -implicitDefEqProofs (maxSteps:=5000000) only [go_sem,simprocAttr,itr,itq,hd,ix,ld,iy,le,hn,e2]
   exact key _ _ _ _ _ _ _ _ _ _ _ _ _ (by omega)
  ·have hn : (x != y) = true:=bne_iff_ne.2 h
   rw [decide_eq_false h,Bool.false_and]
   simp -implicitDefEqProofs (maxSteps:=5000000) only [go_sem,simprocAttr,itr,itq,hd,ix,ld,iy,le,hn,zAi,zAc]
   exact exF2 rfl (by first | exact ⟨rfl,.inr rfl⟩ | exact ⟨rfl,trivial⟩ | rfl | exact ⟨rfl,.inr trivial⟩)
theorem eqCB : (envL prog).call 39 [v,w] H = some (.bool (decide (xs = ys)),H):=by
 have wx:=gx.len
 have wy:=gy.len
 by_cases hl : xs.length = ys.length
 case neg =>
  have hn : ((xs.length : Int) != (ys.length : Int)) = true:=bne_iff_ne.2 (by omega)
  rw [decide_eq_false (fun e=>hl (by rw [e])),c39]
  unfold b39
  simp -implicitDefEqProofs (maxSteps:=5000000) only [go_sem,simprocAttr,itr,itq,wx,wy,hn]
 have hn : ((xs.length : Int) != (ys.length : Int)) = false:=by simp [hl]
 have l0:=eqLB gx gy lx hl (m:=xs.length) (i:=0)
 rw [show ((0 : Nat) : Int) = 0 from rfl,List.drop_zero,List.drop_zero] at l0
 have key : Outs (runC (envL prog) (b39 (envL prog)) ([v,w] ++ List.replicate (26 - [v,w].length) .undef) H) fun e' t K=>K = H ∧ fin [.tmp 4] (some (e',t,K)) = some (.bool (decide (xs = ys)),K):=by
  unfold b39
  generalize hQ : (fun (e' : Ex) (t : T) (K : zAb)=>K = H ∧ fin [.tmp 4] (some (e',t,K)) = some (AV.bool (decide (xs = ys)),K)) = Q
  simp -implicitDefEqProofs (maxSteps:=5000000) only [go_sem,simprocAttr,itr,itq,zAj,wx,wy,hn]
  unfold LP1 at l0
  generalize (envL prog).loop (runC (envL prog) (l39x0 (envL prog))) = L0 at l0 ⊢
  refine zAq (fun r=>seqR (zAt 0 r) _) (l0 _ _ _ _ _ _ _ _ _ _ _ _ _ _ _ _ _ _ _ _ _ (by omega)) ?_
  rintro e t K ⟨rfl,fv,rfl,f4,⟨rfl,ho⟩ | ⟨rfl,ho⟩⟩
  ·rw [ho] at hQ
   simp -implicitDefEqProofs (maxSteps:=5000000) only [go_sem,simprocAttr,zAc]
   subst hQ
   refine ⟨rfl,?_⟩
   simp -implicitDefEqProofs (maxSteps:=5000000) only [go_sem,simprocAttr]
  ·rw [ho] at hQ
   simp -implicitDefEqProofs (maxSteps:=5000000) only [go_sem,simprocAttr,zAc]
   subst hQ
   refine ⟨rfl,?_⟩
   simp -implicitDefEqProofs (maxSteps:=5000000) only [go_sem,simprocAttr,f4]
 obtain ⟨e',t,K,hr,rfl,hf⟩:=key
 rw [c39,hr,hf]; exact zBw rfl
end
section
variable {H : zAb} {v w : AV} {xs ys : List Int} (gx : IS H v xs) (gy : IS H w ys) (lx : xs.length ≤ 1000000000000)
include gx gy lx
set_option maxHeartbeats 4000000 in
theorem eqLI (hl : xs.length = ys.length) (x2 x3 x6 x7 x8 x9 x10 x11 : AV) : ∀ (m i : Nat) (j5 j14 j15 j16 j17 j18 j19 j20 j21 j22 j23 j24 j25 : AV),i + m = xs.length →
  Outs (LP1 l59x0 [v,w,x2,x3,.bool false,j5,x6,x7,x8,x9,x10,x11,.int .i64 (xs.length : Int),.int .i64 (i : Int),j14,j15,j16,j17,j18,j19,j20,j21,j22,j23,j24,j25] H) fun e t K=>K = H ∧ ∃ fv : Nat → AV,t = [v,w,x2,x3,(fv 4),(fv 5),x6,x7,x8,x9,x10,x11,.int .i64 (xs.length : Int),(fv 13),(fv 14),(fv 15),(fv 16),(fv 17),(fv 18),(fv 19),(fv 20),(fv 21),(fv 22),(fv 23),(fv 24),(fv 25)] ∧ fv 4 = .bool false ∧ ((e = .exit 0 ∧ decide (xs.drop i = ys.drop i) = true) ∨ (e = .ret ∧ decide (xs.drop i = ys.drop i) = false)):=by
 intro m
 obtain ⟨L0,hL0⟩ : ∃ L,L = LP1 l59x0:=⟨_,rfl⟩
 have lo:=zAr hL0
 rw [← hL0]
 induction m with
 | zero =>
  intro i j5 j14 j15 j16 j17 j18 j19 j20 j21 j22 j23 j24 j25 hi
  obtain rfl : i = xs.length:=by omega
  have hd : decide ((xs.length : Int) < (xs.length : Int)) = false:=by simp
  have e : decide (xs.drop xs.length = ys.drop xs.length) = true:=by rw [List.drop_length,hl,List.drop_length]; rfl
  rw [e,lo]
  unfold l59x0
  simp -implicitDefEqProofs (maxSteps:=5000000) only [go_sem,simprocAttr,hd,zAh,zAc]
  exact exF2 rfl (by first | exact ⟨rfl,.inl rfl⟩ | exact ⟨rfl,trivial⟩ | rfl | exact ⟨rfl,.inl trivial⟩)
 | succ m ih =>
  intro i j5 j14 j15 j16 j17 j18 j19 j20 j21 j22 j23 j24 j25 hi
  have hlt : i < xs.length:=by omega
  have hd : decide ((i : Int) < (xs.length : Int)) = true:=decide_eq_true (by omega)
  have e2 : IntKind.i64.wrap ((i : Int) + 1) = ((i + 1 : Nat) : Int):=by rw [zAl (by omega) (by omega)]; omega
  have hx:=List.getElem?_eq_getElem hlt
  have hy:=List.getElem?_eq_getElem (show i < ys.length by omega)
  have key:=ih (i + 1)
  rw [List.drop_eq_getElem_cons hlt,List.drop_eq_getElem_cons (show i < ys.length by omega),zHm]
  generalize xs[i] = x at *
  generalize ys[i] = y at *
  obtain ⟨a1,ix,ld⟩:=gx.idx hx .i64
  obtain ⟨a2,iy,le⟩:=gy.idx hy .i64
  rw [lo]
  unfold l59x0
  by_cases h : x = y
  ·have hn : (x != y) = false:=by simp [h]
   rw [decide_eq_true h,Bool.true_and]
   simp -implicitDefEqProofs (maxSteps:=5000000) only [go_sem,simprocAttr,itr,itq,hd,ix,ld,iy,le,hn,e2]
   exact key _ _ _ _ _ _ _ _ _ _ _ _ _ (by omega)
  ·have hn : (x != y) = true:=bne_iff_ne.2 h
   rw [decide_eq_false h,Bool.false_and]
   simp -implicitDefEqProofs (maxSteps:=5000000) only [go_sem,simprocAttr,itr,itq,hd,ix,ld,iy,le,hn,zAi,zAc]
   exact exF2 rfl (by first | exact ⟨rfl,.inr rfl⟩ | exact ⟨rfl,trivial⟩ | rfl | exact ⟨rfl,.inr trivial⟩)
theorem eqCI : (envL prog).call 59 [v,w] H = some (.bool (decide (xs = ys)),H):=by
 have wx:=gx.len
 have wy:=gy.len
 by_cases hl : xs.length = ys.length
 case neg =>
  have hn : ((xs.length : Int) != (ys.length : Int)) = true:=bne_iff_ne.2 (by omega)
  rw [decide_eq_false (fun e=>hl (by rw [e])),c59]
  unfold b59
  simp -implicitDefEqProofs (maxSteps:=5000000) only [go_sem,simprocAttr,itr,itq,wx,wy,hn]
 have hn : ((xs.length : Int) != (ys.length : Int)) = false:=by simp [hl]
 have l0:=eqLI gx gy lx hl (m:=xs.length) (i:=0)
 rw [show ((0 : Nat) : Int) = 0 from rfl,List.drop_zero,List.drop_zero] at l0
 have key : Outs (runC (envL prog) (b59 (envL prog)) ([v,w] ++ List.replicate (26 - [v,w].length) .undef) H) fun e' t K=>K = H ∧ fin [.tmp 4] (some (e',t,K)) = some (.bool (decide (xs = ys)),K):=by
  unfold b59
  generalize hQ : (fun (e' : Ex) (t : T) (K : zAb)=>K = H ∧ fin [.tmp 4] (some (e',t,K)) = some (AV.bool (decide (xs = ys)),K)) = Q
  simp -implicitDefEqProofs (maxSteps:=5000000) only [go_sem,simprocAttr,itr,itq,zAj,wx,wy,hn]
  unfold LP1 at l0
  generalize (envL prog).loop (runC (envL prog) (l59x0 (envL prog))) = L0 at l0 ⊢
  refine zAq (fun r=>seqR (zAt 0 r) _) (l0 _ _ _ _ _ _ _ _ _ _ _ _ _ _ _ _ _ _ _ _ _ (by omega)) ?_
  rintro e t K ⟨rfl,fv,rfl,f4,⟨rfl,ho⟩ | ⟨rfl,ho⟩⟩
  ·rw [ho] at hQ
   simp -implicitDefEqProofs (maxSteps:=5000000) only [go_sem,simprocAttr,zAc]
   subst hQ
   refine ⟨rfl,?_⟩
   simp -implicitDefEqProofs (maxSteps:=5000000) only [go_sem,simprocAttr]
  ·rw [ho] at hQ
   simp -implicitDefEqProofs (maxSteps:=5000000) only [go_sem,simprocAttr,zAc]
   subst hQ
   refine ⟨rfl,?_⟩
   simp -implicitDefEqProofs (maxSteps:=5000000) only [go_sem,simprocAttr,f4]
 obtain ⟨e',t,K,hr,rfl,hf⟩:=key
 rw [c59,hr,hf]; exact zBw rfl
end
theorem zPp {H : zAb} {v : AV} {zs : List Int} (b : BS H v zs) (h0 : zs ≠ []) (hn : zs.length ≤ 100000) : (envL prog).call 32 [v] H = some (.ptr (H.length + 2) 0,H ++ [ABlk.rw [],.rw (u8s zs),.rw [rdV (H.length + 1) 0 zs.length]]):=by
 obtain ⟨w,G,o,ec⟩:=Bt.cloneC b hn
 obtain ⟨rfl,rfl⟩:=zR6 o h0
 rw [show rdV (H.length + 1) 0 zs.length = .sl (H.length + 1) 0 1 zs.length zs.length false from rfl,c32]
 unfold b32
 simp -implicitDefEqProofs (maxSteps:=5000000) only [go_sem,simprocAttr,itr,itq,ec]
end Go.Proofs.Ythgflkfhjnbheaa.G14
end
section
namespace Go.Proofs.Ythgflkfhjnbheaa.G14
open Go Go.Proofs.Ythgflkfhjnbheaa.Eng
theorem zK0 {nb b : Nat} : ∀ {k : Nat} {z : List Int} {s : SnS},s ∈ zDu nb b k z → ∃ i,s = snOf nb b (z.drop i)
 | 0,z,s,h=>by unfold zDu at h; cases h
 | k + 1,z,s,h=>by
  unfold zDu at h
  rcases List.mem_cons.1 h with rfl | h
  ·exact ⟨0,by rw [List.drop_zero]⟩
  ·obtain ⟨i,rfl⟩:=zK0 h
   exact ⟨_,by rw [List.drop_drop]⟩
theorem zNz (z : List Int) : (unmS z).length ≤ z.length:=zMp z 0
theorem sn_fit {nb b i : Nat} {z : List Int} (uz : IsU8 z) (hn : nb ≤ 1000) (hb : b ≤ 1000) : (snOf nb b (z.drop i)).Fit:=by
 refine ⟨fun x hx=>uz x (List.mem_of_mem_drop (List.mem_of_mem_drop (List.mem_of_mem_take hx))),?_,?_⟩
 ·show ((((z.drop i).drop 4).take nb)).length ≤ 1000
  rw [List.length_take]; omega
 ·show (unmS (((z.drop i).drop (4 + nb)).take b)).length ≤ 1000
  have:=zNz (((z.drop i).drop (4 + nb)).take b)
  rw [List.length_take] at this; omega
theorem raw_fit {n nb b : Nat} {z : List Int} (uz : IsU8 z) (hn : nb ≤ 1000) (hb : b ≤ 1000) : FitS (rawT n nb b z):=by
 refine ⟨⟨?_,fun s hs=>?_⟩,?_⟩
 ·show ((zDu nb b 8 (z.drop (10 + n))).take _).length ≤ _
  have:=zFq nb b 8 (z.drop (10 + n))
  rw [List.length_take]; omega
 ·obtain ⟨i,rfl⟩:=zK0 (List.mem_of_mem_take hs)
  rw [List.drop_drop]
  exact sn_fit uz hn hb
 ·show (unmS ((z.drop _).take b)).length ≤ 1000
  have:=zNz ((z.drop (10 + n + 8 * (4 + nb + b))).take b)
  rw [List.length_take] at this; omega
theorem zRy {n nb b : Nat} {z : List Int} {c : Int} (h : z[4]? = some c) : (rawT n nb b z).snaps = (zDu nb b 8 (z.drop (10 + n))).take (min 8 c.toNat):=by
 show (zDu nb b 8 (z.drop (10 + n))).take ((z[4]?).getD 0).toNat = _
 rw [h,Option.getD_some]
 have:=zFq nb b 8 (z.drop (10 + n))
 by_cases h8 : c.toNat ≤ 8
 ·rw [Nat.min_eq_right h8]
 ·rw [Nat.min_eq_left (by omega),List.take_of_length_le (by omega),List.take_of_length_le (by omega)]
theorem zLg {n nb b : Nat} {z : List Int} : (rawT n nb b z).dirty = ((z.drop 10).take n).map (· - 1):=rfl
theorem zRz {n nb b : Nat} {z : List Int} : (rawT n nb b z).pairs = unmS ((z.drop (10 + n + 8 * (4 + nb + b))).take b):=rfl
end Go.Proofs.Ythgflkfhjnbheaa.G14
end
section
namespace Go.Proofs.Ythgflkfhjnbheaa.G14
open Go Go.Proofs.Ythgflkfhjnbheaa.Eng
def zIk (n nb b : Nat) : Nat:=10 + n + 8 * (4 + nb + b) + b
theorem zJ0 {b : Int} (h : 1 ≤ b ∧ b ≤ 64) : Bt.newN b = ((b + 7) / 8).toNat ∧ 1 ≤ Bt.newN b ∧ Bt.newN b ≤ 8:=by
 unfold Bt.newN
 rw [if_neg (by omega)]
 exact ⟨rfl,by omega,by omega⟩
theorem zOy {b s w a : Int} (g : Geo b s w a) : Gm.bytesW b s w = (zIk (s * w).toNat (Bt.newN b) b.toNat : Int):=by
 obtain ⟨n,hn,n1,n2⟩:=g.sw
 obtain ⟨e1,e2,e3⟩:=zJ0 g.b1
 have b1:=g.b1
 have q : (IntKind.i64.wrap (b + 7)).tdiv 8 = (b + 7) / 8:=by
  rw [zAl (by omega) (by omega),Int.tdiv_eq_ediv_of_nonneg (by omega)]
 have q2 : (b + 7) / 8 = (Bt.newN b : Int):=by rw [e1]; omega
 unfold Gm.bytesW zIk
 rw [q,q2,hn,Int.toNat_natCast]
 generalize Bt.newN b = nb at *
 rw [zAl (show -9223372036854775808 ≤ (nb : Int) by omega) (by omega),zAl (show -9223372036854775808 ≤ (n : Int) by omega) (by omega)]
 rw [zAl (n:=4 + (nb : Int)) (by omega) (by omega),zAl (n:=4 + (nb : Int) + b) (by omega) (by omega),zAl (n:=8 * (4 + (nb : Int) + b)) (by omega) (by omega),zAl (n:=10 + (n : Int)) (by omega) (by omega),zAl (n:=10 + (n : Int) + b) (by omega) (by omega),zAl (by omega) (by omega)]
 omega
section
variable {b s w a r : Int} {H : zAb} {v : AV} {z : List Int} (bz : BS H v z)
include bz
end
end Go.Proofs.Ythgflkfhjnbheaa.G14
end
section
namespace Go.Proofs.Ythgflkfhjnbheaa.G14
open Go Go.Proofs.Ythgflkfhjnbheaa.Eng
theorem decHead {zs : List Int} (uz : IsU8 zs) (lz : zs.length ≤ 100000) {K : zAb} {p B c : Nat} (r : RdS K p B 0 zs) (hc : cellsOf K c = some [.ptr p 0]) (cp : c ≠ p) (h10 : 10 ≤ zs.length) {n1 c4 kd pid : Int} (q1 : n1 = getS ((zs.drop 0).take 4)) (q2 : c4 = getS ((zs.drop 4).take 1)) (q3 : kd = getS ((zs.drop 5).take 1)) (q4 : pid = getS ((zs.drop 6).take 4)) : ∃ A1 A2 A3 A4 H5 H6,
  (envL prog).call 33 [.int .i64 4,.ptr c 0] K = some (.int .i64 n1,A1) ∧ A1.length = K.length ∧
  (envL prog).call 33 [.int .i64 1,.ptr c 0] (A1 ++ [ABlk.rw [.nilSl,.nilSl,.int .i64 n1,.int .i64 0,.int .i64 0,.nilSl]]) = some (.int .i64 c4,A2) ∧
  (envL prog).call 33 [.int .i64 1,.ptr c 0] A2 = some (.int .i64 kd,A3) ∧
  (envL prog).call 33 [.int .i64 4,.ptr c 0] A3 = some (.int .i64 pid,A4) ∧
  zA4 A4 K.length 3 [.int .i64 kd] = some H5 ∧ zA4 H5 K.length 4 [.int .i64 pid] = some H6 ∧
  Fr K H6 (· = p) ∧ RdS H6 p B 10 zs ∧ H6[K.length]? = some (.rw [.nilSl,.nilSl,.int .i64 n1,.int .i64 kd,.int .i64 pid,.nilSl]) ∧ H6.length = K.length + 1:=by
 have lp:=zBb r.pt
 have lB:=zBb r.bt
 have e1:=zP0 r (m:=4) (by omega) (by omega) lz (by omega) uz hc
 obtain ⟨A1,hA1⟩ : ∃ A1,A1 = K.set p (.rw [rdV B (0 + 4) zs.length]):=⟨_,rfl⟩
 have r1 : RdS A1 p B 4 zs:=by rw [hA1]; exact r.next
 have f1 : Fr K A1 (· = p):=by rw [hA1]; exact Fr.set _ _ rfl
 have l1 : A1.length = K.length:=by rw [hA1]; simp
 rw [← hA1,← q1,show ((4 : Nat) : Int) = 4 from rfl] at e1
 obtain ⟨H4,hH4⟩ : ∃ H4,H4 = A1 ++ [ABlk.rw [.nilSl,.nilSl,.int .i64 n1,.int .i64 0,.int .i64 0,.nilSl]]:=⟨_,rfl⟩
 have a4 : Adds A1 H4:=⟨_,hH4⟩
 have f4 : Fr K H4 (· = p):=f1.trans (Fr.adds a4 _) fun _ _ h=>h
 have l4 : H4.length = K.length + 1:=by rw [hH4]; simp [l1]
 have s4 : H4[K.length]? = some (.rw [.nilSl,.nilSl,.int .i64 n1,.int .i64 0,.int .i64 0,.nilSl]):=by rw [hH4,← l1]; simp
 have e2:=zP0 (r1.adds a4) (m:=1) (by omega) (by omega) lz (by omega) uz (f4.cells hc cp)
 obtain ⟨A2,hA2⟩ : ∃ A2,A2 = H4.set p (.rw [rdV B (4 + 1) zs.length]):=⟨_,rfl⟩
 have r2 : RdS A2 p B 5 zs:=by rw [hA2]; exact (r1.adds a4).next
 have f2 : Fr H4 A2 (· = p):=by rw [hA2]; exact Fr.set _ _ rfl
 rw [← hA2,← q2,show ((1 : Nat) : Int) = 1 from rfl] at e2
 have g2 : Fr K A2 (· = p):=f4.trans f2 fun _ _ h=>h
 have e3:=zP0 r2 (m:=1) (by omega) (by omega) lz (by omega) uz (g2.cells hc cp)
 obtain ⟨A3,hA3⟩ : ∃ A3,A3 = A2.set p (.rw [rdV B (5 + 1) zs.length]):=⟨_,rfl⟩
 have r3 : RdS A3 p B 6 zs:=by rw [hA3]; exact r2.next
 have f3 : Fr A2 A3 (· = p):=by rw [hA3]; exact Fr.set _ _ rfl
 rw [← hA3,← q3,show ((1 : Nat) : Int) = 1 from rfl] at e3
 have g3 : Fr K A3 (· = p):=g2.trans f3 fun _ _ h=>h
 have e4:=zP0 r3 (m:=4) (by omega) (by omega) lz (by omega) uz (g3.cells hc cp)
 obtain ⟨A4,hA4⟩ : ∃ A4,A4 = A3.set p (.rw [rdV B (6 + 4) zs.length]):=⟨_,rfl⟩
 have r4 : RdS A4 p B 10 zs:=by rw [hA4]; exact r3.next
 have f5 : Fr A3 A4 (· = p):=by rw [hA4]; exact Fr.set _ _ rfl
 rw [← hA4,← q4,show ((4 : Nat) : Int) = 4 from rfl] at e4
 have g4 : Fr K A4 (· = p):=g3.trans f5 fun _ _ h=>h
 have lA4 : A4.length = K.length + 1:=by rw [hA4,hA3,hA2]; simp [l4]
 have sA : A4[K.length]? = some (.rw [.nilSl,.nilSl,.int .i64 n1,.int .i64 0,.int .i64 0,.nilSl]):=f5.at (f3.at (f2.at s4 (by omega)) (by omega)) (by omega)
 have w5 : zA4 A4 K.length 3 [.int .i64 kd] = some (A4.set K.length (.rw [.nilSl,.nilSl,.int .i64 n1,.int .i64 kd,.int .i64 0,.nilSl])):=by
  rw [zA5 sA,if_pos ⟨by simp,rfl⟩]; rfl
 obtain ⟨H5,hH5⟩ : ∃ H5,H5 = A4.set K.length (.rw [.nilSl,.nilSl,.int .i64 n1,.int .i64 kd,.int .i64 0,.nilSl]):=⟨_,rfl⟩
 rw [← hH5] at w5
 have s5 : H5[K.length]? = some (.rw [.nilSl,.nilSl,.int .i64 n1,.int .i64 kd,.int .i64 0,.nilSl]):=by rw [hH5]; exact zBf _ _ _ (by omega)
 have w6 : zA4 H5 K.length 4 [.int .i64 pid] = some (H5.set K.length (.rw [.nilSl,.nilSl,.int .i64 n1,.int .i64 kd,.int .i64 pid,.nilSl])):=by
  rw [zA5 s5,if_pos ⟨by simp,rfl⟩]; rfl
 have l5 : H5.length = K.length + 1:=by rw [hH5]; simp [lA4]
 have f6 : Fr A4 (H5.set K.length (.rw [.nilSl,.nilSl,.int .i64 n1,.int .i64 kd,.int .i64 pid,.nilSl])) (· = K.length):=by
  rw [hH5]; exact (Fr.set (F:=(· = K.length)) _ _ rfl).trans (Fr.set (F:=(· = K.length)) _ _ rfl) fun _ _ h=>h
 exact ⟨A1,A2,A3,A4,H5,_,e1,l1,by rw [← hH4]; exact e2,e3,e4,w5,w6,g4.trans f6 (fun z hz h=>by omega),Fr.rd r4 f6 (by omega) (by omega),zBf _ _ _ (by omega),by simp [l5]⟩
end Go.Proofs.Ythgflkfhjnbheaa.G14
end
section
namespace Go.Proofs.Ythgflkfhjnbheaa.G14
open Go Go.Proofs.Ythgflkfhjnbheaa.Eng
section
variable {s w a r : Int} {bN n nb : Nat} {H : zAb} {v : AV} {z : List Int} (bz : BS H v z) (uz : IsU8 z) (hg : Gm.goodB (bN : Int) s w a r = true) (hn : s * w = (n : Int)) (hnb : Bt.newN (bN : Int) = nb) (hlen : z.length = zIk n nb bN)
include bz uz hg hn hnb hlen
set_option maxHeartbeats 32000000 in
theorem decodeC : ∃ K,Adds H K ∧ ((zCt bN s w a (rawT n nb bN z) = true ∧ encT bN (rawT n nb bN z) = z ∧ ∃ vd vs vp,(envL prog).call 11 [.agg [.int .i64 (bN : Int),.int .i64 s,.int .i64 w,.int .i64 a,.int .i64 r],v] H = some (.tup [.agg [vd,vs,.int .i64 (rawT n nb bN z).next,.int .i64 (rawT n nb bN z).kind,.int .i64 (rawT n nb bN z).pid,vp],.int .i64 0],K) ∧ ∀ K',Fr K K' (· < H.length) → StA K' vd vs vp (rawT n nb bN z)) ∨ (¬ (zCt bN s w a (rawT n nb bN z) = true ∧ encT bN (rawT n nb bN z) = z) ∧ (envL prog).call 11 [.agg [.int .i64 (bN : Int),.int .i64 s,.int .i64 w,.int .i64 a,.int .i64 r],v] H = some (.tup [.agg [.nilSl,.nilSl,.int .i64 0,.int .i64 0,.int .i64 0,.nilSl],.int .i64 11],K))):=by
 have gg:=zF5 hg
 obtain ⟨n',hn',n1,n2⟩:=gg.sw
 obtain rfl : n = n':=by omega
 obtain ⟨_,nb1,nb2⟩:=zJ0 gg.b1
 rw [hnb] at nb1 nb2
 have bb:=gg.b1
 have eg:=Gm.goodL bN s w a r
 have eb:=Gm.bytesG bN s w a r
 unfold Gm.geo at eg eb
 unfold Gm.byB at eb
 rw [hg,cond_true,zOy gg,hn,hnb,Int.toNat_natCast,Int.toNat_natCast,← hlen] at eb
 rw [hg] at eg
 unfold zIk at hlen
 have wl:=bz.len
 have hne : ((z.length : Int) != (z.length : Int)) = false:=by simp
 have wm : IntKind.i64.wrap (s * w) = (n : Int):=by rw [zAl (by omega) (by omega)]; exact hn
 have fit:=raw_fit (n:=n) uz (show nb ≤ 1000 by omega) (show bN ≤ 1000 by omega)
 obtain ⟨c4,hc4⟩ : ∃ c4,z[4]? = some c4:=⟨_,List.getElem?_eq_getElem (by omega)⟩
 obtain ⟨kd,hkd⟩ : ∃ c,z[5]? = some c:=⟨_,List.getElem?_eq_getElem (by omega)⟩
 have u4:=uz _ (List.mem_of_getElem? hc4)
 have u5:=uz _ (List.mem_of_getElem? hkd)
 obtain ⟨cnt,rfl⟩ : ∃ cnt : Nat,c4 = cnt:=⟨c4.toNat,by omega⟩
 have rs:=zRy (n:=n) (nb:=nb) (b:=bN) hc4
 rw [Int.toNat_natCast] at rs
 have rk : (rawT n nb bN z).kind = kd:=by show (z[5]?).getD 0 = kd; rw [hkd]; rfl
 obtain ⟨H1,hH1⟩ : ∃ H1,H1 = H ++ [ABlk.rw [.int .i64 (bN : Int),.int .i64 s,.int .i64 w,.int .i64 a,.int .i64 r],.rw [.nilSl,.nilSl,.int .i64 0,.int .i64 0,.int .i64 0,.nilSl]]:=⟨_,rfl⟩
 have A1 : Adds H H1:=⟨_,hH1⟩
 have l1 : H1.length = H.length + 2:=by rw [hH1]; simp
 have c0 : cellsOf H1 H.length = some [.int .i64 (bN : Int),.int .i64 s,.int .i64 w,.int .i64 a,.int .i64 r]:=by rw [hH1]; unfold cellsOf; simp
 have b0 : H1[H.length + 1]? = some (.rw [.nilSl,.nilSl,.int .i64 0,.int .i64 0,.int .i64 0,.nilSl]):=by rw [hH1]; simp
 have en:=zPp (A1.bs bz) (fun e=>by rw [e,List.length_nil] at hlen; omega) (by omega)
 obtain ⟨H2,hH2⟩ : ∃ H2,H2 = H1 ++ [ABlk.rw [],.rw (u8s z),.rw [rdV (H1.length + 1) 0 z.length]]:=⟨_,rfl⟩
 have l2 : H2.length = H1.length + 3:=by rw [hH2]; simp
 rw [← hH2] at en
 obtain ⟨H3,hH3⟩ : ∃ H3,H3 = H2 ++ [ABlk.rw [.ptr (H1.length + 2) 0]]:=⟨_,rfl⟩
 have l3 : H3.length = H1.length + 4:=by rw [hH3]; simp [l2]
 have A13 : Adds H1 H3:=⟨[ABlk.rw [],.rw (u8s z),.rw [rdV (H1.length + 1) 0 z.length]] ++ [ABlk.rw [.ptr (H1.length + 2) 0]],by rw [hH3,hH2,List.append_assoc]⟩
 have r3 : RdS H3 (H1.length + 2) (H1.length + 1) 0 z:=⟨by rw [hH3,List.getElem?_append_left (by omega),hH2,List.getElem?_append_right (by omega),show H1.length + 2 - H1.length = 2 by omega]; rfl,by rw [hH3,List.getElem?_append_left (by omega),hH2,List.getElem?_append_right (by omega),show H1.length + 1 - H1.length = 1 by omega]; rfl,by omega⟩
 have cc : cellsOf H3 H2.length = some [.ptr (H1.length + 2) 0]:=by rw [hH3]; unfold cellsOf; simp
 obtain ⟨B1,B2,B3,B4,H5,H6,e1,lB1,e2,e3,e4,w5,w6,f6,r6,s6,l6⟩:=decHead uz (by omega) r3 cc (by omega) (by omega) (n1:=(rawT n nb bN z).next) (c4:=cnt) (kd:=kd) (pid:=(rawT n nb bN z).pid) rfl (zNb hc4 (by omega)).symm (zNb hkd (by omega)).symm rfl
 generalize hnx : (rawT n nb bN z).next = nx at *
 generalize hpd : (rawT n nb bN z).pid = pd at *
 have hH1:=hH1.symm
 have hH2:=hH2.symm
 have hH3:=hH3.symm
 have cc6:=f6.cells cc (by show ¬ H2.length = H1.length + 2; omega)
 have cq6:=f6.cells (A13.cells c0) (by show ¬ H.length = H1.length + 2; omega)
 have l0:=decL0 (H:=H6) (p:=H1.length + 2) (B:=H1.length + 1) (c:=H2.length) (sb:=H3.length) (nx:=nx) (kd:=kd) (pd:=pd) uz (by omega) cc6 ⟨by omega,by omega,by omega,by omega⟩ ⟨by omega,by omega,by omega⟩ (k0:=10) (n:=n) (by omega) (m:=n) (i:=0) (K:=H6) (vd:=.nilSl)
 rw [show ((0 : Nat) : Int) = 0 from rfl] at l0
 have cs6:=zAm s6
 have w0 : zA4 (B1 ++ [ABlk.rw [.nilSl,.nilSl,.int .i64 0,.int .i64 0,.int .i64 0,.nilSl]]) H3.length 0 [.nilSl,.nilSl,.int .i64 nx,.int .i64 0,.int .i64 0,.nilSl] = some (B1 ++ [ABlk.rw [.nilSl,.nilSl,.int .i64 nx,.int .i64 0,.int .i64 0,.nilSl]]):=by
  rw [← lB1,zDz,if_pos ⟨by simp,rfl⟩]; rfl
 have key : Outs (runC (envL prog) (b11 (envL prog)) ([.agg [.int .i64 (bN : Int),.int .i64 s,.int .i64 w,.int .i64 a,.int .i64 r],v] ++ List.replicate (112 - [AV.agg [.int .i64 (bN : Int),.int .i64 s,.int .i64 w,.int .i64 a,.int .i64 r],v].length) .undef) H) fun e' t K=>Adds H K ∧ ((zCt bN s w a (rawT n nb bN z) = true ∧ encT bN (rawT n nb bN z) = z ∧ ∃ vd vs vt,fin [.cell 4 6 true,.tmp 5] (some (e',t,K)) = some (.tup [.agg [vd,vs,.int .i64 nx,.int .i64 kd,.int .i64 pd,vt],.int .i64 0],K) ∧ (∀ K',Fr K K' (· < H.length) → StA K' vd vs vt (rawT n nb bN z)) ∧ vd.under H.length = false) ∨ (¬ (zCt bN s w a (rawT n nb bN z) = true ∧ encT bN (rawT n nb bN z) = z) ∧ fin [.cell 4 6 true,.tmp 5] (some (e',t,K)) = some (.tup [.agg [.nilSl,.nilSl,.int .i64 0,.int .i64 0,.int .i64 0,.nilSl],.int .i64 11],K))):=by
  unfold b11
  generalize hQ : (fun (e' : Ex) (t : T) (K : zAb)=>Adds H K ∧ ((zCt bN s w a (rawT n nb bN z) = true ∧ encT bN (rawT n nb bN z) = z ∧ ∃ vd vs vt,fin [.cell 4 6 true,.tmp 5] (some (e',t,K)) = some (.tup [.agg [vd,vs,.int .i64 nx,.int .i64 kd,.int .i64 pd,vt],.int .i64 0],K) ∧ (∀ K',Fr K K' (· < H.length) → StA K' vd vs vt (rawT n nb bN z)) ∧ vd.under H.length = false) ∨ (¬ (zCt bN s w a (rawT n nb bN z) = true ∧ encT bN (rawT n nb bN z) = z) ∧ fin [.cell 4 6 true,.tmp 5] (some (e',t,K)) = some (.tup [.agg [.nilSl,.nilSl,.int .i64 0,.int .i64 0,.int .i64 0,.nilSl],.int .i64 11],K)))) = Q
  simp -implicitDefEqProofs (maxSteps:=5000000) only [go_sem,simprocAttr,itr,itq,zGh,zAj,hH1,c0,eg,wl,eb,hne,en,hH3,e1,lB1,w0,e2,e3,e4,w5,w6,zBa,cq6,wm]
  unfold LP1 at l0
  generalize (envL prog).loop (runC (envL prog) (l11x0 (envL prog))) = L0 at l0 ⊢
  refine zAq (fun r=>seqR (zAt 1 r) _) (l0 _ _ _ _ _ _ _ _ _ _ _ _ _ _ _ _ _ _ _ _ _ _ _ _ _ _ _ _ _ _ _ _ _ _ _ _ _ _ _ _ _ _ _ _ _ _ _ _ _ _ _ _ _ _ _ _ _ _ _ _ _ _ _ _ _ _ _ _ _ _ _ _ _ _ _ _ _ _ _ _ _ _ _ _ _ _ _ _ _ _ _ _ _ _ _ _ _ _ _ _ _ _ _ _ _ _ _ _ (Fr.refl _ _) r6 s6 (.inl ⟨rfl,rfl⟩) (by omega)) ?_
  rintro e t K7 ⟨rfl,⟨vd,f7,r7,s7,g7⟩,fv,rfl⟩
  have k7:=f7.1
  have cc7:=f7.cells cc6 (by rintro (h | h) <;> omega)
  have cq7:=f7.cells cq6 (by rintro (h | h) <;> omega)
  have l1:=decL1 (H:=K7) (p:=H1.length + 2) (B:=H1.length + 1) (c:=H2.length) (sb:=H3.length) (q:=H.length) (nb:=nb) (b:=bN) (k1:=10 + n) (cnt:=cnt) (nx:=nx) (kd:=kd) (pd:=pd) (vd:=vd) uz (by omega) cc7 cq7 ⟨by omega,by omega,by omega,by omega,by omega,by omega⟩ ⟨by omega,by omega,by omega⟩ hnb nb1 (by omega) (by omega) (FS.cell g7).2 (by omega) (m:=8) (i:=0) (K:=K7) (vs:=.nilSl) (rows:=[])
  rw [show ((0 : Nat) : Int) = 0 from rfl,Nat.zero_mul,Nat.add_zero] at l1
  simp -implicitDefEqProofs (maxSteps:=5000000) only [go_sem,simprocAttr,itr,itq,zAj]
  unfold LP1 at l1
  generalize (envL prog).loop (runC (envL prog) (l11x1 (envL prog))) = L1 at l1 ⊢
  refine zAq (fun r=>seqR (zAt 3 r) _) (l1 _ _ _ _ _ _ _ _ _ _ _ _ _ _ _ _ _ _ _ _ _ _ _ _ _ _ _ _ _ _ _ _ _ _ _ _ _ _ _ _ _ _ _ _ _ _ _ _ _ _ _ _ _ _ _ _ _ _ _ _ _ _ _ _ _ _ _ _ _ _ _ _ _ _ _ _ _ _ _ _ _ _ _ _ _ _ _ _ _ _ _ _ _ _ _ _ _ _ _ _ _ _ _ _ _ _ (Fr.refl _ _) r7 s7 (by rw [Nat.zero_min,List.take_zero]; exact Gc.nil _ _) (fun r hr=>by cases hr) (by omega)) ?_
  rintro e t K8 ⟨rfl,⟨vs,rows,f8,r8,s8,g8,o8⟩,fw,rfl⟩
  rw [← rs] at g8
  have k8:=f8.1
  have cc8:=f8.cells cc7 (by rintro (h | h) <;> omega)
  have cq8:=f8.cells cq7 (by rintro (h | h) <;> omega)
  have e9:=dec2C r8 (m:=bN) (by omega) (by omega) (by omega) cc8
  obtain ⟨K9,hK9⟩ : ∃ K9,K9 = (K8 ++ [ABlk.rw [],.rw (u8s ((z.drop (10 + n + 8 * (4 + nb + bN))).take bN))]).set (H1.length + 2) (.rw [rdV (H1.length + 1) (10 + n + 8 * (4 + nb + bN) + bN) z.length]):=⟨_,rfl⟩
  rw [← hK9] at e9
  have f9 : Fr K8 K9 (· = H1.length + 2):=by rw [hK9]; exact (Fr.adds ⟨_,rfl⟩ _).trans (Fr.set (F:=(· = H1.length + 2)) _ _ rfl) fun _ _ h=>h
  have l9 : K9.length = K8.length + 2:=by rw [hK9]; simp
  have t9 : K9[K8.length + 1]? = some (.rw (u8s ((z.drop (10 + n + 8 * (4 + nb + bN))).take bN))):=by rw [hK9,zAn _ _ _ _ (by omega)]; simp
  have lt9 : ((z.drop (10 + n + 8 * (4 + nb + bN))).take bN).length = bN:=by rw [List.length_take,List.length_drop]; omega
  have e10:=zR5 (.sl (K8.length + 1) 0 1 bN bN false) ⟨rfl,rfl⟩ K9
  obtain ⟨K10,hK10⟩ : ∃ K10,K10 = K9 ++ [ABlk.rw [.sl (K8.length + 1) 0 1 bN bN false]]:=⟨_,rfl⟩
  have A10 : Adds K9 K10:=⟨_,hK10⟩
  have l10 : K10.length = K9.length + 1:=by rw [hK10]; simp
  have bt : BS K10 (.sl (K8.length + 1) 0 1 bN bN false) ((z.drop (10 + n + 8 * (4 + nb + bN))).take bN):=by
   have:=BS.block (l:=bN) (e:=false) (A10.at t9)
   rwa [lt9] at this
  obtain ⟨vt,K11,e11,A11,gt⟩:=zOt bt (fun y hy=>uz y (List.mem_of_mem_drop (List.mem_of_mem_take hy))) (by omega) (c:=K9.length) (by rw [hK10]; unfold cellsOf; simp)
  rw [← hK10] at e10
  have l11:=A11.len
  have s11 : K11[H3.length]? = some (.rw [vd,vs,.int .i64 nx,.int .i64 kd,.int .i64 pd,.nilSl]):=(A10.trans A11).at (f9.at s8 (by show ¬ H3.length = H1.length + 2; omega))
  have ct:=gt.isP.cell
  have w12 : zA4 K11 H3.length 5 [vt] = some (K11.set H3.length (.rw [vd,vs,.int .i64 nx,.int .i64 kd,.int .i64 pd,vt])):=by
   rw [zA5 s11,if_pos ⟨by simp,by simp [ct.2]⟩]; rfl
  obtain ⟨K12,hK12⟩ : ∃ K12,K12 = K11.set H3.length (.rw [vd,vs,.int .i64 nx,.int .i64 kd,.int .i64 pd,vt]):=⟨_,rfl⟩
  rw [← hK12] at w12
  have f12 : Fr K8 K12 (fun x=>x = H1.length + 2 ∨ x = H3.length):=by
   rw [hK12]
   exact ((f9.trans (Fr.adds (A10.trans A11) (· = H1.length + 2)) fun _ _ h=>h).2 |> fun q=>⟨by simp; omega,fun x hx hn=>by
    rw [zAn _ _ _ _ (fun h=>hn (.inr h))]; exact q x hx fun h=>hn (.inl h)⟩)
  have o7:=FS.out g7
  have og8:=g8.g.out
  have ogt:=gt.out
  have mkSt : ∀ {K' : zAb},Fr K12 K' (· < H1.length) → StA K' vd vs vt (rawT n nb bN z):=by
   intro K' f'
   have f13 : Fr K8 K' (fun x=>(x = H1.length + 2 ∨ x = H3.length) ∨ x < H1.length):=(f12.mono fun _ _ h=>.inl h).trans f' fun _ _ h=>.inr h
   refine ⟨?_,?_,?_,?_⟩
   ·rw [zLg]
    have h1:=FS.is ((g7.frT f8 fun x hx h=>by have:=(o7 x hx).1; omega).frT f13 fun x hx h=>by have:=(o7 x hx).1; omega)
    exact h1
   ·intro b o s' n' l e he
    rcases g7 with ⟨_,rfl⟩ | ⟨_,_,_,rfl,_⟩
    ·cases he
    ·injection he; omega
   ·exact (g8.frT f13 (fun x hx h=>by have:=(og8 x hx).1; omega) fun r hr y hy x hx h=>by have:=o8 r hr y hy x hx; omega).isC
   ·rw [zRz]
    have h1:=gt.isP.fr (((Fr.set (F:=(· = H3.length)) K11 (.rw [vd,vs,.int .i64 nx,.int .i64 kd,.int .i64 pd,vt]) rfl).mono (G:=fun x=>x = H3.length ∨ x < H1.length) fun _ _ h=>.inl h).trans (hK12 ▸ f') fun _ _ h=>.inr h) fun x hx h=>by have:=(ogt x hx).1; omega
    exact h1
  have st:=mkSt (Fr.refl _ _)
  have ff : Fr H1 K12 (fun x=>x = H1.length + 2 ∨ x = H3.length):=((((Fr.adds A13 _).trans f6 fun _ _ h=>.inl h).trans f7 fun _ _ h=>h).trans f8 fun _ _ h=>h).trans f12 fun _ _ h=>h
  have a12 : Adds H K12:=ff.old A1 fun b hb h=>by rcases h with h | h <;> omega
  have b12:=ff.at b0 (by rintro (h | h) <;> omega)
  have q12:=f12.cells cq8 (by rintro (h | h) <;> omega)
  have c12 : cellsOf K12 H3.length = some [vd,vs,.int .i64 nx,.int .i64 kd,.int .i64 pd,vt]:=zAm (by rw [hK12]; exact zBf _ _ _ (zBb s11))
  have lD : (rawT n nb bN z).dirty.length ≤ 9223372036854775807:=by rw [zLg,List.length_map,List.length_take]; omega
  have cd:=FS.cell g7
  have cs:=g8.isC.cell
  have ud : vd.under H.length = false:=by
   rcases g7 with ⟨e,_⟩ | ⟨_,b,hb,rfl,_⟩
   ·have:=congrArg List.length e
    rw [List.length_map,List.length_map,List.length_take,List.length_drop,List.length_nil] at this
    omega
   ·simp [AV.under]; omega
  have wr : ∀ {K : zAb} {cs : List AV},K[H.length + 1]? = some (.rw [.nilSl,.nilSl,.int .i64 0,.int .i64 0,.int .i64 0,.nilSl]) → cs.length = 6 → cs.all AV.isCell = true → zA4 K (H.length + 1) 0 cs = some (K.set (H.length + 1) (.rw cs)):=by
   intro K cs hb hl hc
   rw [zA5 hb,if_pos ⟨by rw [hl]; simp,hc⟩]
   obtain ⟨x1,x2,x3,x4,x5,x6,rfl⟩ : ∃ x1 x2 x3 x4 x5 x6,cs = [x1,x2,x3,x4,x5,x6]:=by
    match cs,hl with
    | [x1,x2,x3,x4,x5,x6],_=>exact ⟨_,_,_,_,_,_,rfl⟩
   rfl
  have aset : ∀ {K : zAb} (k : ABlk),Adds H K → H.length + 1 < K.length → Adds H (K.set (H.length + 1) k):=fun k a _=>Adds.of_get (by rw [List.length_set]; exact a.len) fun x hx=>by
   rw [zAn _ _ _ _ (by omega)]; obtain ⟨G,rfl⟩:=a; rw [List.getElem?_append_left hx]
  have hK9:=hK9.symm
  have hK10:=hK10.symm
  by_cases hgd : zCt bN s w a (rawT n nb bN z) = true
  ·obtain ⟨v13,K13,e13,A13',g13⟩:=encC st fit lD (r:=r) (by rw [hg,hgd]; rfl)
   rw [hnx,rk,hpd] at e13
   have q13:=eqCB g13.bs (A13'.bs (a12.bs bz)) (by
    have G:=zDo bb gg.a1.2 (fun x hx=>(fit.s.2 x hx).u8) hgd
    rw [zF9 G gg.a1.2,hn,hnb,Int.toNat_natCast,Int.toNat_natCast]; omega)
   have b13:=A13'.at b12
   have c13:=A13'.cells c12
   have t13:=zBb b13
   have cv13:=g13.bs.cell
   by_cases hez : encT bN (rawT n nb bN z) = z
   ·rw [decide_eq_true hez] at q13
    have w14:=wr (cs:=[vd,vs,.int .i64 nx,.int .i64 kd,.int .i64 pd,vt]) b13 rfl (by simp only [List.all_cons,cd.2,cs.2,ct.2]; rfl)
    have c14 : cellsOf (K13.set (H.length + 1) (.rw [vd,vs,.int .i64 nx,.int .i64 kd,.int .i64 pd,vt])) (H.length + 1) = some [vd,vs,.int .i64 nx,.int .i64 kd,.int .i64 pd,vt]:=zAm (zBf _ _ _ t13)
    simp -implicitDefEqProofs (maxSteps:=5000000) only [go_sem,simprocAttr,itr,itq,cq8,e9,e10,e11,hK9,hK10,zBa,w12,q12,c12,e13,q13,c13,w14,zAe,cd.1,cs.1,ct.1,cd.2,cs.2,ct.2,cv13.1,cv13.2,zAc]
    subst hQ
    refine ⟨aset _ (a12.trans A13') t13,.inl ⟨hgd,hez,vd,vs,vt,?_,fun K' f'=>mkSt (((Fr.adds A13' _).trans (Fr.set (F:=(· = H.length + 1)) _ _ rfl) fun x _ h=>by show x < H1.length; omega).trans f' fun x _ h=>by show x < H1.length; have : x < H.length:=h; omega),ud⟩⟩
    simp -implicitDefEqProofs (maxSteps:=5000000) only [go_sem,simprocAttr,itr,itq,c14]
   ·rw [decide_eq_false hez] at q13
    have w14:=wr (cs:=[.nilSl,.nilSl,.int .i64 0,.int .i64 0,.int .i64 0,.nilSl]) b13 rfl rfl
    have c14 : cellsOf (K13.set (H.length + 1) (.rw [.nilSl,.nilSl,.int .i64 0,.int .i64 0,.int .i64 0,.nilSl])) (H.length + 1) = some [.nilSl,.nilSl,.int .i64 0,.int .i64 0,.int .i64 0,.nilSl]:=zAm (zBf _ _ _ t13)
    simp -implicitDefEqProofs (maxSteps:=5000000) only [go_sem,simprocAttr,itr,itq,cq8,e9,e10,e11,hK9,hK10,zBa,w12,q12,c12,e13,q13,c13,w14,zAe,cd.1,cs.1,ct.1,cd.2,cs.2,ct.2,cv13.1,cv13.2,zAc]
    subst hQ
    refine ⟨aset _ (a12.trans A13') t13,.inr ⟨fun h=>hez h.2,?_⟩⟩
    simp -implicitDefEqProofs (maxSteps:=5000000) only [go_sem,simprocAttr,itr,itq,c14]
  ·have e13:=encBad st fit lD (b:=bN) (s:=s) (w:=w) (a:=a) (r:=r) (by rw [hg,Bool.eq_false_iff.2 hgd]; rfl)
   rw [hnx,rk,hpd] at e13
   have t13:=zBb b12
   have w14:=wr (cs:=[.nilSl,.nilSl,.int .i64 0,.int .i64 0,.int .i64 0,.nilSl]) b12 rfl rfl
   have c14 : cellsOf (K12.set (H.length + 1) (.rw [.nilSl,.nilSl,.int .i64 0,.int .i64 0,.int .i64 0,.nilSl])) (H.length + 1) = some [.nilSl,.nilSl,.int .i64 0,.int .i64 0,.int .i64 0,.nilSl]:=zAm (zBf _ _ _ t13)
   simp -implicitDefEqProofs (maxSteps:=5000000) only [go_sem,simprocAttr,itr,itq,cq8,e9,e10,e11,hK9,hK10,zBa,w12,q12,c12,e13,w14,zAe,cd.1,cs.1,ct.1,cd.2,cs.2,ct.2,zAc]
   subst hQ
   refine ⟨aset _ a12 t13,.inr ⟨fun h=>hgd h.1,?_⟩⟩
   simp -implicitDefEqProofs (maxSteps:=5000000) only [go_sem,simprocAttr,itr,itq,c14]
 obtain ⟨e',t,K,hr,aK,h⟩:=key
 rcases h with ⟨h1,h2,vd,vs,vt,hf,st,ud⟩ | ⟨h1,hf⟩
 ·refine ⟨K,aK,.inl ⟨h1,h2,vd,vs,vt,?_,st⟩⟩
  rw [c11,hr,hf,rk]
  exact zA9 (by simp [AV.under,zA7,ud])
 ·refine ⟨H,Adds.refl H,.inr ⟨h1,?_⟩⟩
  rw [c11,hr,hf]
  exact Adds.trimS aK rfl
end
end Go.Proofs.Ythgflkfhjnbheaa.G14
end
section
namespace Go.Proofs.Ythgflkfhjnbheaa.G14
open Go Go.Proofs.Ythgflkfhjnbheaa.Eng
section
variable {zs : List Int} (uz : IsU8 zs) (lz : zs.length ≤ 100000) {H : zAb} {zb sb : Nat} {v : AV} {nx kd pd y0 y1 y3 y4 y5 y6 y7 : AV} (bz : BS H v zs) {n : Nat} (hz : cellsOf H zb = some [y0,y1,.int .i64 (n : Int),y3,y4,y5,y6,y7]) (ap : zb ≠ sb) (av : ∀ b,slb v = some b → b ≠ sb) (lt : sb < H.length)
include uz lz bz hz ap av lt
end
end Go.Proofs.Ythgflkfhjnbheaa.G14
end
section
namespace Go.Proofs.Ythgflkfhjnbheaa.G14
open Go Go.Proofs.Ythgflkfhjnbheaa.Eng
section
variable {zs : List Int} (uz : IsU8 zs) (lz : zs.length ≤ 100000) {v : AV} (ok : zIy v) {k nb b : Nat}
include uz lz ok
variable {H : zAb} {sb q k1 cnt : Nat} {s w a r : Int} {vd nx kd pd : AV} (bz : BS H v zs) (hq : cellsOf H q = some [.int .i64 (b : Int),.int .i64 s,.int .i64 w,.int .i64 a,.int .i64 r]) (ap : q ≠ sb) (av : ∀ b,slb v = some b → b ≠ sb) (lt : sb < H.length) (n1 : 1 ≤ nb) (n2 : nb ≤ 1000) (b1 : 1 ≤ b) (b2 : b ≤ 1000) (cd : vd.isCell = true) (h4 : zs[4]? = some (cnt : Int)) (hk : k1 + 8 * (4 + nb + b) ≤ zs.length)
include bz hq ap av lt n1 n2 b1 b2 cd h4 hk
end
end Go.Proofs.Ythgflkfhjnbheaa.G14
end
section
namespace Go.Proofs.Ythgflkfhjnbheaa.G14
open Go Go.Proofs.Ythgflkfhjnbheaa.Eng
section
variable {b s w a r : Int} {H : zAb} {v : AV} {z : List Int} (bz : BS H v z)
include bz
end
end Go.Proofs.Ythgflkfhjnbheaa.G14
end
section
namespace Go.Proofs.Ythgflkfhjnbheaa.G14
open Go Go.Proofs.Ythgflkfhjnbheaa.Eng
section
variable {s w a r : Int} {bN n nb : Nat} {H : zAb} {v : AV} {z : List Int} (bz : BS H v z) (ok : zIy v) (uz : IsU8 z) (hg : Gm.goodB (bN : Int) s w a r = true) (hn : s * w = (n : Int)) (hnb : Bt.newN (bN : Int) = nb) (hlen : z.length = zIk n nb bN)
include bz ok uz hg hn hnb hlen
end
end Go.Proofs.Ythgflkfhjnbheaa.G14
end
section
namespace Go.Proofs.Ythgflkfhjnbheaa.G14
open Go Go.Proofs.Ythgflkfhjnbheaa.Eng
section
variable {H : zAb} {vd vs vp : AV} {nx kd pd : Int} {L : List SnS} {P : List PrS} {nd : Nat} (gs : IsC H vs L) (gp : IsP H vp P) (wd : zDi vd = some (.int .i64 (nd : Int))) (cd : vd.isCell = true) (fb : L.length ≤ 9223372036854775807 ∧ ∀ s ∈ L,s.ch.length ≤ 9223372036854775807 ∧ s.tb.length ≤ 9223372036854775807)
include gs gp wd cd fb
set_option maxHeartbeats 4000000 in
theorem fairL12 {q : Nat} (hq : cellsOf H q = some [vd,vs,.int .i64 nx,.int .i64 kd,.int .i64 pd,vp]) (x0 x29 x30 x31 x32 x33 x34 x35 x36 x37 x38 x39 x40 x41 x42 x43 x44 x45 : AV) : ∀ (k i : Nat) (j4 j5 j6 j7 j8 j9 j10 j11 j12 j13 j14 j15 j16 j17 j18 j19 j20 j21 j22 j23 j24 j25 j26 j27 j28 : AV),i + k = L.length →
  Outs (LP1 l6x0 [x0,.ptr q 0,.bool false,.int .i64 (i : Int),j4,j5,j6,j7,j8,j9,j10,j11,j12,j13,j14,j15,j16,j17,j18,j19,j20,j21,j22,j23,j24,j25,j26,j27,j28,x29,x30,x31,x32,x33,x34,x35,x36,x37,x38,x39,x40,x41,x42,x43,x44,x45] H) fun e t K=>K = H ∧ ∃ fv : Nat → AV,t = [x0,.ptr q 0,(fv 2),(fv 3),(fv 4),(fv 5),(fv 6),(fv 7),(fv 8),(fv 9),(fv 10),(fv 11),(fv 12),(fv 13),(fv 14),(fv 15),(fv 16),(fv 17),(fv 18),(fv 19),(fv 20),(fv 21),(fv 22),(fv 23),(fv 24),(fv 25),(fv 26),(fv 27),(fv 28),x29,x30,x31,x32,x33,x34,x35,x36,x37,x38,x39,x40,x41,x42,x43,x44,x45] ∧ ((e = .exit 0 ∧ (L.drop i).all (fun s=>decide (s.ch.length ≤ 40) && decide (s.tb.length ≤ 80)) = true) ∨ (e = .ret ∧ fv 2 = .bool false ∧ (L.drop i).all (fun s=>decide (s.ch.length ≤ 40) && decide (s.tb.length ≤ 80)) = false)):=by
 intro k
 obtain ⟨L0,hL0⟩ : ∃ L,L = LP1 l6x0:=⟨_,rfl⟩
 have lo:=zAr hL0
 have fl:=fb.1
 have wl:=gs.len
 rw [← hL0]
 induction k with
 | zero =>
  intro i j4 j5 j6 j7 j8 j9 j10 j11 j12 j13 j14 j15 j16 j17 j18 j19 j20 j21 j22 j23 j24 j25 j26 j27 j28 hi
  obtain rfl : i = L.length:=by omega
  have hd : decide ((L.length : Int) < (L.length : Int)) = false:=by simp
  rw [List.drop_length,lo]
  unfold l6x0
  simp -implicitDefEqProofs (maxSteps:=5000000) only [go_sem,simprocAttr,itr,itq,hq,wl,hd,zAh,zAc]
  exact exF2 rfl (.inl (by first | rfl | trivial))
 | succ k ih =>
  intro i j4 j5 j6 j7 j8 j9 j10 j11 j12 j13 j14 j15 j16 j17 j18 j19 j20 j21 j22 j23 j24 j25 j26 j27 j28 hi
  have hlt : i < L.length:=by omega
  have hd : decide ((i : Int) < (L.length : Int)) = true:=decide_eq_true (by omega)
  have e2 : IntKind.i64.wrap ((i : Int) + 1) = ((i + 1 : Nat) : Int):=by rw [zAl (by omega) (by omega)]; omega
  have hx:=List.getElem?_eq_getElem hlt
  have hm:=fb.2 _ (List.getElem_mem hlt)
  rw [List.drop_eq_getElem_cons hlt,List.all_cons]
  generalize L[i] = s at *
  obtain ⟨bb,cs,vc,vt,sb,ix,hc,h1,h2,h3,ht,hle,hbs,hip⟩:=gs.idx hx
  have w1:=hbs.len
  have w2:=hip.len
  rw [lo]
  unfold l6x0
  by_cases h : (s.ch.length : Int) > 40
  ·have d1:=decide_eq_true h
   rw [decide_eq_false (show ¬ s.ch.length ≤ 40 by omega)]
   simp -implicitDefEqProofs (maxSteps:=5000000) only [go_sem,simprocAttr,itr,itq,hq,wl,hd,ix,hc,h2,h3,w1,w2,d1,zAi,zAc]
   exact exF2 rfl (.inr rfl)
  ·have d1:=decide_eq_false h
   rw [decide_eq_true (show s.ch.length ≤ 40 by omega)]
   by_cases h' : (s.tb.length : Int) > 80
   ·have d2:=decide_eq_true h'
    rw [decide_eq_false (show ¬ s.tb.length ≤ 80 by omega)]
    simp -implicitDefEqProofs (maxSteps:=5000000) only [go_sem,simprocAttr,itr,itq,hq,wl,hd,ix,hc,h2,h3,w1,w2,d1,d2,zAi,zAc]
    exact exF2 rfl (.inr rfl)
   ·have d2:=decide_eq_false h'
    rw [decide_eq_true (show s.tb.length ≤ 80 by omega)]
    simp -implicitDefEqProofs (maxSteps:=5000000) only [go_sem,simprocAttr,itr,itq,hq,wl,hd,ix,hc,h2,h3,w1,w2,d1,d2,e2]
    exact ih (i + 1) _ _ _ _ _ _ _ _ _ _ _ _ _ _ _ _ _ _ _ _ _ _ _ _ _ (by omega)
def zE7 (L : List SnS) (nd : Nat) (P : List PrS) : Bool:=zTd L && (decide (nd ≤ 80) && decide (P.length ≤ 80))
theorem fairC12 : (envL prog).call 6 [.agg [vd,vs,.int .i64 nx,.int .i64 kd,.int .i64 pd,vp]] H = some (.bool (zE7 L nd P),H):=by
 obtain ⟨H1,hH1⟩ : ∃ K,K = H ++ [ABlk.rw [vd,vs,.int .i64 nx,.int .i64 kd,.int .i64 pd,vp]]:=⟨_,rfl⟩
 have A1 : Adds H H1:=⟨_,hH1⟩
 have hq : cellsOf H1 H.length = some [vd,vs,.int .i64 nx,.int .i64 kd,.int .i64 pd,vp]:=by rw [hH1]; unfold cellsOf; simp
 have l0:=fairL12 (gs.adds A1) (gp.adds A1) wd cd fb hq (k:=L.length) (i:=0)
 rw [show ((0 : Nat) : Int) = 0 from rfl,List.drop_zero] at l0
 have wl:=gs.len
 have wp:=gp.len
 have k2:=gs.cell.2
 have k3:=gp.cell.2
 have hH1:=hH1.symm
 have key : Outs (runC (envL prog) (b6 (envL prog)) ([AV.agg [vd,vs,.int .i64 nx,.int .i64 kd,.int .i64 pd,vp]] ++ List.replicate (46 - [AV.agg [vd,vs,.int .i64 nx,.int .i64 kd,.int .i64 pd,vp]].length) .undef) H) fun e' t K=>Adds H K ∧ fin [.tmp 2] (some (e',t,K)) = some (.bool (zE7 L nd P),K):=by
  unfold b6
  generalize hQ : (fun (e' : Ex) (t : T) (K : zAb)=>Adds H K ∧ fin [.tmp 2] (some (e',t,K)) = some (AV.bool (zE7 L nd P),K)) = Q
  simp -implicitDefEqProofs (maxSteps:=5000000) only [go_sem,simprocAttr,itr,itq,zAj,zAe,cd,k2,k3,hH1]
  unfold LP1 at l0
  generalize (envL prog).loop (runC (envL prog) (l6x0 (envL prog))) = L0 at l0 ⊢
  refine zAq (fun r=>seqR (zAt 0 r) _) (l0 _ _ _ _ _ _ _ _ _ _ _ _ _ _ _ _ _ _ _ _ _ _ _ _ _ _ _ _ _ _ _ _ _ _ _ _ _ _ _ _ _ _ _ (by omega)) ?_
  rintro e t K ⟨rfl,fv,rfl,⟨rfl,ho⟩ | ⟨rfl,f4,ho⟩⟩
  ·have hf : zE7 L nd P = (decide (L.length ≤ 12) && (decide (nd ≤ 80) && decide (P.length ≤ 80))):=by unfold zE7 zTd; rw [ho]; rfl
   have cast : ∀ a b : Nat,decide ((a : Int) ≤ (b : Int)) = decide (a ≤ b):=fun a b=>by
    by_cases h : a ≤ b
    ·rw [decide_eq_true h,decide_eq_true (by omega)]
    ·rw [decide_eq_false h,decide_eq_false (by omega)]
   have c1:=cast L.length 12
   have c2:=cast nd 80
   have c3:=cast P.length 80
   rw [show ((12 : Nat) : Int) = 12 from rfl] at c1
   rw [show ((80 : Nat) : Int) = 80 from rfl] at c2 c3
   rcases b1 : decide (L.length ≤ 12) with _ | _ <;> rw [b1] at c1
   ·simp -implicitDefEqProofs (maxSteps:=5000000) only [go_sem,simprocAttr,itr,itq,hq,wl,c1,zAc]
    subst hQ
    rw [hf,b1]
    refine ⟨A1,?_⟩
    simp -implicitDefEqProofs (maxSteps:=5000000) only [go_sem,simprocAttr,itr,itq]
   rcases b2 : decide (nd ≤ 80) with _ | _ <;> rw [b2] at c2
   ·simp -implicitDefEqProofs (maxSteps:=5000000) only [go_sem,simprocAttr,itr,itq,hq,wl,wd,c1,c2,zAc]
    subst hQ
    rw [hf,b1,b2]
    refine ⟨A1,?_⟩
    simp -implicitDefEqProofs (maxSteps:=5000000) only [go_sem,simprocAttr,itr,itq]
   rcases b3 : decide (P.length ≤ 80) with _ | _ <;> rw [b3] at c3
   ·simp -implicitDefEqProofs (maxSteps:=5000000) only [go_sem,simprocAttr,itr,itq,hq,wl,wd,wp,c1,c2,c3,zAc]
    subst hQ
    rw [hf,b1,b2,b3]
    refine ⟨A1,?_⟩
    simp -implicitDefEqProofs (maxSteps:=5000000) only [go_sem,simprocAttr,itr,itq]
   ·simp -implicitDefEqProofs (maxSteps:=5000000) only [go_sem,simprocAttr,itr,itq,hq,wl,wd,wp,c1,c2,c3,zAc]
    subst hQ
    rw [hf,b1,b2,b3]
    refine ⟨A1,?_⟩
    simp -implicitDefEqProofs (maxSteps:=5000000) only [go_sem,simprocAttr,itr,itq]
  ·simp -implicitDefEqProofs (maxSteps:=5000000) only [go_sem,simprocAttr,zAc]
   subst hQ
   have : zE7 L nd P = false:=by unfold zE7 zTd; rw [ho]; rfl
   rw [this]
   refine ⟨A1,?_⟩
   simp -implicitDefEqProofs (maxSteps:=5000000) only [go_sem,simprocAttr,f4]
 obtain ⟨e',t,K,hr,aK,hf⟩:=key
 rw [c6,hr,hf]; exact aK.trimS rfl
end
section
variable {H : zAb} {v w : AV} {l m : List Int} (g : IS H v l) (f : IS H w m) (hl : l.length ≤ 1000000)
include g f hl
end
theorem zHp {k n : Nat} {d : TyD} (hk : 1 ≤ k) (hd : d.size = k) (hb : 1 ≤ d.bytes) {K : zAb} {b : Nat} {y : AV} {cs : List AV} (hK : K[b]? = some (.rw [])) (s : Src k K y n cs) (room : n * d.bytes ≤ roomy) :
  ∃ v' K',app d (.sl b 0 k 0 0 true) y K = some (v',K') ∧ ((n = 0 ∧ v' = .sl b 0 k 0 0 true ∧ K' = K) ∨ (n ≠ 0 ∧ v' = .sl K.length 0 k n n false ∧ K' = K ++ [.rw cs])):=by
 unfold app
 rw [s.sl]
 simp only [Option.bind_some,hd,s.cells]
 unfold zB0
 simp only [hd]
 by_cases hn : n = 0
 ·subst hn
  exact ⟨.sl b 0 k 0 0 true,K,by rw [if_neg (by omega)]; simp,.inl ⟨rfl,rfl,rfl⟩⟩
 ·refine ⟨.sl K.length 0 k n n false,K ++ [.rw cs],?_,.inr ⟨hn,rfl,rfl⟩⟩
  have hrd : zBt K b 0 (0 * k) = some []:=by unfold zBt; rw [zAm hK]; simp
  rw [if_neg (by omega),if_neg hn,if_neg (by omega),if_pos ⟨hb,by rw [Nat.zero_add]; exact room⟩,hrd]
  simp
theorem is_src {H : zAb} {v : AV} {zs : List Int} (g : IS H v zs) : Src 1 H v zs.length (i64s zs):=by
 refine ⟨g.len,?_,?_,by rw [zCl,Nat.mul_one],zLt zs⟩
 ·rcases g with ⟨rfl,rfl⟩ | ⟨b,o,l,e,cs,rfl,_⟩ <;> rfl
 ·rcases g with ⟨rfl,rfl⟩ | ⟨b,o,l,e,cs,rfl,hc,hg,hl⟩
  ·rfl
  ·unfold zA1 zBt
   simp only [if_true,hc,Option.bind_some,Nat.mul_one,if_pos hl,Option.some.injEq]
   apply List.ext_getElem?
   intro i
   by_cases hi : i < zs.length
   ·rw [List.getElem?_take,if_pos hi,List.getElem?_drop,hg i _ (List.getElem?_eq_getElem hi),zJ5 (List.getElem?_eq_getElem hi)]
   ·rw [List.getElem?_take,if_neg hi,List.getElem?_eq_none (by rw [zCl]; omega)]
theorem is_app {K : zAb} {b : Nat} {y : AV} {zs : List Int} (hb : K[b]? = some (.rw [])) (g : IS K y zs) (hn : zs.length ≤ 1000000) :
  ∃ v' K',app (ty 1 false 8 [.int .i64 0]) (.sl b 0 1 0 0 true) y K = some (v',K') ∧ Adds K K' ∧ IS K' v' zs ∧ zIy v' ∧ (slb v' = some b ∨ slb v' = some K.length):=by
 have hr : (roomy : Nat) = 140737488355328:=rfl
 obtain ⟨v',K',e,h⟩:=zHp (Nat.le_refl 1) rfl (show 1 ≤ (ty 1 false 8 [AV.int .i64 0]).bytes by decide) hb (is_src g) (by show zs.length * 8 ≤ _; omega)
 refine ⟨v',K',e,?_⟩
 rcases h with ⟨h0,rfl,rfl⟩ | ⟨h0,rfl,rfl⟩
 ·obtain rfl:=List.length_eq_zero_iff.1 h0
  refine ⟨Adds.refl _,.inr ⟨b,0,0,true,[],rfl,zAm hb,fun i z h=>by simp at h,by simp⟩,fun _ _ _ _ _ _ h=>by injection h; omega,.inl rfl⟩
 ·exact ⟨⟨_,rfl⟩,IS.block (by simp),fun _ _ _ _ _ _ h=>by injection h; omega,.inr rfl⟩
theorem is_app2 {K : zAb} {b : Nat} {y : AV} {zs : List Int} (hb : K[b]? = some (.rw [])) (g : IS K y zs) (hn : zs.length ≤ 1000000) (h0 : zs ≠ []) :
  app (ty 1 false 8 [.int .i64 0]) (.sl b 0 1 0 0 true) y K = some (.sl K.length 0 1 zs.length zs.length false,K ++ [.rw (i64s zs)]):=by
 have hr : (roomy : Nat) = 140737488355328:=rfl
 obtain ⟨v',K',e,h⟩:=zHp (Nat.le_refl 1) rfl (show 1 ≤ (ty 1 false 8 [AV.int .i64 0]).bytes by decide) hb (is_src g) (by show zs.length * 8 ≤ _; omega)
 rcases h with ⟨h1,_⟩ | ⟨_,rfl,rfl⟩
 ·exact absurd (List.length_eq_zero_iff.1 h1) h0
 ·exact e
section
variable {H : zAb} {v : AV} {L : List SnS} (g : IsC H v L) (fi : Fits L)
include g fi
set_option maxHeartbeats 8000000 in
theorem copyBL (x1 x2 x34 : AV) : ∀ (k i : Nat) (K : zAb) (w : AV) (rows : List (List AV)) (j5 j6 j7 j8 j9 j10 j11 j12 j13 j14 j15 j16 j17 j18 j19 j20 j21 j22 j23 j24 j25 j26 j27 j28 j29 j30 j31 j32 j33 : AV),Adds H K → Gc K H.length w (L.take i) rows → (∀ r ∈ rows,∀ x ∈ r,∀ z,slb x = some z → H.length ≤ z) → i + k = L.length →
  Outs (LP1 l23x0 [v,x1,x2,w,.int .i64 (i : Int),j5,j6,j7,j8,j9,j10,j11,j12,j13,j14,j15,j16,j17,j18,j19,j20,j21,j22,j23,j24,j25,j26,j27,j28,j29,j30,j31,j32,j33,x34] K) fun e t K'=>e = .exit 0 ∧ Adds H K' ∧ ∃ fv : Nat → AV,t = [v,x1,x2,(fv 3),(fv 4),(fv 5),(fv 6),(fv 7),(fv 8),(fv 9),(fv 10),(fv 11),(fv 12),(fv 13),(fv 14),(fv 15),(fv 16),(fv 17),(fv 18),(fv 19),(fv 20),(fv 21),(fv 22),(fv 23),(fv 24),(fv 25),(fv 26),(fv 27),(fv 28),(fv 29),(fv 30),(fv 31),(fv 32),(fv 33),x34] ∧ ∃ rows,Gc K' H.length (fv 3) L rows ∧ (∀ r ∈ rows,∀ x ∈ r,∀ z,slb x = some z → H.length ≤ z):=by
 intro k
 obtain ⟨L0,hL0⟩ : ∃ L,L = LP1 l23x0:=⟨_,rfl⟩
 have lo:=zAr hL0
 have wl:=g.len
 have fl:=fi.1
 rw [← hL0]
 induction k with
 | zero =>
  intro i K w rows j5 j6 j7 j8 j9 j10 j11 j12 j13 j14 j15 j16 j17 j18 j19 j20 j21 j22 j23 j24 j25 j26 j27 j28 j29 j30 j31 j32 j33 aK gw ro hi
  obtain rfl : i = L.length:=by omega
  have hd : decide ((L.length : Int) < (L.length : Int)) = false:=by simp
  rw [List.take_length] at gw
  rw [lo]
  unfold l23x0
  simp -implicitDefEqProofs (maxSteps:=5000000) only [go_sem,simprocAttr,wl,hd,zAh,zAc]
  exact ⟨aK,exF2 rfl ⟨_,gw,ro⟩⟩
 | succ k ih =>
  intro i K w rows j5 j6 j7 j8 j9 j10 j11 j12 j13 j14 j15 j16 j17 j18 j19 j20 j21 j22 j23 j24 j25 j26 j27 j28 j29 j30 j31 j32 j33 aK gw ro hi
  have hlt : i < L.length:=by omega
  have hd : decide ((i : Int) < (L.length : Int)) = true:=decide_eq_true (by omega)
  have e2 : IntKind.i64.wrap ((i : Int) + 1) = ((i + 1 : Nat) : Int):=by rw [zAl (by omega) (by omega)]; omega
  have hx:=List.getElem?_eq_getElem hlt
  have tk : L.take (i + 1) = L.take i ++ [L[i]]:=by rw [List.take_add_one,hx]; rfl
  have ft:=zCx fi hx
  generalize L[i] = s at *
  obtain ⟨bb,cs,vc,vt,sb,ix,hc,h1,h2,h3,ht,hle,hbs,hip⟩:=g.idx hx
  obtain ⟨K1,hK1⟩ : ∃ K1,K1 = K ++ [ABlk.rw [],.rw []]:=⟨_,rfl⟩
  have A1 : Adds K K1:=⟨_,hK1⟩
  have l1 : K1.length = K.length + 2:=by rw [hK1]; simp
  have a01:=aK.trans A1
  obtain ⟨vc',K2,ea,A2,b2,s2⟩:=bs_app (K:=K1) (b:=K.length) (by rw [hK1]; simp) (a01.bs hbs) (by have:=ft.lc; omega)
  have hr : (roomy : Nat) = 140737488355328:=rfl
  have q2 : K2[K.length + 1]? = some (ABlk.rw []):=A2.at (by rw [hK1]; simp)
  have a02:=a01.trans A2
  have g0 : Gp K2 (K.length + 1) (.sl (K.length + 1) 0 2 0 0 true) []:=.inr (.inl ⟨rfl,K.length + 1,Nat.le_refl _,rfl,q2⟩)
  obtain ⟨vt',K3,eb,g3,fr3,n3,_⟩:=zOj g0 (by have:=A2.len; omega) (hip.adds a02).src.1 (hip.adds a02).src.2 (by have:=ft.lt; rw [List.length_nil]; omega)
  rw [List.nil_append] at g3
  have A3 : Adds K K3:=fr3.old (A1.trans A2) fun x hx h=>by (injection h with h; omega)
  have b3 : BS K3 vc' s.ch:=b2.fr fr3 fun b h h'=>by
   injection h' with h'
   rcases s2 with q | q <;> rw [q] at h <;> injection h with h <;> omega
  obtain ⟨K4,hK4⟩ : ∃ K4,K4 = K3 ++ [ABlk.rw [.int .i64 s.id,vc',vt']]:=⟨_,rfl⟩
  have A4 : Adds K3 K4:=⟨_,hK4⟩
  have A04:=A3.trans A4
  have c4 : cellsOf K4 K3.length = some [.int .i64 s.id,vc',vt']:=by rw [hK4]; unfold cellsOf; simp
  obtain ⟨w',K5,ec,g5,fr5,sb5,l5,c5,c5'⟩:=Gc.push tySn (by rw [tySb]; omega) (by rw [tySb]; omega) (gw.adds A04) c4 ⟨vc',vt',rfl,A4.bs b3,(g3.isP).adds A4⟩ (fun y hy b h h'=>by
   have hb:=(gw.g.out b h').2
   simp only [List.mem_cons,List.mem_nil_iff,or_false] at hy
   rcases hy with rfl | rfl | rfl
   ·cases h
   ·rcases s2 with q | q <;> rw [q] at h <;> injection h with h <;> omega
   ·have:=(g3.out b h).1; omega) (by rw [List.length_take]; omega) (by have:=aK.len; have:=A04.len; omega)
  rw [← tk] at g5
  have a5 : Adds H K5:=fr5.old (aK.trans A04) fun b hb h=>by have:=(gw.g.out b h).1; omega
  have k1:=b3.cell
  have k2:=g3.isP.cell
  have hK1:=hK1.symm
  have hK4:=hK4.symm
  have cK:=fun {b cs} (h : cellsOf H b = some cs)=>aK.cells h
  have hcK:=aK.cells hc
  have hcK1:=a01.cells hc
  have hcA2:=a02.cells hc
  have hcA3:=(aK.trans A3).cells hc
  have hcA4:=(aK.trans A04).cells hc
  have hcK2:=(aK.trans (⟨[ABlk.rw []],rfl⟩ : Adds K (K ++ [ABlk.rw []]))).cells hc
  have key:=ih (i + 1) K5 w' (rows ++ [[.int .i64 s.id,vc',vt']])
  rw [lo]
  unfold l23x0
  simp -implicitDefEqProofs (maxSteps:=5000000) only [go_sem,simprocAttr,itr,itq,wl,hd,ix,hcK,hcK1,hcK2,hcA2,hcA3,hcA4,h1,h2,h3,hK1,ea,eb,k1.1,k1.2,k2.1,k2.2,hK4,ec,e2]
  have ro2 : ∀ r ∈ rows ++ [[AV.int .i64 s.id,vc',vt']],∀ x ∈ r,∀ z,slb x = some z → H.length ≤ z:=fun r hr x hx z hz=>by
   have la:=aK.len
   rcases List.mem_append.1 hr with hr | hr
   ·exact ro r hr x hx z hz
   ·rw [List.mem_singleton.1 hr] at hx
    simp only [List.mem_cons,List.not_mem_nil,or_false] at hx
    rcases hx with rfl | rfl | rfl
    ·cases hz
    ·rcases s2 with q | q <;> rw [q] at hz <;> injection hz with hz <;> omega
    ·have:=(g3.out z hz).1; omega
  exact key _ _ _ _ _ _ _ _ _ _ _ _ _ _ _ _ _ _ _ _ _ _ _ _ _ _ _ _ _ a5 g5 ro2 (by omega)
theorem copyB : ∃ v' K,(envL prog).call 23 [v] H = some (v',K) ∧ Adds H K ∧ ∃ rows,Gc K H.length v' L rows ∧ (∀ r ∈ rows,∀ x ∈ r,∀ z,slb x = some z → H.length ≤ z):=by
 have l0:=copyBL g fi (k:=L.length) (i:=0) (K:=H) (w:=.nilSl) (rows:=[])
 rw [show ((0 : Nat) : Int) = 0 from rfl,List.take_zero] at l0
 have key : Outs (runC (envL prog) (b23 (envL prog)) ([v] ++ List.replicate (35 - [v].length) .undef) H) fun e' t K=>∃ v',Adds H K ∧ (∃ rows,Gc K H.length v' L rows ∧ (∀ r ∈ rows,∀ x ∈ r,∀ z,slb x = some z → H.length ≤ z)) ∧ fin [.tmp 2] (some (e',t,K)) = some (v',K):=by
  unfold b23
  generalize hQ : (fun (e' : Ex) (t : T) (K : zAb)=>∃ v',Adds H K ∧ (∃ rows,Gc K H.length v' L rows ∧ (∀ r ∈ rows,∀ x ∈ r,∀ z,slb x = some z → H.length ≤ z)) ∧ fin [.tmp 2] (some (e',t,K)) = some (v',K)) = Q
  simp -implicitDefEqProofs (maxSteps:=5000000) only [go_sem,simprocAttr,itr,itq,zAj]
  unfold LP1 at l0
  generalize (envL prog).loop (runC (envL prog) (l23x0 (envL prog))) = L0 at l0 ⊢
  refine zAq (fun r=>seqR (zAt 0 r) _) (l0 _ _ _ _ _ _ _ _ _ _ _ _ _ _ _ _ _ _ _ _ _ _ _ _ _ _ _ _ _ _ _ _ (Adds.refl H) (Gc.nil H _) (fun r hr=>by cases hr) (by omega)) ?_
  rintro e t K ⟨rfl,aK,fv,rfl,rows,gk,ro⟩
  simp -implicitDefEqProofs (maxSteps:=5000000) only [go_sem,simprocAttr,zAc]
  subst hQ
  refine ⟨fv 3,aK,⟨rows,gk,ro⟩,?_⟩
  simp -implicitDefEqProofs (maxSteps:=5000000) only [go_sem,simprocAttr]
 obtain ⟨e',t,K,hr,v',aK,⟨rows,gk,ro⟩,hf⟩:=key
 have tr : ∃ K',trim H (some (v',K)) = some (v',K') ∧ Adds H K' ∧ ∃ rows,Gc K' H.length v' L rows ∧ (∀ r ∈ rows,∀ x ∈ r,∀ z,slb x = some z → H.length ≤ z):=by
  rcases zEi (v:=v') aK with e | ⟨u,e⟩
  ·exact ⟨K,e,aK,rows,gk,ro⟩
  ·refine ⟨H,e,Adds.refl H,?_⟩
   rcases gk.g with ⟨rfl,rfl⟩ | ⟨_,b,hb,rfl,_⟩
   ·have : L = []:=List.length_eq_zero_iff.1 gk.ch.len.symm
    subst this; exact ⟨[],Gc.nil H _,fun r hr=>by cases hr⟩
   ·simp [AV.under] at u; omega
 obtain ⟨K',e,a,r⟩:=tr
 exact ⟨v',K',by rw [c23,hr,hf]; exact e,a,r⟩
end
section
variable {H : zAb} {vd vs vp : AV} {S : StS} (g : StA H vd vs vp S) (fi : FitS S) (lD : S.dirty.length ≤ 1000000)
include g fi lD
set_option maxHeartbeats 16000000 in
theorem zPt : ∃ wd ws wp K,(envL prog).call 8 [.agg [vd,vs,.int .i64 S.next,.int .i64 S.kind,.int .i64 S.pid,vp]] H = some (.agg [wd,ws,.int .i64 S.next,.int .i64 S.kind,.int .i64 S.pid,wp],K) ∧ Adds H K ∧ StA K wd ws wp S ∧ (∀ x ∈ [wd,ws,wp],∀ b,slb x = some b → H.length ≤ b) ∧ (∃ rows,Gc K H.length ws S.snaps rows ∧ (∀ r ∈ rows,∀ x ∈ r,∀ z,slb x = some z → H.length ≤ z) ∧ (∀ z,slb ws = some z → slb wd ≠ some z ∧ slb wp ≠ some z) ∧ (S.dirty ≠ [] → ∃ c,wd = .sl c 0 1 S.dirty.length S.dirty.length false ∧ K[c]? = some (.rw (i64s S.dirty)) ∧ slb wp ≠ some c ∧ slb ws ≠ some c ∧ ∀ r ∈ rows,∀ x ∈ r,slb x ≠ some c)):=by
 have cd:=IS.cell g.d
 have cc:=g.s.cell
 have cp:=g.p.cell
 obtain ⟨H1,hH1⟩ : ∃ H1,H1 = H ++ [ABlk.rw [vd,vs,.int .i64 S.next,.int .i64 S.kind,.int .i64 S.pid,vp],.rw [.nilSl,.nilSl,.int .i64 0,.int .i64 0,.int .i64 0,.nilSl],.rw [],.rw []]:=⟨_,rfl⟩
 have A1 : Adds H H1:=⟨_,hH1⟩
 have l1 : H1.length = H.length + 4:=by rw [hH1]; simp
 have c1 : cellsOf H1 H.length = some [vd,vs,.int .i64 S.next,.int .i64 S.kind,.int .i64 S.pid,vp]:=by rw [hH1]; unfold cellsOf; simp
 have b1 : H1[H.length + 1]? = some (.rw [.nilSl,.nilSl,.int .i64 0,.int .i64 0,.int .i64 0,.nilSl]):=by rw [hH1]; simp
 obtain ⟨wd,K2,e2,A2,g2,ok2,s2⟩:=is_app (K:=H1) (b:=H.length + 2) (by rw [hH1]; simp) (A1.is g.d) lD
 obtain ⟨ws,K3,e3,A3,rows,g3,ro⟩:=copyB ((g.s.adds A1).adds A2) fi.s
 have l2:=A2.len
 have l3:=A3.len
 have o3:=g3.g.out
 have q3 : K3[H.length + 3]? = some (.rw []):=(A2.trans A3).at (by rw [hH1]; simp)
 have g0 : Gp K3 (H.length + 3) (.sl (H.length + 3) 0 2 0 0 true) []:=.inr (.inl ⟨rfl,H.length + 3,Nat.le_refl _,rfl,q3⟩)
 have hr : (roomy : Nat) = 140737488355328:=rfl
 have ps:=((g.p.adds A1).adds A2).adds A3
 obtain ⟨wp,K4,e4,g4,fr4,n4,n5⟩:=zOj g0 (by omega) ps.src.1 ps.src.2 (by have:=fi.p; rw [List.length_nil]; omega)
 rw [List.nil_append] at g4
 have l4:=fr4.1
 have o4:=g4.out
 have A4 : Adds H K4:=fr4.old ((A1.trans A2).trans A3) fun x hx h=>by (injection h with h; omega)
 have b4 : K4[H.length + 1]? = some (.rw [.nilSl,.nilSl,.int .i64 0,.int .i64 0,.int .i64 0,.nilSl]):=fr4.at ((A2.trans A3).at b1) fun h=>by (injection h with h; omega)
 have kd:=IS.cell g2
 have ks:=g3.isC.cell
 have kp:=g4.isP.cell
 have sd : ∀ b,slb wd = some b → H.length ≤ b ∧ b ≠ H.length + 1 ∧ b ≠ H.length + 3:=fun b hb=>by
  rcases s2 with q | q <;> rw [q] at hb <;> injection hb with hb <;> omega
 have wr : zA4 K4 (H.length + 1) 0 [wd,ws,.int .i64 S.next,.int .i64 S.kind,.int .i64 S.pid,wp] = some (K4.set (H.length + 1) (.rw [wd,ws,.int .i64 S.next,.int .i64 S.kind,.int .i64 S.pid,wp])):=by
  rw [zA5 b4,if_pos ⟨by simp,by simp only [List.all_cons,kd.2,ks.2,kp.2]; rfl⟩]; rfl
 obtain ⟨K5,hK5⟩ : ∃ K5,K5 = K4.set (H.length + 1) (.rw [wd,ws,.int .i64 S.next,.int .i64 S.kind,.int .i64 S.pid,wp]):=⟨_,rfl⟩
 rw [← hK5] at wr
 have f5 : Fr K4 K5 (· = H.length + 1):=by rw [hK5]; exact Fr.set _ _ rfl
 have A5 : Adds H K5:=f5.old A4 fun b hb h=>by omega
 have c5 : cellsOf K5 (H.length + 1) = some [wd,ws,.int .i64 S.next,.int .i64 S.kind,.int .i64 S.pid,wp]:=by rw [hK5]; exact zAm (zBf _ _ _ (by omega))
 have f35 : Fr K3 K5 (fun b=>b = H.length + 3 ∨ b = H.length + 1):=(fr4.mono (G:=fun b=>b = H.length + 3 ∨ b = H.length + 1) fun b _ h=>.inl (by injection h with h; exact h.symm)).trans f5 fun b _ h=>.inr h
 have fo : ∀ b,H.length + 4 ≤ b → ¬ (b = H.length + 3 ∨ b = H.length + 1):=fun b hb h=>by omega
 have g5 : Gc K5 H.length ws S.snaps rows:=(g3.frT f35 (fun b hb h=>by have:=(o3 b hb).1; omega) fun r hr x hx b hb h=>by have:=ro r hr x hx b hb; omega).low (by omega)
 have s5 : StA K5 wd ws wp S:=⟨IS.frS g2 ((Fr.adds A3 (fun b=>b = H.length + 3 ∨ b = H.length + 1)).trans f35 fun _ _ h=>h) (fun b hb h=>by have:=sd b hb; omega),ok2,g5.isC,g4.isP.fr f5 fun b hb h=>by
  rcases List.eq_nil_or_concat S.pairs with q | q
  ·have:=(n5 q).1; rw [this] at hb; injection hb with hb; omega
  ·have:=n4 (fun e=>by obtain ⟨_,_,h⟩:=q; rw [e] at h; simp at h); rw [this] at hb; injection hb with hb; omega⟩
 have hH1':=hH1
 have hH1:=hH1.symm
 have cx:=(A2.cells c1)
 have cy:=A3.cells cx
 have cz:=fr4.cells cy (fun h=>by injection h; omega)
 rw [c8]
 have wb : ∀ x ∈ [wd,ws,wp],∀ b,slb x = some b → H.length ≤ b:=fun x hx b hb=>by
  simp only [List.mem_cons,List.not_mem_nil,or_false] at hx
  rcases hx with rfl | rfl | rfl
  ·exact (sd b hb).1
  ·have:=(o3 b hb).1; omega
  ·have:=(o4 b hb).1; omega
 have u : wd.under H.length = false:=by
  rcases hw : wd.under H.length with _ | _
  ·rfl
  ·rcases s2 with q | q <;> (have:=zB3 hw q; omega)
 have wpb : ∀ z,slb wp = some z → z = H.length + 3 ∨ z = K3.length:=fun z hz=>by
  rcases List.eq_nil_or_concat S.pairs with q | q
  ·have:=(n5 q).1; rw [this] at hz; injection hz with hz; exact .inl hz.symm
  ·have:=n4 (fun e=>by obtain ⟨_,_,h⟩:=q; rw [e] at h; simp at h); rw [this] at hz; injection hz with hz; exact .inr hz.symm
 refine ⟨wd,ws,wp,K5,?_,A5,s5,wb,rows,g5,(fun r hr x hx b hb=>by have:=ro r hr x hx b hb; omega),(fun z hz=>⟨fun h=>?_,fun h=>?_⟩),fun h0=>?_⟩
 case refine_2 =>
  have h1:=o3 z hz
  have h2:=IS.lt g2 z h
  omega
 case refine_3 =>
  have h1:=o3 z hz
  have h2:=wpb z h
  omega
 case refine_4 =>
  have e2':=is_app2 (K:=H1) (b:=H.length + 2) (by rw [hH1']; simp) (A1.is g.d) lD h0
  rw [e2] at e2'
  injection e2' with e2'
  injection e2' with q1 q2
  refine ⟨H1.length,q1,f35.at (A3.at (by rw [q2]; simp)) (by show ¬ (H1.length = H.length + 3 ∨ H1.length = H.length + 1); omega),fun h=>?_,fun h=>?_,fun r hr x hx h=>?_⟩
  ·have h2:=wpb _ h
   have : H1.length < K2.length:=by rw [q2]; simp
   omega
  ·have h1:=o3 _ h
   have : H1.length < K2.length:=by rw [q2]; simp
   omega
  ·have h1:=ro r hr x hx _ h
   have : H1.length < K2.length:=by rw [q2]; simp
   omega
 unfold b8
 have tk : ∀ vv,trim H (some (AV.agg (wd :: vv),K5)) = some (AV.agg (wd :: vv),K5):=fun vv=>zA9 (by simp [AV.under,zA7,u])
 simp -implicitDefEqProofs (maxSteps:=5000000) only [go_sem,simprocAttr,itr,itq,zAe,cd.1,cd.2,cc.1,cc.2,cp.1,cp.2,hH1,c1,e2,cx,e3,cy,e4,cz,wr,kd.1,kd.2,ks.1,ks.2,kp.1,kp.2,zBa,c5,tk]
end
end Go.Proofs.Ythgflkfhjnbheaa.G14
end
section
namespace Go.Proofs.Ythgflkfhjnbheaa.G14
open Go Go.Proofs.Ythgflkfhjnbheaa.Eng
section
variable {H : zAb} {v w : AV} {xs ys : List PrS} (gx : IsP H v xs) (gy : IsP H w ys) (lx : xs.length ≤ 1000000000000)
include gx gy lx
set_option maxHeartbeats 4000000 in
theorem eqLP (hl : xs.length = ys.length) (x2 x3 x6 x7 x8 x9 x10 x11 : AV) : ∀ (m i : Nat) (j5 j14 j15 j16 j17 j18 j19 j20 j21 j22 j23 j24 j25 : AV),i + m = xs.length →
  Outs (LP1 l58x0 [v,w,x2,x3,.bool false,j5,x6,x7,x8,x9,x10,x11,.int .i64 (xs.length : Int),.int .i64 (i : Int),j14,j15,j16,j17,j18,j19,j20,j21,j22,j23,j24,j25] H) fun e t K=>K = H ∧ ∃ fv : Nat → AV,t = [v,w,x2,x3,(fv 4),(fv 5),x6,x7,x8,x9,x10,x11,.int .i64 (xs.length : Int),(fv 13),(fv 14),(fv 15),(fv 16),(fv 17),(fv 18),(fv 19),(fv 20),(fv 21),(fv 22),(fv 23),(fv 24),(fv 25)] ∧ fv 4 = .bool false ∧ ((e = .exit 0 ∧ decide (xs.drop i = ys.drop i) = true) ∨ (e = .ret ∧ decide (xs.drop i = ys.drop i) = false)):=by
 intro m
 obtain ⟨L0,hL0⟩ : ∃ L,L = LP1 l58x0:=⟨_,rfl⟩
 have lo:=zAr hL0
 rw [← hL0]
 induction m with
 | zero =>
  intro i j5 j14 j15 j16 j17 j18 j19 j20 j21 j22 j23 j24 j25 hi
  obtain rfl : i = xs.length:=by omega
  have hd : decide ((xs.length : Int) < (xs.length : Int)) = false:=by simp
  have e : decide (xs.drop xs.length = ys.drop xs.length) = true:=by rw [List.drop_length,hl,List.drop_length]; rfl
  rw [e,lo]
  unfold l58x0
  simp -implicitDefEqProofs (maxSteps:=5000000) only [go_sem,simprocAttr,hd,zAh,zAc]
  exact exF2 rfl (by first | exact ⟨rfl,.inl rfl⟩ | exact ⟨rfl,trivial⟩ | rfl | exact ⟨rfl,.inl trivial⟩)
 | succ m ih =>
  intro i j5 j14 j15 j16 j17 j18 j19 j20 j21 j22 j23 j24 j25 hi
  have hlt : i < xs.length:=by omega
  have hd : decide ((i : Int) < (xs.length : Int)) = true:=decide_eq_true (by omega)
  have e2 : IntKind.i64.wrap ((i : Int) + 1) = ((i + 1 : Nat) : Int):=by rw [zAl (by omega) (by omega)]; omega
  have hx:=List.getElem?_eq_getElem hlt
  have hy:=List.getElem?_eq_getElem (show i < ys.length by omega)
  have key:=ih (i + 1)
  rw [List.drop_eq_getElem_cons hlt,List.drop_eq_getElem_cons (show i < ys.length by omega),zHm]
  generalize xs[i] = x at *
  generalize ys[i] = y at *
  obtain ⟨bb,cs,_,ix,hc,_,_,ht,hle⟩:=gx.idx hx
  obtain ⟨bb2,cs2,_,ix2,hc2,_,_,ht2,hle2⟩:=gy.idx hy
  have hn:=ne_prs x y
  rw [lo]
  unfold l58x0
  by_cases h : x = y
  ·rw [decide_eq_true h] at hn
   rw [decide_eq_true h,Bool.true_and]
   simp -implicitDefEqProofs (maxSteps:=5000000) only [go_sem,simprocAttr,itr,itq,hd,ix,hc,ht,hle,ix2,hc2,ht2,hle2,hn,e2]
   exact key _ _ _ _ _ _ _ _ _ _ _ _ _ (by omega)
  ·rw [decide_eq_false h] at hn
   rw [decide_eq_false h,Bool.false_and]
   simp -implicitDefEqProofs (maxSteps:=5000000) only [go_sem,simprocAttr,itr,itq,hd,ix,hc,ht,hle,ix2,hc2,ht2,hle2,hn,zAi,zAc]
   exact exF2 rfl (by first | exact ⟨rfl,.inr rfl⟩ | exact ⟨rfl,trivial⟩ | rfl | exact ⟨rfl,.inr trivial⟩)
theorem eqCP : (envL prog).call 58 [v,w] H = some (.bool (decide (xs = ys)),H):=by
 have wx:=gx.len
 have wy:=gy.len
 by_cases hl : xs.length = ys.length
 case neg =>
  have hn : ((xs.length : Int) != (ys.length : Int)) = true:=bne_iff_ne.2 (by omega)
  rw [decide_eq_false (fun e=>hl (by rw [e])),c58]
  unfold b58
  simp -implicitDefEqProofs (maxSteps:=5000000) only [go_sem,simprocAttr,itr,itq,wx,wy,hn]
 have hn : ((xs.length : Int) != (ys.length : Int)) = false:=by simp [hl]
 have l0:=eqLP gx gy lx hl (m:=xs.length) (i:=0)
 rw [show ((0 : Nat) : Int) = 0 from rfl,List.drop_zero,List.drop_zero] at l0
 have key : Outs (runC (envL prog) (b58 (envL prog)) ([v,w] ++ List.replicate (26 - [v,w].length) .undef) H) fun e' t K=>K = H ∧ fin [.tmp 4] (some (e',t,K)) = some (.bool (decide (xs = ys)),K):=by
  unfold b58
  generalize hQ : (fun (e' : Ex) (t : T) (K : zAb)=>K = H ∧ fin [.tmp 4] (some (e',t,K)) = some (AV.bool (decide (xs = ys)),K)) = Q
  simp -implicitDefEqProofs (maxSteps:=5000000) only [go_sem,simprocAttr,itr,itq,zAj,wx,wy,hn]
  unfold LP1 at l0
  generalize (envL prog).loop (runC (envL prog) (l58x0 (envL prog))) = L0 at l0 ⊢
  refine zAq (fun r=>seqR (zAt 0 r) _) (l0 _ _ _ _ _ _ _ _ _ _ _ _ _ _ _ _ _ _ _ _ _ (by omega)) ?_
  rintro e t K ⟨rfl,fv,rfl,f4,⟨rfl,ho⟩ | ⟨rfl,ho⟩⟩
  ·rw [ho] at hQ
   simp -implicitDefEqProofs (maxSteps:=5000000) only [go_sem,simprocAttr,zAc]
   subst hQ
   refine ⟨rfl,?_⟩
   simp -implicitDefEqProofs (maxSteps:=5000000) only [go_sem,simprocAttr]
  ·rw [ho] at hQ
   simp -implicitDefEqProofs (maxSteps:=5000000) only [go_sem,simprocAttr,zAc]
   subst hQ
   refine ⟨rfl,?_⟩
   simp -implicitDefEqProofs (maxSteps:=5000000) only [go_sem,simprocAttr,f4]
 obtain ⟨e',t,K,hr,rfl,hf⟩:=key
 rw [c58,hr,hf]; exact zBw rfl
end
theorem dec_sn (s u : SnS) : decide (s = u) = (decide (s.id = u.id) && (decide (s.ch = u.ch) && decide (s.tb = u.tb))):=by
 cases s; cases u; simp [SnS.mk.injEq]
theorem zKo (a b : Int) : (a == b) = decide (a = b):=by
 by_cases h : a = b
 ·subst h; simp
 ·rw [decide_eq_false h]; exact beq_eq_false_iff_ne.2 h
set_option maxHeartbeats 8000000 in
theorem same1C {K : zAb} {s u : SnS} {vc vt wc wt : AV} (b1 : BS K vc s.ch) (p1 : IsP K vt s.tb) (b2 : BS K wc u.ch) (p2 : IsP K wt u.tb) (lc : s.ch.length ≤ 1000000) (lt : s.tb.length ≤ 1000000) : (envL prog).call 61 [.agg [.int .i64 s.id,vc,vt],.agg [.int .i64 u.id,wc,wt]] K = some (.bool (decide (s = u)),K):=by
 have A : ∀ X,Adds K (K ++ X):=fun X=>⟨X,rfl⟩
 have e1:=fun X=>eqCB ((A X).bs b1) ((A X).bs b2) (by omega)
 have e2:=fun X=>eqCP (p1.adds (A X)) (p2.adds (A X)) (by omega)
 have k1:=b1.cell
 have k2:=p1.cell
 have k3:=b2.cell
 have k4:=p2.cell
 have q:=zKo s.id u.id
 rw [dec_sn,c61]
 unfold b61
 rcases h1 : decide (s.id = u.id) with _ | _ <;> rw [h1] at q
 ·simp -implicitDefEqProofs (maxSteps:=5000000) only [go_sem,simprocAttr,itr,itq,zAe,k1.1,k1.2,k2.1,k2.2,k3.1,k3.2,k4.1,k4.2,q,e1,e2]
 rcases h2 : decide (s.ch = u.ch) with _ | _ <;> simp only [h2] at e1
 ·simp -implicitDefEqProofs (maxSteps:=5000000) only [go_sem,simprocAttr,itr,itq,zAe,k1.1,k1.2,k2.1,k2.2,k3.1,k3.2,k4.1,k4.2,q,e1,e2]
 ·simp -implicitDefEqProofs (maxSteps:=5000000) only [go_sem,simprocAttr,itr,itq,zAe,k1.1,k1.2,k2.1,k2.2,k3.1,k3.2,k4.1,k4.2,q,e1,e2]
section
variable {H : zAb} {v w : AV} {L M : List SnS} (g : IsC H v L) (f : IsC H w M) (fL : Fits L) (fM : Fits M)
include g f fL fM
set_option maxHeartbeats 8000000 in
theorem eqFSnL (he : L.length = M.length) (x3 x4 x5 x10 x11 x12 x13 x14 : AV) : ∀ (k i : Nat) (K : zAb) (j7 j8 j9 j18 j19 j20 j21 j22 j23 j24 j25 j26 j27 j28 j29 j30 j31 : AV),Adds H K → i + k = L.length →
  Outs (LP1 l60x0 [v,w,.fn 61 [],x3,x4,x5,.bool false,j7,j8,j9,x10,x11,x12,x13,x14,v,.int .i64 (L.length : Int),.int .i64 (i : Int),j18,j19,j20,j21,j22,j23,j24,j25,j26,j27,j28,j29,j30,j31] K) fun e t K=>Adds H K ∧ ∃ fv : Nat → AV,t = [v,w,.fn 61 [],x3,x4,x5,(fv 6),(fv 7),(fv 8),(fv 9),x10,x11,x12,x13,x14,v,.int .i64 (L.length : Int),(fv 17),(fv 18),(fv 19),(fv 20),(fv 21),(fv 22),(fv 23),(fv 24),(fv 25),(fv 26),(fv 27),(fv 28),(fv 29),(fv 30),(fv 31)] ∧ fv 6 = .bool false ∧ ((e = .exit 0 ∧ decide (L.drop i = M.drop i) = true) ∨ (e = .ret ∧ decide (L.drop i = M.drop i) = false)):=by
 intro k
 obtain ⟨L0,hL0⟩ : ∃ L,L = LP1 l60x0:=⟨_,rfl⟩
 have lo:=zAr hL0
 have fl:=fL.1
 rw [← hL0]
 induction k with
 | zero =>
  intro i K j7 j8 j9 j18 j19 j20 j21 j22 j23 j24 j25 j26 j27 j28 j29 j30 j31 aK hi
  obtain rfl : i = L.length:=by omega
  have hd : decide ((L.length : Int) < (L.length : Int)) = false:=by simp
  have e : decide (L.drop L.length = M.drop L.length) = true:=by rw [List.drop_length,he,List.drop_length]; rfl
  rw [e,lo]
  unfold l60x0
  simp -implicitDefEqProofs (maxSteps:=5000000) only [go_sem,simprocAttr,hd,zAh,zAc]
  exact ⟨aK,exF2 rfl (by first | exact ⟨rfl,.inl ⟨rfl,rfl⟩⟩ | exact ⟨rfl,.inl rfl⟩ | exact ⟨rfl,.inl trivial⟩ | exact ⟨rfl,trivial⟩ | rfl | trivial)⟩
 | succ k ih =>
  intro i K j7 j8 j9 j18 j19 j20 j21 j22 j23 j24 j25 j26 j27 j28 j29 j30 j31 aK hi
  have hlt : i < L.length:=by omega
  have hd : decide ((i : Int) < (L.length : Int)) = true:=decide_eq_true (by omega)
  have e2 : IntKind.i64.wrap ((i : Int) + 1) = ((i + 1 : Nat) : Int):=by rw [zAl (by omega) (by omega)]; omega
  have hx:=List.getElem?_eq_getElem hlt
  have hy:=List.getElem?_eq_getElem (show i < M.length by omega)
  have f1:=zCx fL hx
  have key:=ih (i + 1)
  rw [List.drop_eq_getElem_cons hlt,List.drop_eq_getElem_cons (show i < M.length by omega),zHm]
  generalize L[i] = s at *
  generalize M[i] = u at *
  obtain ⟨bb,cs,vc,vt,sb,ix,hc,h1,h2,h3,ht,hle,hbs,hip⟩:=g.idx hx
  obtain ⟨bb',cs',vc',vt',sb',ix',hc',h1',h2',h3',ht',hle',hbs',hip'⟩:=f.idx hy
  obtain ⟨K1,hK1⟩ : ∃ K1,K1 = K ++ [ABlk.rw [.int .i64 s.id,vc,vt]]:=⟨_,rfl⟩
  obtain ⟨K2,hK2⟩ : ∃ K2,K2 = K1 ++ [ABlk.rw [.int .i64 u.id,vc',vt']]:=⟨_,rfl⟩
  have A1 : Adds K K1:=⟨_,hK1⟩
  have A2 : Adds K1 K2:=⟨_,hK2⟩
  have a2:=(aK.trans A1).trans A2
  have es:=same1C (a2.bs hbs) (hip.adds a2) (a2.bs hbs') (hip'.adds a2) (by have:=f1.lc; omega) (by have:=f1.lt; omega)
  have c0:=aK.cells hc
  have c1:=(aK.trans A1).cells hc'
  have c3 : cellsOf K2 K.length = some [.int .i64 s.id,vc,vt]:=A2.cells (by rw [hK1]; unfold cellsOf; simp)
  have c4 : cellsOf K2 K1.length = some [.int .i64 u.id,vc',vt']:=by rw [hK2]; unfold cellsOf; simp
  have k1:=hbs.cell
  have k2:=hip.cell
  have k3:=hbs'.cell
  have k4:=hip'.cell
  have hK1:=hK1.symm
  have hK2:=hK2.symm
  rw [lo]
  unfold l60x0
  rcases hs : decide (s = u) with _ | _ <;> rw [hs] at es
  ·rw [Bool.false_and]
   simp -implicitDefEqProofs (maxSteps:=5000000) only [go_sem,simprocAttr,itr,itq,hd,ix,c0,ht,hle,k1.1,k1.2,k2.1,k2.2,zAe,hK1,ix',c1,ht',hle',k3.1,k3.2,k4.1,k4.2,hK2,c3,c4,es,zAi,zAc]
   exact ⟨a2,exF2 rfl (by first | exact ⟨rfl,.inr ⟨rfl,rfl⟩⟩ | exact ⟨rfl,.inr rfl⟩ | exact ⟨rfl,.inr trivial⟩ | exact ⟨rfl,trivial⟩ | rfl | trivial)⟩
  ·rw [Bool.true_and]
   simp -implicitDefEqProofs (maxSteps:=5000000) only [go_sem,simprocAttr,itr,itq,hd,ix,c0,ht,hle,k1.1,k1.2,k2.1,k2.2,zAe,hK1,ix',c1,ht',hle',k3.1,k3.2,k4.1,k4.2,hK2,c3,c4,es,e2]
   exact key K2 _ _ _ _ _ _ _ _ _ _ _ _ _ _ _ _ _ a2 (by omega)
theorem eqFSn : (envL prog).call 60 [v,w,.fn 61 []] H = some (.bool (decide (L = M)),H):=by
 have wx:=g.len
 have wy:=f.len
 by_cases hl : L.length = M.length
 case neg =>
  have hn : ((L.length : Int) != (M.length : Int)) = true:=bne_iff_ne.2 (by omega)
  rw [decide_eq_false (fun e=>hl (by rw [e])),c60]
  unfold b60
  simp -implicitDefEqProofs (maxSteps:=5000000) only [go_sem,simprocAttr,itr,itq,wx,wy,hn]
 have hn : ((L.length : Int) != (M.length : Int)) = false:=by simp [hl]
 have l0:=eqFSnL g f fL fM hl (k:=L.length) (i:=0) (K:=H)
 rw [show ((0 : Nat) : Int) = 0 from rfl,List.drop_zero,List.drop_zero] at l0
 have key : Outs (runC (envL prog) (b60 (envL prog)) ([v,w,.fn 61 []] ++ List.replicate (32 - [v,w,AV.fn 61 []].length) .undef) H) fun e' t K=>Adds H K ∧ fin [.tmp 6] (some (e',t,K)) = some (.bool (decide (L = M)),K):=by
  unfold b60
  generalize hQ : (fun (e' : Ex) (t : T) (K : zAb)=>Adds H K ∧ fin [.tmp 6] (some (e',t,K)) = some (AV.bool (decide (L = M)),K)) = Q
  simp -implicitDefEqProofs (maxSteps:=5000000) only [go_sem,simprocAttr,itr,itq,zAj,wx,wy,hn]
  unfold LP1 at l0
  generalize (envL prog).loop (runC (envL prog) (l60x0 (envL prog))) = L0 at l0 ⊢
  refine zAq (fun r=>seqR (zAt 0 r) _) (l0 _ _ _ _ _ _ _ _ _ _ _ _ _ _ _ _ _ _ _ _ _ _ _ _ _ (Adds.refl H) (by omega)) ?_
  rintro e t K ⟨aK,fv,rfl,f6,⟨rfl,ho⟩ | ⟨rfl,ho⟩⟩
  ·rw [ho] at hQ
   simp -implicitDefEqProofs (maxSteps:=5000000) only [go_sem,simprocAttr,zAc]
   subst hQ
   refine ⟨aK,?_⟩
   simp -implicitDefEqProofs (maxSteps:=5000000) only [go_sem,simprocAttr]
  ·rw [ho] at hQ
   simp -implicitDefEqProofs (maxSteps:=5000000) only [go_sem,simprocAttr,zAc]
   subst hQ
   refine ⟨aK,?_⟩
   simp -implicitDefEqProofs (maxSteps:=5000000) only [go_sem,simprocAttr,f6]
 obtain ⟨e',t,K,hr,aK,hf⟩:=key
 rw [c60,hr,hf]; exact aK.trimS rfl
end
theorem dec_st (S T : StS) : decide (S = T) = (decide (S.dirty = T.dirty) && (decide (S.snaps = T.snaps) && (decide (S.next = T.next) && (decide (S.kind = T.kind) && (decide (S.pid = T.pid) && decide (S.pairs = T.pairs)))))):=by
 cases S; cases T; simp [StS.mk.injEq]
section
variable {H : zAb} {vd vs vp wd ws wp : AV} {S T : StS} (gd : IS H vd S.dirty) (gs : IsC H vs S.snaps) (gp : IsP H vp S.pairs) (gd' : IS H wd T.dirty) (gs' : IsC H ws T.snaps) (gp' : IsP H wp T.pairs) (fi : FitS S) (fi' : FitS T) (lD : S.dirty.length ≤ 1000000)
include gd gs gp gd' gs' gp' fi fi' lD
end
section
variable {H : zAb} {vd vs vp wd ws wp : AV} {S T : StS} (g : StA H vd vs vp S) (g' : StA H wd ws wp T) (fi : FitS S) (fi' : FitS T) (lD : S.dirty.length ≤ 1000000)
include g g' fi fi' lD
set_option maxHeartbeats 16000000 in
theorem sameC : (envL prog).call 20 [.agg [vd,vs,.int .i64 S.next,.int .i64 S.kind,.int .i64 S.pid,vp],.agg [wd,ws,.int .i64 T.next,.int .i64 T.kind,.int .i64 T.pid,wp]] H = some (.bool (decide (S = T)),H):=by
 have A : ∀ X,Adds H (H ++ X):=fun X=>⟨X,rfl⟩
 have e1:=fun X=>eqCI ((A X).is g.d) ((A X).is g'.d) (by omega)
 have e2:=fun X=>eqFSn (g.s.adds (A X)) (g'.s.adds (A X)) fi.s fi'.s
 have e3:=fun X=>eqCP (g.p.adds (A X)) (g'.p.adds (A X)) (by have:=fi.p; omega)
 have q1:=zKo S.next T.next
 have q2:=zKo S.kind T.kind
 have q3:=zKo S.pid T.pid
 have k1:=IS.cell g.d
 have k2:=g.s.cell
 have k3:=g.p.cell
 have k4:=IS.cell g'.d
 have k5:=g'.s.cell
 have k6:=g'.p.cell
 have ds : decide (S = T) = (decide (S.next = T.next) && (decide (S.kind = T.kind) && (decide (S.pid = T.pid) && (decide (S.pairs = T.pairs) && (decide (S.dirty = T.dirty) && decide (S.snaps = T.snaps)))))):=by
  rw [dec_st]
  cases decide (S.next = T.next) <;> cases decide (S.kind = T.kind) <;> cases decide (S.pid = T.pid) <;> cases decide (S.pairs = T.pairs) <;> cases decide (S.dirty = T.dirty) <;> cases decide (S.snaps = T.snaps) <;> rfl
 rw [ds,c20]
 unfold b20
 rcases h3 : decide (S.next = T.next) with _ | _ <;> rw [h3] at q1
 ·simp -implicitDefEqProofs (maxSteps:=5000000) only [go_sem,simprocAttr,itr,itq,zAe,k1.1,k1.2,k2.1,k2.2,k3.1,k3.2,k4.1,k4.2,k5.1,k5.2,k6.1,k6.2,q1]
 rcases h4 : decide (S.kind = T.kind) with _ | _ <;> rw [h4] at q2
 ·simp -implicitDefEqProofs (maxSteps:=5000000) only [go_sem,simprocAttr,itr,itq,zAe,k1.1,k1.2,k2.1,k2.2,k3.1,k3.2,k4.1,k4.2,k5.1,k5.2,k6.1,k6.2,q1,q2]
 rcases h5 : decide (S.pid = T.pid) with _ | _ <;> rw [h5] at q3
 ·simp -implicitDefEqProofs (maxSteps:=5000000) only [go_sem,simprocAttr,itr,itq,zAe,k1.1,k1.2,k2.1,k2.2,k3.1,k3.2,k4.1,k4.2,k5.1,k5.2,k6.1,k6.2,q1,q2,q3]
 rcases h6 : decide (S.pairs = T.pairs) with _ | _ <;> simp only [h6] at e3
 ·simp -implicitDefEqProofs (maxSteps:=5000000) only [go_sem,simprocAttr,itr,itq,zAe,k1.1,k1.2,k2.1,k2.2,k3.1,k3.2,k4.1,k4.2,k5.1,k5.2,k6.1,k6.2,q1,q2,q3,e3]
 rcases h1 : decide (S.dirty = T.dirty) with _ | _ <;> simp only [h1] at e1
 ·simp -implicitDefEqProofs (maxSteps:=5000000) only [go_sem,simprocAttr,itr,itq,zAe,k1.1,k1.2,k2.1,k2.2,k3.1,k3.2,k4.1,k4.2,k5.1,k5.2,k6.1,k6.2,q1,q2,q3,e3,e1]
 ·simp -implicitDefEqProofs (maxSteps:=5000000) only [go_sem,simprocAttr,itr,itq,zAe,k1.1,k1.2,k2.1,k2.2,k3.1,k3.2,k4.1,k4.2,k5.1,k5.2,k6.1,k6.2,q1,q2,q3,e3,e1,e2]
end
end Go.Proofs.Ythgflkfhjnbheaa.G14
end
section
namespace Go.Proofs.Ythgflkfhjnbheaa.G14
open Go Go.Proofs.Ythgflkfhjnbheaa.Eng
def IsCr (H : zAb) (v : AV) (L : List SnS) (rows : List (List AV)) : Prop:=(v = .nilSl ∧ L = [] ∧ rows = []) ∨ ∃ b n e X,v = .sl b 0 3 L.length n e ∧ L.length ≤ n ∧ cellsOf H b = some (rows.flatten ++ X) ∧ ChR H rows L
theorem IsCr.adds {H H' : zAb} {v : AV} {L : List SnS} {rows : List (List AV)} (g : IsCr H v L rows) (a : Adds H H') : IsCr H' v L rows:=by
 rcases g with h | ⟨b,n,e,X,h1,h2,h3,h4⟩
 ·exact .inl h
 ·exact .inr ⟨b,n,e,X,h1,h2,a.cells h3,h4.adds a⟩
theorem isc_r {H : zAb} {v : AV} {L : List SnS} (g : IsC H v L) : ∃ rows,IsCr H v L rows ∧ ∀ r ∈ rows,∀ x ∈ r,∀ z,slb x = some z → z < H.length:=by
 rcases g with ⟨rfl,rfl⟩ | ⟨b,n,e,rows,X,h1,h2,h3,h4⟩
 ·exact ⟨[],.inl ⟨rfl,rfl,rfl⟩,fun r hr=>by cases hr⟩
 ·exact ⟨rows,.inr ⟨b,n,e,X,h1,h2,h3,h4⟩,fun r hr x hx z hz=>by obtain ⟨s,_,q⟩:=h4.row hr; exact q.lt x hx z hz⟩
theorem IsCr.ch {H : zAb} {v : AV} {L : List SnS} {rows : List (List AV)} (g : IsCr H v L rows) : ChR H rows L:=by
 rcases g with ⟨_,rfl,rfl⟩ | ⟨_,_,_,_,_,_,_,h⟩
 ·exact ⟨rfl,fun i r s h=>by simp at h⟩
 ·exact h
theorem IsCr.src {H : zAb} {v : AV} {L : List SnS} {rows : List (List AV)} (g : IsCr H v L rows) : Src 3 H v L.length rows.flatten:=by
 rcases g with ⟨rfl,rfl,rfl⟩ | ⟨b,n,e,X,rfl,hn,hc,hr⟩
 ·exact Src.nil 3 H
 ·have hl:=zC7 hr.len3
  refine ⟨rfl,rfl,?_,by rw [hl,hr.len],?_⟩
  ·unfold zA1 zBt
   simp only [if_true,hc,Option.bind_some,Nat.zero_add,List.drop_zero]
   rw [if_pos (by rw [List.length_append,hl,hr.len]; omega),List.take_left' (by rw [hl,hr.len])]
  ·rw [List.all_flatten,List.all_eq_true]
   exact zTx hr
section
variable {H : zAb} {v : AV}
set_option maxHeartbeats 4000000 in
theorem cloneI {zs : List Int} (g : IS H v zs) (hn : zs.length ≤ 1000000) : ∃ v' K,(envL prog).call 54 [v] H = some (v',K) ∧ Adds H K ∧ IS K v' zs ∧ zIy v' ∧ ∀ b,slb v' = some b → H.length ≤ b:=by
 rw [c54]
 unfold b54
 rcases g with ⟨rfl,rfl⟩ | ⟨b,o,l,e,cs,rfl,hc,hg,hle⟩
 ·refine ⟨.nilSl,H,?_,Adds.refl H,.inl ⟨rfl,rfl⟩,fun _ _ _ _ _ _ h=>(by cases h),fun b h=>(by cases h)⟩
  simp -implicitDefEqProofs (maxSteps:=5000000) only [go_sem,simprocAttr,itr,itq]
 ·have gi : IS (H ++ [.rw []]) (.sl b o 1 zs.length l e) zs:=.inr ⟨b,o,l,e,cs,rfl,zBz hc,hg,hle⟩
  obtain ⟨v',K,ea,A,g',ok,s⟩:=is_app (K:=H ++ [.rw []]) (b:=H.length) (by simp) gi hn
  have A0 : Adds H K:=Adds.trans ⟨_,rfl⟩ A
  have wb : ∀ b,slb v' = some b → H.length ≤ b:=fun b hb=>by
   rcases s with q | q <;> rw [q] at hb <;> injection hb with hb
   ·omega
   ·rw [List.length_append,List.length_singleton] at hb; omega
  have u : v'.under H.length = false:=by
   rcases hw : v'.under H.length with _ | _
   ·rfl
   ·rcases s with q | q <;> (have:=zB3 hw q; have:=wb _ q; omega)
  refine ⟨v',K,?_,A0,g',ok,wb⟩
  have tk:=zA9 (h1:=K) u
  simp -implicitDefEqProofs (maxSteps:=5000000) only [go_sem,simprocAttr,itr,itq,ea,tk]
set_option maxHeartbeats 4000000 in
theorem cloneSn {L : List SnS} {rows : List (List AV)} (g : IsCr H v L rows) (hn : L.length ≤ 1000000) : ∃ v' K,(envL prog).call 56 [v] H = some (v',K) ∧ Adds H K ∧ ((L = [] ∧ IsC K v' [] ∧ ∀ b,slb v' = some b → H.length ≤ b) ∨ (L ≠ [] ∧ ∃ c,H.length ≤ c ∧ v' = .sl c 0 3 L.length L.length false ∧ K[c]? = some (.rw rows.flatten) ∧ ChR K rows L)):=by
 rw [c56]
 unfold b56
 have hr : (roomy : Nat) = 140737488355328:=rfl
 by_cases hv : v = .nilSl
 ·subst hv
  rcases g with ⟨_,rfl,_⟩ | ⟨_,_,_,_,h,_⟩
  ·refine ⟨.nilSl,H,?_,Adds.refl H,.inl ⟨rfl,.inl ⟨rfl,rfl⟩,fun b h=>(by cases h)⟩⟩
   simp -implicitDefEqProofs (maxSteps:=5000000) only [go_sem,simprocAttr,itr,itq]
  ·cases h
 ·have s:=(g.adds (⟨[.rw []],rfl⟩ : Adds H (H ++ [.rw []]))).src
  have cr:=g.ch
  obtain ⟨b,n,e,rfl⟩ : ∃ b n e,v = .sl b 0 3 L.length n e:=by
   rcases g with ⟨h,_⟩ | ⟨b,n,e,_,h,_⟩
   ·exact absurd h hv
   ·exact ⟨b,n,e,h⟩
  obtain ⟨v',K,ea,h⟩:=zHp (k:=3) (d:=ty 3 true 56 [.int .i64 0,.nilSl,.nilSl]) (K:=H ++ [.rw []]) (b:=H.length) (by omega) rfl (by decide) (by simp) s (by show L.length * 56 ≤ _; omega)
  rcases h with ⟨h0,rfl,rfl⟩ | ⟨h0,rfl,rfl⟩
  ·obtain rfl:=List.length_eq_zero_iff.1 h0
   rw [List.length_nil] at ea
   have tk : trim H (some (AV.sl H.length 0 3 0 0 true,H ++ [.rw []])) = some (AV.sl H.length 0 3 0 0 true,H ++ [.rw []]):=zA9 (by simp [AV.under])
   refine ⟨_,H ++ [.rw []],?_,⟨_,rfl⟩,.inl ⟨rfl,.inr ⟨H.length,0,true,[],[],rfl,Nat.le_refl _,zAm (by simp),⟨rfl,fun i r s h=>by simp at h⟩⟩,fun b hb=>by injection hb with hb; omega⟩⟩
   simp -implicitDefEqProofs (maxSteps:=5000000) only [go_sem,simprocAttr,itr,itq,ea,tk]
  ·obtain ⟨K1,hK1⟩ : ∃ K1,K1 = (H ++ [ABlk.rw []]) ++ [.rw rows.flatten]:=⟨_,rfl⟩
   obtain ⟨c,hcc⟩ : ∃ c,c = (H ++ [ABlk.rw []]).length:=⟨_,rfl⟩
   have hc1 : H.length ≤ c:=by rw [hcc]; simp
   rw [← hK1,← hcc] at ea
   have tk : trim H (some (AV.sl c 0 3 L.length L.length false,K1)) = some (AV.sl c 0 3 L.length L.length false,K1):=zA9 (by simp [AV.under]; omega)
   have A : Adds H K1:=by rw [hK1,List.append_assoc]; exact ⟨_,rfl⟩
   refine ⟨_,K1,?_,A,.inr ⟨fun e=>by rw [e] at h0; exact h0 rfl,c,hc1,rfl,by rw [hK1,hcc]; simp,cr.adds A⟩⟩
   simp -implicitDefEqProofs (maxSteps:=5000000) only [go_sem,simprocAttr,itr,itq,ea,tk]
end
theorem own_lt {K : zAb} {w : AV} {G : zAb} {ys : List Int} (o : Bt.Own K w G ys) : ∀ b,slb w = some b → K.length ≤ b:=by
 rcases o with ⟨_,⟨rfl,_⟩ | ⟨rfl,_⟩⟩ | ⟨_,rfl,_⟩ <;> intro b hb
 ·cases hb
 ·injection hb with hb; omega
 ·injection hb with hb; omega
section
variable {H : zAb} {q c d : Nat} {vd vp nx kd pd : AV} {L : List SnS} (fi : Fits L) (hq : cellsOf H q = some [vd,.sl c 0 3 L.length L.length false,nx,kd,pd,vp]) (qc : q ≠ c) (lc : c < H.length) (ld : d < H.length)
include fi hq qc lc ld
set_option maxHeartbeats 8000000 in
theorem cpL (x0 x2 x5 x6 x7 x8 x9 x10 x11 x12 x13 x14 x15 x16 x17 x18 x19 x20 x46 : AV) : ∀ (m i : Nat) (K : zAb) (rs : List (List AV)) (j3 j4 j23 j24 j25 j26 j27 j28 j29 j30 j31 j32 j33 j34 j35 j36 j37 j38 j39 j40 j41 j42 j43 j44 j45 : AV),Fr H K (· = c) → K[c]? = some (.rw rs.flatten) → ChR K rs L → (∀ r ∈ rs,∀ x ∈ r,∀ z,slb x = some z → z ≠ c ∧ z ≠ d) → i + m = L.length →
  Outs (LP1 l19x0 [x0,.ptr q 0,x2,j3,j4,x5,x6,x7,x8,x9,x10,x11,x12,x13,x14,x15,x16,x17,x18,x19,x20,.int .i64 (L.length : Int),.int .i64 (i : Int),j23,j24,j25,j26,j27,j28,j29,j30,j31,j32,j33,j34,j35,j36,j37,j38,j39,j40,j41,j42,j43,j44,j45,x46] K) fun e t K'=>e = .exit 0 ∧ (Fr H K' (· = c) ∧ ∃ rs,K'[c]? = some (.rw rs.flatten) ∧ ChR K' rs L ∧ ∀ r ∈ rs,∀ x ∈ r,∀ z,slb x = some z → z ≠ c ∧ z ≠ d) ∧ ∃ fv : Nat → AV,t = [x0,.ptr q 0,x2,(fv 3),(fv 4),x5,x6,x7,x8,x9,x10,x11,x12,x13,x14,x15,x16,x17,x18,x19,x20,.int .i64 (L.length : Int),(fv 22),(fv 23),(fv 24),(fv 25),(fv 26),(fv 27),(fv 28),(fv 29),(fv 30),(fv 31),(fv 32),(fv 33),(fv 34),(fv 35),(fv 36),(fv 37),(fv 38),(fv 39),(fv 40),(fv 41),(fv 42),(fv 43),(fv 44),(fv 45),x46]:=by
 intro m
 obtain ⟨L0,hL0⟩ : ∃ L,L = LP1 l19x0:=⟨_,rfl⟩
 have lo:=zAr hL0
 have fl:=fi.1
 rw [← hL0]
 induction m with
 | zero =>
  intro i K rs j3 j4 j23 j24 j25 j26 j27 j28 j29 j30 j31 j32 j33 j34 j35 j36 j37 j38 j39 j40 j41 j42 j43 j44 j45 fK hs g ro hi
  obtain rfl : i = L.length:=by omega
  have hd : decide ((L.length : Int) < (L.length : Int)) = false:=by simp
  rw [lo]
  unfold l19x0
  simp -implicitDefEqProofs (maxSteps:=5000000) only [go_sem,simprocAttr,hd,zAh,zAc]
  exact ⟨⟨fK,rs,hs,g,ro⟩,exF rfl⟩
 | succ m ih =>
  intro i K rs j3 j4 j23 j24 j25 j26 j27 j28 j29 j30 j31 j32 j33 j34 j35 j36 j37 j38 j39 j40 j41 j42 j43 j44 j45 fK hs g ro hi
  have hlt : i < L.length:=by omega
  have hd : decide ((i : Int) < (L.length : Int)) = true:=decide_eq_true (by omega)
  have e2 : IntKind.i64.wrap ((i : Int) + 1) = ((i + 1 : Nat) : Int):=by rw [zAl (by omega) (by omega)]; omega
  have kl:=fK.1
  have hx:=List.getElem?_eq_getElem hlt
  have ft:=zCx fi hx
  generalize L[i] = s at *
  obtain ⟨r,hr,gr⟩:=g.get hx
  obtain ⟨vc,vt,rfl,bc,pt⟩:=zRa gr
  have l3:=g.len3
  have hl:=zC7 l3
  have ln:=g.len
  have im : i * 3 + 3 ≤ rs.flatten.length:=by rw [hl,ln]; omega
  obtain ⟨vc',G,o1,e1⟩:=Bt.cloneC bc (by have:=ft.lc; omega)
  obtain ⟨K1,hK1⟩ : ∃ K1,K1 = K ++ G:=⟨_,rfl⟩
  have A1 : Adds K K1:=⟨_,hK1⟩
  have b1:=o1.bs
  rw [← hK1] at e1 b1
  obtain ⟨vt',K2,e3,A2,g2⟩:=cloneC (pt.adds A1) (by have:=ft.lt; omega)
  have l1:=A1.len
  have l2:=A2.len
  have o2:=g2.out
  have k1:=b1.cell
  have k2:=g2.isP.cell
  have s2 : K2[c]? = some (.rw rs.flatten):=(A1.trans A2).at hs
  have w1:=zGl (f:=1) (v:=vc') s2 l3 hr (by omega) k1.2
  obtain ⟨rs1,hrs1⟩ : ∃ rs1,rs1 = rs.set i [.int .i64 s.id,vc',vt]:=⟨_,rfl⟩
  rw [show ([AV.int .i64 s.id,vc,vt]).set 1 vc' = [AV.int .i64 s.id,vc',vt] from rfl,← hrs1] at w1
  obtain ⟨K3,hK3⟩ : ∃ K3,K3 = K2.set c (.rw rs1.flatten):=⟨_,rfl⟩
  rw [← hK3] at w1
  have s3 : K3[c]? = some (.rw rs1.flatten):=by rw [hK3]; exact zBf _ _ _ (by omega)
  have nl : i < rs.length:=by omega
  have h1 : rs1[i]? = some [.int .i64 s.id,vc',vt]:=by rw [hrs1,List.getElem?_set_self nl]
  have l31 : ∀ r ∈ rs1,r.length = 3:=fun r hr=>by
   rw [hrs1] at hr
   rcases List.mem_or_eq_of_mem_set hr with h | rfl
   ·exact l3 r h
   ·rfl
  have w2:=zGl (f:=2) (v:=vt') s3 l31 h1 (by omega) k2.2
  obtain ⟨rs2,hrs2⟩ : ∃ rs2,rs2 = rs.set i [.int .i64 s.id,vc',vt']:=⟨_,rfl⟩
  rw [show ([AV.int .i64 s.id,vc',vt]).set 2 vt' = [AV.int .i64 s.id,vc',vt'] from rfl,hrs1,List.set_set,← hrs2] at w2
  obtain ⟨K4,hK4⟩ : ∃ K4,K4 = K3.set c (.rw rs2.flatten):=⟨_,rfl⟩
  rw [← hK4] at w2
  have s4 : K4[c]? = some (.rw rs2.flatten):=by rw [hK4]; exact zBf _ _ _ (by rw [hK3,List.length_set]; omega)
  have f24 : Fr K2 K4 (· = c):=by
   rw [hK4,hK3]; exact (Fr.set (F:=(· = c)) _ _ rfl).trans (Fr.set (F:=(· = c)) _ _ rfl) fun _ _ h=>h
  have f04 : Fr K K4 (· = c):=(Fr.adds (A1.trans A2) _).trans f24 fun _ _ h=>h
  have fH4 : Fr H K4 (· = c):=fK.trans f04 fun _ _ h=>h
  have ro4 : ∀ r ∈ rs2,∀ x ∈ r,∀ z,slb x = some z → z ≠ c ∧ z ≠ d:=fun r hr x hx z hz=>by
   rw [hrs2] at hr
   rcases List.mem_or_eq_of_mem_set hr with h | rfl
   ·exact ro r h x hx z hz
   ·simp only [List.mem_cons,List.not_mem_nil,or_false] at hx
    rcases hx with rfl | rfl | rfl
    ·cases hz
    ·have:=own_lt o1 z hz; omega
    ·have:=(o2 z hz).1; omega
  have g4 : ChR K4 rs2 L:=by
   refine ⟨by rw [hrs2,List.length_set]; exact ln,fun j r' s' h1 h2=>?_⟩
   rw [hrs2] at h1
   by_cases hj : i = j
   ·subst hj
    rw [List.getElem?_set_self nl] at h1
    rw [hx] at h2
    injection h1 with h1; injection h2 with h2
    subst h1; subst h2
    exact ⟨vc',vt',rfl,(A2.bs b1).fr f24 fun z hz h=>by have:=own_lt o1 z hz; omega,g2.isP.fr f24 fun z hz h=>by have:=(o2 z hz).1; omega⟩
   ·rw [List.getElem?_set_ne hj] at h1
    exact (g.el j r' s' h1 h2).fr f04 fun x hx z hz=>(ro r' (List.mem_of_getElem? h1) x hx z hz).1
  have cq:=fK.cells hq qc
  have cq1:=A1.cells cq
  have cq2:=A2.cells cq1
  have ix : zA6 3 (.sl c 0 3 L.length L.length false) (.int .i64 (i : Int)) = some (.ptr c (i * 3)):=zFg c 3 _ _ i false .i64 (by omega) hlt
  have cc:=zAm hs
  have cc1:=A1.cells cc
  have cc2:=A2.cells cc1
  have cc3:=zAm s3
  have q1 : rs.flatten[i * 3 + 1]? = some vc:=by rw [zDl l3 hr 1 (by omega)]; rfl
  have q2 : rs.flatten[i * 3 + 2]? = some vt:=by rw [zDl l3 hr 2 (by omega)]; rfl
  have key:=ih (i + 1) K4 rs2
  rw [lo]
  unfold l19x0
  simp -implicitDefEqProofs (maxSteps:=5000000) only [go_sem,simprocAttr,itr,itq,hd,cq,cq1,cq2,ix,cc,cc1,cc2,cc3,q1,q2,e1,e3,k1.1,k1.2,k2.1,k2.2,w1,w2,e2]
  exact key _ _ _ _ _ _ _ _ _ _ _ _ _ _ _ _ _ _ _ _ _ _ _ _ _ fH4 s4 g4 ro4 (by omega)
end
set_option maxHeartbeats 4000000 in
theorem cpL_nil {K : zAb} {q : Nat} (x0 x2 x5 x6 x7 x8 x9 x10 x11 x12 x13 x14 x15 x16 x17 x18 x19 x20 x46 : AV) (j3 j4 j23 j24 j25 j26 j27 j28 j29 j30 j31 j32 j33 j34 j35 j36 j37 j38 j39 j40 j41 j42 j43 j44 j45 : AV) :
  Outs (LP1 l19x0 [x0,.ptr q 0,x2,j3,j4,x5,x6,x7,x8,x9,x10,x11,x12,x13,x14,x15,x16,x17,x18,x19,x20,.int .i64 0,.int .i64 0,j23,j24,j25,j26,j27,j28,j29,j30,j31,j32,j33,j34,j35,j36,j37,j38,j39,j40,j41,j42,j43,j44,j45,x46] K) fun e t K'=>e = .exit 0 ∧ K' = K ∧ ∃ fv : Nat → AV,t = [x0,.ptr q 0,x2,(fv 3),(fv 4),x5,x6,x7,x8,x9,x10,x11,x12,x13,x14,x15,x16,x17,x18,x19,x20,.int .i64 0,(fv 22),(fv 23),(fv 24),(fv 25),(fv 26),(fv 27),(fv 28),(fv 29),(fv 30),(fv 31),(fv 32),(fv 33),(fv 34),(fv 35),(fv 36),(fv 37),(fv 38),(fv 39),(fv 40),(fv 41),(fv 42),(fv 43),(fv 44),(fv 45),x46]:=by
 obtain ⟨L0,hL0⟩ : ∃ L,L = LP1 l19x0:=⟨_,rfl⟩
 have lo:=zAr hL0
 rw [← hL0,lo]
 unfold l19x0
 simp -implicitDefEqProofs (maxSteps:=5000000) only [go_sem,simprocAttr,itr,itq,zAh,zAc]
 exact exF rfl
end Go.Proofs.Ythgflkfhjnbheaa.G14
end
section
namespace Go.Proofs.Ythgflkfhjnbheaa.G14
open Go Go.Proofs.Ythgflkfhjnbheaa.Eng
theorem sta_end {H K : zAb} {wd ws wp : AV} {S : StS} {n k p : Int} (a : Adds H K) (g : StA K wd ws wp S) (wb : ∀ x ∈ [wd,ws,wp],∀ b,slb x = some b → H.length ≤ b) : ∃ K',trim H (some (.agg [wd,ws,.int .i64 n,.int .i64 k,.int .i64 p,wp],K)) = some (.agg [wd,ws,.int .i64 n,.int .i64 k,.int .i64 p,wp],K') ∧ Adds H K' ∧ StA K' wd ws wp S:=by
 rcases zEi (v:=.agg [wd,ws,.int .i64 n,.int .i64 k,.int .i64 p,wp]) a with e | ⟨u,e⟩
 ·exact ⟨K,e,a,g⟩
 ·refine ⟨H,e,Adds.refl H,?_⟩
  have u2 : zA7 H.length [wd,ws,.int .i64 n,.int .i64 k,.int .i64 p,wp] = true:=u
  simp only [zA7,Bool.and_eq_true] at u2
  have no : ∀ x ∈ [wd,ws,wp],slb x = none:=fun x hx=>by
   cases hb : slb x with
   | none=>rfl
   | some b =>
    have h1:=wb x hx b hb
    simp only [List.mem_cons,List.not_mem_nil,or_false] at hx
    rcases hx with rfl | rfl | rfl
    ·have:=zB3 u2.1 hb; omega
    ·have:=zB3 u2.2.1 hb; omega
    ·have:=zB3 u2.2.2.2.2.2.1 hb; omega
  have nd:=no wd (by simp)
  have ns:=no ws (by simp)
  have np:=no wp (by simp)
  refine ⟨?_,g.ok,?_,?_⟩
  ·rcases g.d with h | ⟨_,_,_,_,_,rfl,_⟩
   ·exact .inl h
   ·cases nd
  ·rcases g.s with h | ⟨_,_,_,_,_,rfl,_⟩
   ·exact .inl h
   ·cases ns
  ·rcases g.p with h | ⟨_,_,_,_,_,rfl,_⟩
   ·exact .inl h
   ·cases np
section
variable {H : zAb} {vd vs vp : AV} {S : StS} (g : StA H vd vs vp S) (fi : FitS S) (lD : S.dirty.length ≤ 1000000)
include g fi lD
set_option maxHeartbeats 16000000 in
theorem stCopyC : ∃ wd ws wp K,(envL prog).call 19 [.agg [vd,vs,.int .i64 S.next,.int .i64 S.kind,.int .i64 S.pid,vp]] H = some (.agg [wd,ws,.int .i64 S.next,.int .i64 S.kind,.int .i64 S.pid,wp],K) ∧ Adds H K ∧ StA K wd ws wp S:=by
 have cd:=IS.cell g.d
 have cc:=g.s.cell
 have cp:=g.p.cell
 have fl:=fi.s.1
 obtain ⟨H1,hH1⟩ : ∃ H1,H1 = H ++ [ABlk.rw [vd,vs,.int .i64 S.next,.int .i64 S.kind,.int .i64 S.pid,vp],.rw [.nilSl,.nilSl,.int .i64 0,.int .i64 0,.int .i64 0,.nilSl]]:=⟨_,rfl⟩
 have A1 : Adds H H1:=⟨_,hH1⟩
 have l1 : H1.length = H.length + 2:=by rw [hH1]; simp
 have q1 : H1[H.length]? = some (.rw [vd,vs,.int .i64 S.next,.int .i64 S.kind,.int .i64 S.pid,vp]):=by rw [hH1]; simp
 have b1 : H1[H.length + 1]? = some (.rw [.nilSl,.nilSl,.int .i64 0,.int .i64 0,.int .i64 0,.nilSl]):=by rw [hH1]; simp
 obtain ⟨wd,K2,e2,A2,g2,ok2,s2⟩:=cloneI (A1.is g.d) lD
 obtain ⟨wp,K3,e3,A3,g3⟩:=cloneC ((g.p.adds A1).adds A2) (by have:=fi.p; omega)
 obtain ⟨rows,gr,rlt⟩:=isc_r g.s
 obtain ⟨ws,K4,e4,A4,h4⟩:=cloneSn (((gr.adds A1).adds A2).adds A3) (by omega)
 have l2:=A2.len
 have l3:=A3.len
 have l4:=A4.len
 have o3:=g3.out
 have q2:=A2.at q1
 have q3:=A3.at q2
 have q4:=A4.at q3
 have c1:=zAm q1
 have c2:=zAm q2
 have c3:=zAm q3
 have c4:=zAm q4
 have b4:=A4.at (A3.at (A2.at b1))
 have kd:=IS.cell g2
 have kp:=g3.isP.cell
 have wsc : zAy ws = some [ws] ∧ ws.isCell = true:=by
  rcases h4 with ⟨_,h,_⟩ | ⟨_,c,_,rfl,_⟩
  ·exact h.cell
  ·exact ⟨rfl,rfl⟩
 have wsl : zDi ws = some (.int .i64 (S.snaps.length : Int)):=by
  rcases h4 with ⟨e,h,_⟩ | ⟨_,c,_,rfl,_⟩
  ·rw [e]; exact h.len
  ·rfl
 have wsb : ∀ b,slb ws = some b → K3.length ≤ b:=by
  rcases h4 with ⟨_,_,h⟩ | ⟨_,c,hc,rfl,_⟩
  ·exact h
  ·intro b hb; injection hb with hb; omega
 have w1 : zA4 K4 H.length 0 [wd] = some (K4.set H.length (.rw [wd,vs,.int .i64 S.next,.int .i64 S.kind,.int .i64 S.pid,vp])):=by
  rw [zA5 q4,if_pos ⟨by simp,by simp only [List.all_cons,kd.2]; rfl⟩]; rfl
 obtain ⟨U1,hU1⟩ : ∃ U1,U1 = K4.set H.length (.rw [wd,vs,.int .i64 S.next,.int .i64 S.kind,.int .i64 S.pid,vp]):=⟨_,rfl⟩
 rw [← hU1] at w1
 have x1 : U1[H.length]? = some (.rw [wd,vs,.int .i64 S.next,.int .i64 S.kind,.int .i64 S.pid,vp]):=by rw [hU1]; exact zBf _ _ _ (by omega)
 have w2 : zA4 U1 H.length 5 [wp] = some (U1.set H.length (.rw [wd,vs,.int .i64 S.next,.int .i64 S.kind,.int .i64 S.pid,wp])):=by
  rw [zA5 x1,if_pos ⟨by simp,by simp only [List.all_cons,kp.2]; rfl⟩]; rfl
 obtain ⟨U2,hU2⟩ : ∃ U2,U2 = U1.set H.length (.rw [wd,vs,.int .i64 S.next,.int .i64 S.kind,.int .i64 S.pid,wp]):=⟨_,rfl⟩
 rw [← hU2] at w2
 have lx1 : U1.length = K4.length:=by rw [hU1]; simp
 have x2 : U2[H.length]? = some (.rw [wd,vs,.int .i64 S.next,.int .i64 S.kind,.int .i64 S.pid,wp]):=by rw [hU2]; exact zBf _ _ _ (by omega)
 have w3 : zA4 U2 H.length 1 [ws] = some (U2.set H.length (.rw [wd,ws,.int .i64 S.next,.int .i64 S.kind,.int .i64 S.pid,wp])):=by
  rw [zA5 x2,if_pos ⟨by simp,by simp only [List.all_cons,wsc.2]; rfl⟩]; rfl
 obtain ⟨U3,hU3⟩ : ∃ U3,U3 = U2.set H.length (.rw [wd,ws,.int .i64 S.next,.int .i64 S.kind,.int .i64 S.pid,wp]):=⟨_,rfl⟩
 rw [← hU3] at w3
 have lx2 : U2.length = K4.length:=by rw [hU2]; simp [lx1]
 have lx3 : U3.length = K4.length:=by rw [hU3]; simp [lx2]
 have x3 : U3[H.length]? = some (.rw [wd,ws,.int .i64 S.next,.int .i64 S.kind,.int .i64 S.pid,wp]):=by rw [hU3]; exact zBf _ _ _ (by omega)
 have fx : Fr K4 U3 (· = H.length):=by
  rw [hU3,hU2,hU1]; exact ((Fr.set (F:=(· = H.length)) _ _ rfl).trans (Fr.set (F:=(· = H.length)) _ _ rfl) fun _ _ h=>h).trans (Fr.set (F:=(· = H.length)) _ _ rfl) fun _ _ h=>h
 have y1:=zAm x1
 have y2:=zAm x2
 have y3:=zAm x3
 have l0 : ∀ x0 x2 x5 x6 x7 x8 x9 x10 x11 x12 x13 x14 x15 x16 x17 x18 x19 x20 x46 j3 j4 j23 j24 j25 j26 j27 j28 j29 j30 j31 j32 j33 j34 j35 j36 j37 j38 j39 j40 j41 j42 j43 j44 j45,Outs (LP1 l19x0 [x0,.ptr H.length 0,x2,j3,j4,x5,x6,x7,x8,x9,x10,x11,x12,x13,x14,x15,x16,x17,x18,x19,x20,.int .i64 (S.snaps.length : Int),.int .i64 0,j23,j24,j25,j26,j27,j28,j29,j30,j31,j32,j33,j34,j35,j36,j37,j38,j39,j40,j41,j42,j43,j44,j45,x46] U3) fun e t K'=>e = .exit 0 ∧ (Fr U3 K' (fun x=>slb ws = some x) ∧ ∀ K'',Fr K' K'' (· = H.length + 1) → IsC K'' ws S.snaps) ∧ ∃ fv : Nat → AV,t = [x0,.ptr H.length 0,x2,(fv 3),(fv 4),x5,x6,x7,x8,x9,x10,x11,x12,x13,x14,x15,x16,x17,x18,x19,x20,.int .i64 (S.snaps.length : Int),(fv 22),(fv 23),(fv 24),(fv 25),(fv 26),(fv 27),(fv 28),(fv 29),(fv 30),(fv 31),(fv 32),(fv 33),(fv 34),(fv 35),(fv 36),(fv 37),(fv 38),(fv 39),(fv 40),(fv 41),(fv 42),(fv 43),(fv 44),(fv 45),x46]:=by
  intro x0 x2 x5 x6 x7 x8 x9 x10 x11 x12 x13 x14 x15 x16 x17 x18 x19 x20 x46 j3 j4 j23 j24 j25 j26 j27 j28 j29 j30 j31 j32 j33 j34 j35 j36 j37 j38 j39 j40 j41 j42 j43 j44 j45
  rcases h4 with ⟨e,h,hb⟩ | ⟨h0,c,hc,rfl,hK,cr⟩
  ·have:=cpL_nil (K:=U3) (q:=H.length) x0 x2 x5 x6 x7 x8 x9 x10 x11 x12 x13 x14 x15 x16 x17 x18 x19 x20 x46 j3 j4 j23 j24 j25 j26 j27 j28 j29 j30 j31 j32 j33 j34 j35 j36 j37 j38 j39 j40 j41 j42 j43 j44 j45
   rw [e]
   refine this.mono fun e' t K' ⟨h1,h2,h3⟩=>⟨h1,⟨?_,?_⟩,h3⟩
   ·subst h2; exact Fr.refl _ _
   ·subst h2
    intro K'' f''
    rcases h with h | ⟨b,n,ex,rws,Y,rfl,hn,hcc,hr⟩
    ·exact .inl h
    ·obtain rfl : rws = []:=List.length_eq_zero_iff.1 hr.len
     exact .inr ⟨b,n,ex,[],Y,rfl,hn,f''.cells (fx.cells hcc (by have:=hb b rfl; show ¬ b = H.length; omega)) (by have:=hb b rfl; show ¬ b = H.length + 1; omega),⟨rfl,fun i r s h=>by simp at h⟩⟩
  ·have ro : ∀ r ∈ rows,∀ x ∈ r,∀ z,slb x = some z → z ≠ c ∧ z ≠ H.length + 1:=fun r hr x hx z hz=>by
    have:=rlt r hr x hx z hz; omega
   have g' : ChR U3 rows S.snaps:=cr.fr fx fun r hr x hx z hz h=>by have:=rlt r hr x hx z hz; omega
   have:=cpL (H:=U3) (q:=H.length) (c:=c) (d:=H.length + 1) (nx:=.int .i64 S.next) (kd:=.int .i64 S.kind) (pd:=.int .i64 S.pid) fi.s y3 (by omega) (by have:=zBb hK; omega) (by omega) x0 x2 x5 x6 x7 x8 x9 x10 x11 x12 x13 x14 x15 x16 x17 x18 x19 x20 x46 S.snaps.length 0 U3 rows j3 j4 j23 j24 j25 j26 j27 j28 j29 j30 j31 j32 j33 j34 j35 j36 j37 j38 j39 j40 j41 j42 j43 j44 j45 (Fr.refl _ _) (fx.at hK (by show ¬ c = H.length; omega)) g' ro (by omega)
   refine this.mono fun e' t K' ⟨h1,⟨h2,rs,h3,h4,h6⟩,h5⟩=>⟨h1,⟨h2.mono fun x _ hx=>by show some c = some x; rw [hx],fun K'' f''=>?_⟩,h5⟩
   refine .inr ⟨c,S.snaps.length,false,rs,[],rfl,Nat.le_refl _,by rw [List.append_nil]; exact f''.cells (zAm h3) (by show ¬ c = H.length + 1; omega),h4.fr f'' fun r hr x hx z hz=>(h6 r hr x hx z hz).2⟩
 have hH1':=hH1.symm
 have wdb : ∀ x ∈ [wd,ws,wp],∀ b,slb x = some b → H.length ≤ b:=fun x hx b hb=>by
  simp only [List.mem_cons,List.not_mem_nil,or_false] at hx
  rcases hx with rfl | rfl | rfl
  ·have:=s2 b hb; omega
  ·have:=wsb b hb; omega
  ·have:=(o3 b hb).1; omega
 have key : Outs (runC (envL prog) (b19 (envL prog)) ([.agg [vd,vs,.int .i64 S.next,.int .i64 S.kind,.int .i64 S.pid,vp]] ++ List.replicate (47 - [AV.agg [vd,vs,.int .i64 S.next,.int .i64 S.kind,.int .i64 S.pid,vp]].length) .undef) H) fun e' t K=>Adds H K ∧ StA K wd ws wp S ∧ fin [.cell 2 6 true] (some (e',t,K)) = some (.agg [wd,ws,.int .i64 S.next,.int .i64 S.kind,.int .i64 S.pid,wp],K):=by
  unfold b19
  generalize hQ : (fun (e' : Ex) (t : T) (K : zAb)=>Adds H K ∧ StA K wd ws wp S ∧ fin [.cell 2 6 true] (some (e',t,K)) = some (AV.agg [wd,ws,.int .i64 S.next,.int .i64 S.kind,.int .i64 S.pid,wp],K)) = Q
  simp -implicitDefEqProofs (maxSteps:=5000000) only [go_sem,simprocAttr,itr,itq,zAj,zAe,cd.1,cd.2,cc.1,cc.2,cp.1,cp.2,hH1',c1,e2,c2,e3,c3,e4,c4,kd.1,kd.2,kp.1,kp.2,wsc.1,wsc.2,zBa,w1,y1,w2,y2,w3,y3,wsl]
  unfold LP1 at l0
  generalize (envL prog).loop (runC (envL prog) (l19x0 (envL prog))) = L0 at l0 ⊢
  refine zAq (fun r=>seqR (zAt 0 r) _) (l0 _ _ _ _ _ _ _ _ _ _ _ _ _ _ _ _ _ _ _ _ _ _ _ _ _ _ _ _ _ _ _ _ _ _ _ _ _ _ _ _ _ _ _ _) ?_
  rintro e t K ⟨rfl,⟨fK,gK⟩,fv,rfl⟩
  have kl:=fK.1
  have z1 : cellsOf K H.length = some [wd,ws,.int .i64 S.next,.int .i64 S.kind,.int .i64 S.pid,wp]:=fK.cells y3 fun h=>by have:=wsb _ h; omega
  have z2 : K[H.length + 1]? = some (.rw [.nilSl,.nilSl,.int .i64 0,.int .i64 0,.int .i64 0,.nilSl]):=fK.at (fx.at b4 (by show ¬ H.length + 1 = H.length; omega)) fun h=>by have:=wsb _ h; omega
  have w5 : zA4 K (H.length + 1) 0 [wd,ws,.int .i64 S.next,.int .i64 S.kind,.int .i64 S.pid,wp] = some (K.set (H.length + 1) (.rw [wd,ws,.int .i64 S.next,.int .i64 S.kind,.int .i64 S.pid,wp])):=by
   rw [zA5 z2,if_pos ⟨by simp,by simp only [List.all_cons,kd.2,wsc.2,kp.2]; rfl⟩]; rfl
  have f5 : Fr K (K.set (H.length + 1) (.rw [wd,ws,.int .i64 S.next,.int .i64 S.kind,.int .i64 S.pid,wp])) (· = H.length + 1):=Fr.set _ _ rfl
  have c5 : cellsOf (K.set (H.length + 1) (.rw [wd,ws,.int .i64 S.next,.int .i64 S.kind,.int .i64 S.pid,wp])) (H.length + 1) = some [wd,ws,.int .i64 S.next,.int .i64 S.kind,.int .i64 S.pid,wp]:=zAm (zBf _ _ _ (by omega))
  simp -implicitDefEqProofs (maxSteps:=5000000) only [go_sem,simprocAttr,itr,itq,z1,w5,zAe,kd.1,kd.2,kp.1,kp.2,wsc.1,wsc.2,zAc]
  subst hQ
  have f45 : Fr K4 (K.set (H.length + 1) (.rw [wd,ws,.int .i64 S.next,.int .i64 S.kind,.int .i64 S.pid,wp])) (fun x=>(x = H.length ∨ slb ws = some x) ∨ x = H.length + 1) :=
   (((fx.mono (G:=fun x=>x = H.length ∨ slb ws = some x) fun _ _ h=>.inl h).trans fK fun _ _ h=>.inr h).mono (G:=fun x=>(x = H.length ∨ slb ws = some x) ∨ x = H.length + 1) fun _ _ h=>.inl h).trans f5 fun _ _ h=>.inr h
  have nf : ∀ z,H1.length ≤ z → z < K3.length → ¬ ((z = H.length ∨ slb ws = some z) ∨ z = H.length + 1):=fun z h1 h2 h=>by
   rcases h with (h | h) | h
   ·omega
   ·have:=wsb z h; omega
   ·omega
  refine ⟨f45.old (((A1.trans A2).trans A3).trans A4) (fun z hz h=>?_),⟨IS.frS ((A3.trans A4).is g2) f45 (fun z hz=>nf z (s2 z hz) (by have:=IS.lt g2 z hz; omega)),ok2,?_,(g3.isP.adds A4).fr f45 fun z hz=>nf z (by have:=(o3 z hz).1; omega) (o3 z hz).2⟩,?_⟩
  ·rcases h with (h | h) | h
   ·omega
   ·have:=wsb z h; omega
   ·omega
  ·exact gK _ f5
  ·simp -implicitDefEqProofs (maxSteps:=5000000) only [go_sem,simprocAttr,itr,itq,c5]
 obtain ⟨e',t,K,hr,aK,st,hf⟩:=key
 obtain ⟨K',et,a',st'⟩:=sta_end aK st wdb
 refine ⟨wd,ws,wp,K',?_,a',st'⟩
 rw [c19,hr,hf]
 exact et
end
end Go.Proofs.Ythgflkfhjnbheaa.G14
end
section
namespace Go.Proofs.Ythgflkfhjnbheaa.G14
open Go Go.Proofs.Ythgflkfhjnbheaa.Eng
def SW : StS:=⟨[2,-1,-1,5],[⟨1,[4],[(2,3)]⟩],2,0,0,[]⟩
theorem zOk : zCt 8 2 2 4 SW = true:=by decide +kernel
theorem zOl : Gm.goodB 8 2 2 4 12 = true:=by decide +kernel
theorem zOp : (encT 8 SW).length = 126:=by decide +kernel
theorem encW_at : (encT 8 SW)[0]? = some 2 ∧ (encT 8 SW)[4]? = some 1 ∧ (encT 8 SW)[10]? = some 3 ∧ (encT 8 SW)[13]? = some 6 ∧ (encT 8 SW)[14]? = some 1 ∧ (encT 8 SW)[18]? = some 4 ∧ (encT 8 SW)[21]? = some 4:=by decide +kernel
theorem rawW : rawT 4 1 8 (encT 8 SW) = SW:=by decide +kernel
theorem zLy : FitS SW:=⟨⟨by decide,fun s hs=>by
 have : s = ⟨1,[4],[(2,3)]⟩:=List.mem_singleton.1 hs
 subst this
 exact ⟨by unfold IsU8; decide,by decide,by decide⟩⟩,by decide⟩
theorem smallC (h : zAb) : (envL prog).call 22 [] h = some (.agg [.int .i64 8,.int .i64 2,.int .i64 2,.int .i64 4,.int .i64 12],h):=by
 rw [c22]
 unfold b22
 simp -implicitDefEqProofs (maxSteps:=5000000) only [go_sem,simprocAttr,itr,itq]
theorem zQq (f : Nat) (args : List AV) (h : zAb) : (envX prog Over.none).call f args h = (envL prog).call f args h:=rfl
set_option maxHeartbeats 32000000 in
theorem wakesSC : ∃ h1,zBp prog (envX prog Over.none) 7 [] [] = some (.bool true,h1):=by
 obtain ⟨v1,K1,e1,A1,g1⟩:=firstC (b:=8) (s:=2) (w:=2) (a:=4) (r:=12) (H:=[ABlk.rw [.int .i64 8,.int .i64 2,.int .i64 2,.int .i64 4,.int .i64 12]]) zOl
 unfold Gm.geo at e1
 have q1 : cellsOf K1 0 = some [.int .i64 8,.int .i64 2,.int .i64 2,.int .i64 4,.int .i64 12]:=A1.cells rfl
 have k1:=IS.cell g1
 have l1 : 1 ≤ K1.length:=A1.len
 obtain ⟨n,hn⟩ : ∃ n,n = K1.length:=⟨_,rfl⟩
 obtain ⟨K2,hK2⟩ : ∃ K2,K2 = K1 ++ [ABlk.rw [v1,.sl (n + 3) 0 3 1 1 true,.int .i64 2,.int .i64 0,.int .i64 0,.nilSl],.rw [.int .u8 4],.rw [.int .i64 2,.int .i64 3],.rw [.int .i64 1,.sl (n + 1) 0 1 1 1 true,.sl (n + 2) 0 2 1 1 true],.rw [],.rw [.int .i64 2,.int .i64 (-1),.int .i64 (-1),.int .i64 5]]:=⟨_,rfl⟩
 have l2 : K2.length = n + 6:=by rw [hK2,hn]; simp
 have hr : (roomy : Nat) = 140737488355328:=rfl
 obtain ⟨v3,K3',ea,h3⟩:=zHp (k:=1) (n:=4) (d:=ty 1 false 8 [.int .i64 0]) (K:=K2) (b:=n + 4) (y:=.sl (n + 5) 0 1 4 4 true) (cs:=[.int .i64 2,.int .i64 (-1),.int .i64 (-1),.int .i64 5]) (by omega) rfl (by decide) (by rw [hK2,hn]; simp) (Src.block (by rw [hK2,hn]; unfold cellsOf; simp) rfl rfl) (by show 4 * 8 ≤ _; omega)
 obtain ⟨_,rfl,rfl⟩ : (4 : Nat) ≠ 0 ∧ v3 = .sl K2.length 0 1 4 4 false ∧ K3' = K2 ++ [.rw [.int .i64 2,.int .i64 (-1),.int .i64 (-1),.int .i64 5]]:=by
  rcases h3 with ⟨h,_⟩ | h
  ·cases h
  ·exact h
 obtain ⟨K3,hK3⟩ : ∃ K3,K3 = (K2 ++ [ABlk.rw [.int .i64 2,.int .i64 (-1),.int .i64 (-1),.int .i64 5]]).set n (.rw [.sl (n + 6) 0 1 4 4 false,.sl (n + 3) 0 3 1 1 true,.int .i64 2,.int .i64 0,.int .i64 0,.nilSl]):=⟨_,rfl⟩
 have x3 : K3[n]? = some (.rw [.sl (n + 6) 0 1 4 4 false,.sl (n + 3) 0 3 1 1 true,.int .i64 2,.int .i64 0,.int .i64 0,.nilSl]):=by rw [hK3]; exact zBf _ _ _ (by simp; omega)
 have at2 : ∀ (i : Nat),K2[n + 1 + i]? = [ABlk.rw [.int .u8 4],.rw [.int .i64 2,.int .i64 3],.rw [.int .i64 1,.sl (n + 1) 0 1 1 1 true,.sl (n + 2) 0 2 1 1 true],.rw [],.rw [.int .i64 2,.int .i64 (-1),.int .i64 (-1),.int .i64 5]][i]?:=fun i=>by
  rw [hK2,List.getElem?_append_right (by omega),show n + 1 + i - K1.length = i + 1 by omega]; rfl
 have at3 : ∀ (i : Nat) k,K2[n + 1 + i]? = some k → K3[n + 1 + i]? = some k:=fun i k h=>by
  rw [hK3,zAn _ _ _ _ (by omega),List.getElem?_append_left (zBb h)]; exact h
 have g3 : StA K3 (.sl (n + 6) 0 1 4 4 false) (.sl (n + 3) 0 3 1 1 true) .nilSl SW:=by
  refine ⟨IS.block (zs:=[2,-1,-1,5]) (b:=n + 6) (by rw [hK3,zAn _ _ _ _ (by omega),List.getElem?_append_right (by omega),l2,Nat.sub_self]; rfl),fun _ _ _ _ _ _ h=>by injection h; omega,?_,.inl ⟨rfl,rfl⟩⟩
  refine .inr ⟨n + 3,1,true,[[.int .i64 1,.sl (n + 1) 0 1 1 1 true,.sl (n + 2) 0 2 1 1 true]],[],rfl,by decide,?_,rfl,fun i r s h1 h2=>?_⟩
  ·exact zAm (at3 2 _ (at2 2))
  ·match i with
   | 0 =>
    simp only [SW,List.getElem?_cons_zero,Option.some.injEq] at h1 h2
    subst h1; subst h2
    refine ⟨_,_,rfl,BS.block (zs:=[4]) (at3 0 _ (at2 0)),IsP.whole (l:=[(2,3)]) (by decide) (zAm (at3 1 _ (at2 1)))⟩
   | i + 1=>simp [SW] at h2
 have cc3:=zAm x3
 have q2 : cellsOf K2 0 = some [.int .i64 8,.int .i64 2,.int .i64 2,.int .i64 4,.int .i64 12]:=by rw [hK2]; exact zBz q1
 have q3 : cellsOf K3 0 = some [.int .i64 8,.int .i64 2,.int .i64 2,.int .i64 4,.int .i64 12]:=by
  rw [hK3]; exact (Fr.set (F:=(· = n)) _ _ rfl).cells (zBz q2) (by show ¬ 0 = n; omega)
 obtain ⟨v4,K4,e4,A4,g4⟩:=encC (b:=8) (s:=2) (w:=2) (a:=4) (r:=12) g3 zLy (by decide) (by rw [zOl,zOk]; rfl)
 have bs4:=g4.bs
 have l4:=bs4.len
 rw [zOp,show ((126 : Nat) : Int) = 126 from rfl] at l4
 obtain ⟨K5,A5,h5⟩:=decodeC (bN:=8) (s:=2) (w:=2) (a:=4) (r:=12) (n:=4) (nb:=1) bs4 (zNe (zDo (s:=2) (w:=2) (ar:=4) (b:=8) (by decide) (by decide) (fun x hx=>(zLy.s.2 x hx).u8) zOk).sn) zOl (by decide) (by decide) (by rw [zOp]; rfl)
 rw [rawW] at h5
 obtain ⟨wd,ws,wp,e5,g5⟩ : ∃ wd ws wp,(envL prog).call 11 [.agg [.int .i64 ((8 : Nat) : Int),.int .i64 2,.int .i64 2,.int .i64 4,.int .i64 12],v4] K4 = some (.tup [.agg [wd,ws,.int .i64 SW.next,.int .i64 SW.kind,.int .i64 SW.pid,wp],.int .i64 0],K5) ∧ StA K5 wd ws wp SW:=by
  rcases h5 with ⟨_,_,h⟩ | ⟨h,_⟩
  ·obtain ⟨wd,ws,wp,h1,h2⟩:=h
   exact ⟨wd,ws,wp,h1,h2 _ (Fr.refl _ _)⟩
  ·exact absurd ⟨zOk,rfl⟩ h
 obtain ⟨K6,hK6⟩ : ∃ K6,K6 = K5 ++ [ABlk.rw [wd,ws,.int .i64 SW.next,.int .i64 SW.kind,.int .i64 SW.pid,wp]]:=⟨_,rfl⟩
 have A6 : Adds K5 K6:=⟨_,hK6⟩
 have A36:=(A4.trans A5).trans A6
 have g6:=g5.adds A6
 have e6:=sameC (g3.adds A36) g6 zLy zLy (by decide)
 have e7:=zRb (b:=8) (s:=2) (w:=2) (a:=4) (r:=12) g6 zLy (by decide)
 obtain ⟨xd,xs,xp,K7,e8,A7,g7⟩:=stCopyC g6 zLy (by decide)
 have e9:=sameC g7 (g6.adds A7) zLy zLy (by decide)
 rw [decide_eq_true rfl] at e6 e9
 rw [zOl,zOk,Bool.and_true] at e7
 have eb:=fun K=>Gm.bytesG 8 2 2 4 12 K
 unfold Gm.geo at eb
 rw [show Gm.byB 8 2 2 4 12 = 126 by decide +kernel] at eb
 obtain ⟨t0,t1,t2,t3,t4,t5,t6⟩:=encW_at
 have bs6:=(A5.trans A6).bs bs4
 have bs7:=A7.bs bs6
 have two : ∀ {i : Nat} {z : Int},(encT 8 SW)[i]? = some z → ∃ a,zA6 1 v4 (.int .i64 (i : Int)) = some a ∧ zD0 1 false a K6 = some (.int .u8 z) ∧ zD0 1 false a K7 = some (.int .u8 z):=fun h=>by
  obtain ⟨a,h1,h2⟩:=bs6.idx h .i64
  obtain ⟨a',h3,h4⟩:=bs7.idx h .i64
  rw [h1] at h3; injection h3 with h3
  exact ⟨a,h1,h2,by rw [h3]; exact h4⟩
 obtain ⟨a0,i0,m0,n0⟩:=two t0
 obtain ⟨a1,i1,m1,n1⟩:=two t1
 obtain ⟨a2,i2,m2,n2⟩:=two t2
 obtain ⟨a3,i3,m3,n3⟩:=two t3
 obtain ⟨a4,i4,m4,n4⟩:=two t4
 obtain ⟨a5,i5,m5,n5⟩:=two t5
 obtain ⟨a6,i6,m6,n6⟩:=two t6
 rw [show ((0 : Nat) : Int) = 0 from rfl] at i0
 rw [show ((4 : Nat) : Int) = 4 from rfl] at i1
 rw [show ((10 : Nat) : Int) = 10 from rfl] at i2
 rw [show ((13 : Nat) : Int) = 13 from rfl] at i3
 rw [show ((14 : Nat) : Int) = 14 from rfl] at i4
 rw [show ((18 : Nat) : Int) = 18 from rfl] at i5
 rw [show ((21 : Nat) : Int) = 21 from rfl] at i6
 have cc4:=A4.cells cc3
 have cc5:=A5.cells cc4
 have cc6:=A6.cells cc5
 have cc7:=A7.cells cc6
 have q4:=A4.cells q3
 have q5:=A5.cells q4
 have q6:=A6.cells q5
 have q7:=A7.cells q6
 have r6 : cellsOf K6 K5.length = some [wd,ws,.int .i64 SW.next,.int .i64 SW.kind,.int .i64 SW.pid,wp]:=by rw [hK6]; unfold cellsOf; simp
 have r7:=A7.cells r6
 have kd:=IS.cell g5.d
 have ks:=g5.s.cell
 have kp:=g5.p.cell
 have hK6:=hK6.symm
 have hK2':=hK2.symm
 have k4:=bs4.cell
 simp only [show SW.next = 2 from rfl,show SW.kind = 0 from rfl,show SW.pid = 0 from rfl] at e4 e5 e6 e7 e8 e9 r6 r7 hK6
 rw [show ((8 : Nat) : Int) = 8 from rfl] at e5
 have w3 : zA4 (K2 ++ [ABlk.rw [.int .i64 2,.int .i64 (-1),.int .i64 (-1),.int .i64 5]]) n 0 [.sl (n + 6) 0 1 4 4 false] = some K3:=by
  have : (K2 ++ [ABlk.rw [.int .i64 2,.int .i64 (-1),.int .i64 (-1),.int .i64 5]])[n]? = some (.rw [v1,.sl (n + 3) 0 3 1 1 true,.int .i64 2,.int .i64 0,.int .i64 0,.nilSl]):=by
   rw [List.getElem?_append_left (by omega),hK2,hn]; simp
  rw [zA5 this,if_pos ⟨by simp,rfl⟩,hK3]; rfl
 rw [l2] at ea
 subst hn
 rw [d7]
 have key : Outs (runC (envX prog Over.none) (b7 (envX prog Over.none)) ([] ++ List.replicate (117 - ([] : List AV).length) .undef) []) fun e t h1=>fin [.tmp 0] (some (e,t,h1)) = some (AV.bool true,h1):=by
  unfold b7
  generalize hQ : (fun (e : Ex) (t : T) (h1 : zAb)=>fin [.tmp 0] (some (e,t,h1)) = some (AV.bool true,h1)) = Q
  simp -implicitDefEqProofs (maxSteps:=5000000) only [go_sem,simprocAttr,itr,itq,zQq,smallC,zAe,e1,k1.1,k1.2,q1,hK2',ea,zBa,w3,q3,cc3,e4,q4,e5,kd.1,kd.2,ks.1,ks.2,kp.1,kp.2,hK6,l4,q6,eb,i0,m0,i1,m1,i2,m2,i3,m3,i4,m4,i5,m5,i6,m6,n0,n1,n2,n3,n4,n5,n6,cc6,r6,e6,e7,e8,e9,cc7,q7,r7,zAc]
  subst hQ
  simp -implicitDefEqProofs (maxSteps:=5000000) only [go_sem,simprocAttr]
 unfold b7 at key ⊢
 exact zSe key
end Go.Proofs.Ythgflkfhjnbheaa.G14
end
section
namespace Go.Proofs.Ythgflkfhjnbheaa.G14
open Go Go.Proofs.Ythgflkfhjnbheaa.Eng
noncomputable def XW : Over:=Over.none.with 7 wakeR
theorem xw_ok : XW.Ok prog:=with_ok (zSg prog) (wake_ok goodP (zSg prog) wakesSC.choose_spec)
theorem zCc (f : Nat) (args : List AV) (h : zAb) (ew : (f == 7) = false) : (envX prog XW).call f args h = (envL prog).call f args h:=by
 unfold XW; rw [x_miss _ _ ew,zQq]
theorem zCa (h : zAb) : (envX prog XW).call 7 [] h = some (.bool true,h):=x_hit rfl
noncomputable abbrev LW14 (l : Env → CT):=(envL prog).loop (runC (envX prog XW) (l (envX prog XW)))
theorem ints_dat {h : zAb} {v : AV} (d : DatC h (.sl [.int .i64]) v) : ∃ zs,IS h v zs ∧ zIy v ∧ zs.length ≤ 9223372036854775807 ∧ ∀ z ∈ zs,IntKind.i64.has z:=by
 cases d with
 | nil=>exact ⟨[],.inl ⟨rfl,rfl⟩,fun _ _ _ _ _ _ h=>(by cases h),by simp,fun z hz=>by cases hz⟩
 | @sl _ b rows hn hb hr =>
  have key : ∀ rows : List (List AV),(∀ r,r ∈ rows → DatR h [.int .i64] r) → ∃ zs : List Int,rows.flatten = i64s zs ∧ zs.length = rows.length ∧ ∀ z ∈ zs,IntKind.i64.has z:=by
   intro rows
   induction rows with
   | nil=>intro _; exact ⟨[],rfl,rfl,fun z hz=>(by cases hz)⟩
   | cons r rows ih =>
    intro hr
    obtain ⟨zs,e1,e2,e3⟩:=ih fun r hm=>hr r (by simp [hm])
    have hd:=hr r (by simp)
    cases hd with
    | cons d1 t=>cases t with
     | nil=>cases d1 with
      | @int _ x n1 =>
       refine ⟨x :: zs,by rw [List.flatten_cons,e1]; rfl,by simp [e2],fun z hz=>?_⟩
       rcases List.mem_cons.1 hz with rfl | hz
       ·exact n1
       ·exact e3 z hz
  obtain ⟨zs,e1,e2,e3⟩:=key rows hr
  refine ⟨zs,?_,fun _ _ _ _ _ _ h=>by injection h; omega,by omega,e3⟩
  rw [← e2]
  exact .inr ⟨b,0,zs.length,false,i64s zs,rfl,by rw [hb,e1],fun i z hz=>by rw [Nat.zero_add]; exact zJ5 hz,by rw [zCl]; omega⟩
theorem st_dat {h : zAb} {vd vs vp : AV} (n k p : Int) (dd : DatC h (.sl [.int .i64]) vd) (ds : DatC h (.sl [.int .i64,.sl [.int .u8],.sl [.int .i64,.int .i64]]) vs) (dp : DatC h (.sl [.int .i64,.int .i64]) vp) :
  ∃ S : StS,S.next = n ∧ S.kind = k ∧ S.pid = p ∧ StA h vd vs vp S ∧ S.dirty.length ≤ 9223372036854775807 ∧ (∀ s ∈ S.snaps,IsU8 s.ch) ∧ (S.snaps.length ≤ 9223372036854775807 ∧ ∀ s ∈ S.snaps,s.ch.length ≤ 9223372036854775807 ∧ s.tb.length ≤ 9223372036854775807):=by
 obtain ⟨L,gs,ln,hL⟩:=zQ9 ds
 obtain ⟨P,gp,np,_⟩:=zLk dp
 obtain ⟨D,gd,ok,nd,_⟩:=ints_dat dd
 exact ⟨⟨D,L,n,k,p,P⟩,rfl,rfl,rfl,⟨gd,ok,gs,gp⟩,nd,fun s hs=>(hL s hs).2.1,ln,fun s hs=>⟨(hL s hs).2.2.1,(hL s hs).2.2.2.1⟩⟩
def fairT (S : StS) : Bool:=zE7 S.snaps S.dirty.length S.pairs
theorem fair_fit {S : StS} (h : fairT S = true) (hu : ∀ s ∈ S.snaps,IsU8 s.ch) : FitS S ∧ S.dirty.length ≤ 80:=by
 unfold fairT zE7 at h
 simp only [Bool.and_eq_true,decide_eq_true_eq] at h
 exact ⟨⟨(zPz h.1 hu).fits,by omega⟩,h.2.1⟩
def nilT : StS:=⟨[],[],0,0,0,[]⟩
section
variable (b s w a r : Int)
def okT (S : StS) : Bool:=Gm.goodB b s w a r && zCt b s w a S
def encA (S : StS) : List Int:=bif okT b s w a r S then encT b S else []
def encE (S : StS) : Int:=bif okT b s w a r S then 0 else 11
def decOk (z : List Int) : Bool:=Gm.goodB b s w a r && (decide (z.length = zIk (s * w).toNat (Bt.newN b) b.toNat) && (zCt b s w a (rawT (s * w).toNat (Bt.newN b) b.toNat z) && decide (encT b (rawT (s * w).toNat (Bt.newN b) b.toNat z) = z)))
def decA (z : List Int) : StS:=bif decOk b s w a r z then rawT (s * w).toNat (Bt.newN b) b.toNat z else nilT
def decE (z : List Int) : Int:=bif Gm.goodB b s w a r then (bif decOk b s w a r z then 0 else 11) else 1
end
section
variable {b s w a r : Int} {H : zAb} {vd vs vp : AV} {S : StS} (g : StA H vd vs vp S) (fi : FitS S) (lD : S.dirty.length ≤ 80)
include g fi lD
theorem encAll : ∃ v K,(envL prog).call 9 [.agg [.int .i64 b,.int .i64 s,.int .i64 w,.int .i64 a,.int .i64 r],.agg [vd,vs,.int .i64 S.next,.int .i64 S.kind,.int .i64 S.pid,vp]] H = some (.tup [v,.int .i64 (encE b s w a r S)],K) ∧ Adds H K ∧ BS K v (encA b s w a r S):=by
 unfold encE encA
 rcases hg : okT b s w a r S with _ | _
 ·exact ⟨.nilSl,H,encBad g fi (by omega) hg,Adds.refl H,BS.nil H⟩
 ·obtain ⟨v,K,e,A,gb⟩:=encC g fi (by omega) hg
  exact ⟨v,K,e,A,gb.bs⟩
end
section
variable {b s w a r : Int} {H : zAb} {v : AV} {z : List Int} (bz : BS H v z) (uz : IsU8 z)
include bz uz
end
section
variable (b s w a r : Int) (H : zAb)
end
end Go.Proofs.Ythgflkfhjnbheaa.G14
end
