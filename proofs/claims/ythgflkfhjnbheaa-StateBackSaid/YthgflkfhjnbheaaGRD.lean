/- What the functions that the law reaches answer, for every argument. No condition but those in each statement. -/
import Derived.Test.YthgflkfhjnbheaaGRC
set_option linter.unusedSimpArgs false
set_option linter.unusedVariables false
set_option linter.unusedSectionVars false
set_option maxRecDepth 10000
section
namespace Go.Proofs.Ythgflkfhjnbheaa.G14
open Go Go.Proofs.Ythgflkfhjnbheaa.Eng
section
variable {H : zAc} {v w : AV} {xs ys : List PrS} (gx : IsP H v xs) (gy : IsP H w ys) (lx : xs.length ≤ 1000000000000)
include gx gy lx
set_option maxHeartbeats 4000000 in
theorem eqLP (hl : xs.length = ys.length) (x2 x3 x6 x7 x8 x9 x10 x11 : AV) : ∀ (m i : Nat) (j5 j14 j15 j16 j17 j18 j19 j20 j21 j22 j23 j24 j25 : AV),i + m = xs.length →
  Outs (LP1 l58x0 [v,w,x2,x3,.bool false,j5,x6,x7,x8,x9,x10,x11,.int .i64 (xs.length : Int),.int .i64 (i : Int),j14,j15,j16,j17,j18,j19,j20,j21,j22,j23,j24,j25] H) fun e t K=>K = H ∧ ∃ fv : Nat → AV,t = [v,w,x2,x3,(fv 4),(fv 5),x6,x7,x8,x9,x10,x11,.int .i64 (xs.length : Int),(fv 13),(fv 14),(fv 15),(fv 16),(fv 17),(fv 18),(fv 19),(fv 20),(fv 21),(fv 22),(fv 23),(fv 24),(fv 25)] ∧ fv 4 = .bool false ∧ ((e = .exit 0 ∧ decide (xs.drop i = ys.drop i) = true) ∨ (e = .ret ∧ decide (xs.drop i = ys.drop i) = false)):=by
 intro m
 obtain ⟨L0,hL0⟩ : ∃ L,L = LP1 l58x0:=⟨_,rfl⟩
 have lo:=zAp hL0
 rw [← hL0]
 induction m with
 | zero =>
  intro i j5 j14 j15 j16 j17 j18 j19 j20 j21 j22 j23 j24 j25 hi
  obtain rfl : i = xs.length:=by omega
  have hd : decide ((xs.length : Int) < (xs.length : Int)) = false:=by simp
  have e : decide (xs.drop xs.length = ys.drop xs.length) = true:=by rw [List.drop_length,hl,List.drop_length]; rfl
  rw [e,lo]
  unfold l58x0
  simp -implicitDefEqProofs (maxSteps:=5000000) only [go_sem,simprocAttr,hd,zAg,zAb]
  exact exF2 rfl (by first | exact ⟨rfl,.inl rfl⟩ | exact ⟨rfl,trivial⟩ | rfl | exact ⟨rfl,.inl trivial⟩)
 | succ m ih =>
  intro i j5 j14 j15 j16 j17 j18 j19 j20 j21 j22 j23 j24 j25 hi
  have hlt : i < xs.length:=by omega
  have hd : decide ((i : Int) < (xs.length : Int)) = true:=decide_eq_true (by omega)
  have e2 : IntKind.i64.wrap ((i : Int) + 1) = ((i + 1 : Nat) : Int):=by rw [zAk (by omega) (by omega)]; omega
  have hx:=List.getElem?_eq_getElem hlt
  have hy:=List.getElem?_eq_getElem (show i < ys.length by omega)
  have key:=ih (i + 1)
  rw [List.drop_eq_getElem_cons hlt,List.drop_eq_getElem_cons (show i < ys.length by omega),zHu]
  generalize xs[i] = x at *
  generalize ys[i] = y at *
  obtain ⟨bb,cs,_,ix,hc,_,_,ht,hle⟩:=gx.idx hx
  obtain ⟨bb2,cs2,_,ix2,hc2,_,_,ht2,hle2⟩:=gy.idx hy
  have hn:=ne_prs x y
  rw [lo]
  unfold l58x0
  by_cases h : x = y
  ·rw [decide_eq_true h] at hn
   rw [decide_eq_true h,Bool.true_and]
   simp -implicitDefEqProofs (maxSteps:=5000000) only [go_sem,simprocAttr,itr,itq,hd,ix,hc,ht,hle,ix2,hc2,ht2,hle2,hn,e2]
   exact key _ _ _ _ _ _ _ _ _ _ _ _ _ (by omega)
  ·rw [decide_eq_false h] at hn
   rw [decide_eq_false h,Bool.false_and]
   simp -implicitDefEqProofs (maxSteps:=5000000) only [go_sem,simprocAttr,itr,itq,hd,ix,hc,ht,hle,ix2,hc2,ht2,hle2,hn,zAj,zAb]
   exact exF2 rfl (by first | exact ⟨rfl,.inr rfl⟩ | exact ⟨rfl,trivial⟩ | rfl | exact ⟨rfl,.inr trivial⟩)
theorem eqCP : (envL prog).call 58 [v,w] H = some (.bool (decide (xs = ys)),H):=by
 have wx:=gx.len
 have wy:=gy.len
 by_cases hl : xs.length = ys.length
 case neg =>
  have hn : ((xs.length : Int) != (ys.length : Int)) = true:=bne_iff_ne.2 (by omega)
  rw [decide_eq_false (fun e=>hl (by rw [e])),c58]
  unfold b58
  simp -implicitDefEqProofs (maxSteps:=5000000) only [go_sem,simprocAttr,itr,itq,wx,wy,hn]
 have hn : ((xs.length : Int) != (ys.length : Int)) = false:=by simp [hl]
 have l0:=eqLP gx gy lx hl (m:=xs.length) (i:=0)
 rw [show ((0 : Nat) : Int) = 0 from rfl,List.drop_zero,List.drop_zero] at l0
 have key : Outs (runC (envL prog) (b58 (envL prog)) ([v,w] ++ List.replicate (26 - [v,w].length) .undef) H) fun e' t K=>K = H ∧ fin [.tmp 4] (some (e',t,K)) = some (.bool (decide (xs = ys)),K):=by
  unfold b58
  generalize hQ : (fun (e' : Ex) (t : T) (K : zAc)=>K = H ∧ fin [.tmp 4] (some (e',t,K)) = some (AV.bool (decide (xs = ys)),K)) = Q
  simp -implicitDefEqProofs (maxSteps:=5000000) only [go_sem,simprocAttr,itr,itq,zAi,wx,wy,hn]
  unfold LP1 at l0
  generalize (envL prog).loop (runC (envL prog) (l58x0 (envL prog))) = L0 at l0 ⊢
  refine zAq (fun r=>seqR (zAt 0 r) _) (l0 _ _ _ _ _ _ _ _ _ _ _ _ _ _ _ _ _ _ _ _ _ (by omega)) ?_
  rintro e t K ⟨rfl,fv,rfl,f4,⟨rfl,ho⟩ | ⟨rfl,ho⟩⟩
  ·rw [ho] at hQ
   simp -implicitDefEqProofs (maxSteps:=5000000) only [go_sem,simprocAttr,zAb]
   subst hQ
   refine ⟨rfl,?_⟩
   simp -implicitDefEqProofs (maxSteps:=5000000) only [go_sem,simprocAttr]
  ·rw [ho] at hQ
   simp -implicitDefEqProofs (maxSteps:=5000000) only [go_sem,simprocAttr,zAb]
   subst hQ
   refine ⟨rfl,?_⟩
   simp -implicitDefEqProofs (maxSteps:=5000000) only [go_sem,simprocAttr,f4]
 obtain ⟨e',t,K,hr,rfl,hf⟩:=key
 rw [c58,hr,hf]; exact zBo rfl
end
theorem dec_sn (s u : SnS) : decide (s = u) = (decide (s.id = u.id) && (decide (s.ch = u.ch) && decide (s.tb = u.tb))):=by
 cases s; cases u; simp [SnS.mk.injEq]
theorem zFu (a b : Int) : (a == b) = decide (a = b):=by
 by_cases h : a = b
 ·subst h; simp
 ·rw [decide_eq_false h]; exact beq_eq_false_iff_ne.2 h
set_option maxHeartbeats 8000000 in
theorem same1C {K : zAc} {s u : SnS} {vc vt wc wt : AV} (b1 : BS K vc s.ch) (p1 : IsP K vt s.tb) (b2 : BS K wc u.ch) (p2 : IsP K wt u.tb) (lc : s.ch.length ≤ 1000000) (lt : s.tb.length ≤ 1000000) : (envL prog).call 61 [.agg [.int .i64 s.id,vc,vt],.agg [.int .i64 u.id,wc,wt]] K = some (.bool (decide (s = u)),K):=by
 have A : ∀ X,Adds K (K ++ X):=fun X=>⟨X,rfl⟩
 have e1:=fun X=>eqCB ((A X).bs b1) ((A X).bs b2) (by omega)
 have e2:=fun X=>eqCP (p1.adds (A X)) (p2.adds (A X)) (by omega)
 have k1:=b1.cell
 have k2:=p1.cell
 have k3:=b2.cell
 have k4:=p2.cell
 have q:=zFu s.id u.id
 rw [dec_sn,c61]
 unfold b61
 rcases h1 : decide (s.id = u.id) with _ | _ <;> rw [h1] at q
 ·simp -implicitDefEqProofs (maxSteps:=5000000) only [go_sem,simprocAttr,itr,itq,zAe,k1.1,k1.2,k2.1,k2.2,k3.1,k3.2,k4.1,k4.2,q,e1,e2]
 rcases h2 : decide (s.ch = u.ch) with _ | _ <;> simp only [h2] at e1
 ·simp -implicitDefEqProofs (maxSteps:=5000000) only [go_sem,simprocAttr,itr,itq,zAe,k1.1,k1.2,k2.1,k2.2,k3.1,k3.2,k4.1,k4.2,q,e1,e2]
 ·simp -implicitDefEqProofs (maxSteps:=5000000) only [go_sem,simprocAttr,itr,itq,zAe,k1.1,k1.2,k2.1,k2.2,k3.1,k3.2,k4.1,k4.2,q,e1,e2]
section
variable {H : zAc} {v w : AV} {L M : List SnS} (g : IsC H v L) (f : IsC H w M) (fL : Fits L) (fM : Fits M)
include g f fL fM
set_option maxHeartbeats 8000000 in
theorem eqFSnL (he : L.length = M.length) (x3 x4 x5 x10 x11 x12 x13 x14 : AV) : ∀ (k i : Nat) (K : zAc) (j7 j8 j9 j18 j19 j20 j21 j22 j23 j24 j25 j26 j27 j28 j29 j30 j31 : AV),Adds H K → i + k = L.length →
  Outs (LP1 l60x0 [v,w,.fn 61 [],x3,x4,x5,.bool false,j7,j8,j9,x10,x11,x12,x13,x14,v,.int .i64 (L.length : Int),.int .i64 (i : Int),j18,j19,j20,j21,j22,j23,j24,j25,j26,j27,j28,j29,j30,j31] K) fun e t K=>Adds H K ∧ ∃ fv : Nat → AV,t = [v,w,.fn 61 [],x3,x4,x5,(fv 6),(fv 7),(fv 8),(fv 9),x10,x11,x12,x13,x14,v,.int .i64 (L.length : Int),(fv 17),(fv 18),(fv 19),(fv 20),(fv 21),(fv 22),(fv 23),(fv 24),(fv 25),(fv 26),(fv 27),(fv 28),(fv 29),(fv 30),(fv 31)] ∧ fv 6 = .bool false ∧ ((e = .exit 0 ∧ decide (L.drop i = M.drop i) = true) ∨ (e = .ret ∧ decide (L.drop i = M.drop i) = false)):=by
 intro k
 obtain ⟨L0,hL0⟩ : ∃ L,L = LP1 l60x0:=⟨_,rfl⟩
 have lo:=zAp hL0
 have fl:=fL.1
 rw [← hL0]
 induction k with
 | zero =>
  intro i K j7 j8 j9 j18 j19 j20 j21 j22 j23 j24 j25 j26 j27 j28 j29 j30 j31 aK hi
  obtain rfl : i = L.length:=by omega
  have hd : decide ((L.length : Int) < (L.length : Int)) = false:=by simp
  have e : decide (L.drop L.length = M.drop L.length) = true:=by rw [List.drop_length,he,List.drop_length]; rfl
  rw [e,lo]
  unfold l60x0
  simp -implicitDefEqProofs (maxSteps:=5000000) only [go_sem,simprocAttr,hd,zAg,zAb]
  exact ⟨aK,exF2 rfl (by first | exact ⟨rfl,.inl ⟨rfl,rfl⟩⟩ | exact ⟨rfl,.inl rfl⟩ | exact ⟨rfl,.inl trivial⟩ | exact ⟨rfl,trivial⟩ | rfl | trivial)⟩
 | succ k ih =>
  intro i K j7 j8 j9 j18 j19 j20 j21 j22 j23 j24 j25 j26 j27 j28 j29 j30 j31 aK hi
  have hlt : i < L.length:=by omega
  have hd : decide ((i : Int) < (L.length : Int)) = true:=decide_eq_true (by omega)
  have e2 : IntKind.i64.wrap ((i : Int) + 1) = ((i + 1 : Nat) : Int):=by rw [zAk (by omega) (by omega)]; omega
  have hx:=List.getElem?_eq_getElem hlt
  have hy:=List.getElem?_eq_getElem (show i < M.length by omega)
  have f1:=zCl fL hx
  have key:=ih (i + 1)
  rw [List.drop_eq_getElem_cons hlt,List.drop_eq_getElem_cons (show i < M.length by omega),zHu]
  generalize L[i] = s at *
  generalize M[i] = u at *
  obtain ⟨bb,cs,vc,vt,sb,ix,hc,h1,h2,h3,ht,hle,hbs,hip⟩:=g.idx hx
  obtain ⟨bb',cs',vc',vt',sb',ix',hc',h1',h2',h3',ht',hle',hbs',hip'⟩:=f.idx hy
  obtain ⟨K1,hK1⟩ : ∃ K1,K1 = K ++ [ABlk.rw [.int .i64 s.id,vc,vt]]:=⟨_,rfl⟩
  obtain ⟨K2,hK2⟩ : ∃ K2,K2 = K1 ++ [ABlk.rw [.int .i64 u.id,vc',vt']]:=⟨_,rfl⟩
  have A1 : Adds K K1:=⟨_,hK1⟩
  have A2 : Adds K1 K2:=⟨_,hK2⟩
  have a2:=(aK.trans A1).trans A2
  have es:=same1C (a2.bs hbs) (hip.adds a2) (a2.bs hbs') (hip'.adds a2) (by have:=f1.lc; omega) (by have:=f1.lt; omega)
  have c0:=aK.cells hc
  have c1:=(aK.trans A1).cells hc'
  have c3 : cellsOf K2 K.length = some [.int .i64 s.id,vc,vt]:=A2.cells (by rw [hK1]; unfold cellsOf; simp)
  have c4 : cellsOf K2 K1.length = some [.int .i64 u.id,vc',vt']:=by rw [hK2]; unfold cellsOf; simp
  have k1:=hbs.cell
  have k2:=hip.cell
  have k3:=hbs'.cell
  have k4:=hip'.cell
  have hK1:=hK1.symm
  have hK2:=hK2.symm
  rw [lo]
  unfold l60x0
  rcases hs : decide (s = u) with _ | _ <;> rw [hs] at es
  ·rw [Bool.false_and]
   simp -implicitDefEqProofs (maxSteps:=5000000) only [go_sem,simprocAttr,itr,itq,hd,ix,c0,ht,hle,k1.1,k1.2,k2.1,k2.2,zAe,hK1,ix',c1,ht',hle',k3.1,k3.2,k4.1,k4.2,hK2,c3,c4,es,zAj,zAb]
   exact ⟨a2,exF2 rfl (by first | exact ⟨rfl,.inr ⟨rfl,rfl⟩⟩ | exact ⟨rfl,.inr rfl⟩ | exact ⟨rfl,.inr trivial⟩ | exact ⟨rfl,trivial⟩ | rfl | trivial)⟩
  ·rw [Bool.true_and]
   simp -implicitDefEqProofs (maxSteps:=5000000) only [go_sem,simprocAttr,itr,itq,hd,ix,c0,ht,hle,k1.1,k1.2,k2.1,k2.2,zAe,hK1,ix',c1,ht',hle',k3.1,k3.2,k4.1,k4.2,hK2,c3,c4,es,e2]
   exact key K2 _ _ _ _ _ _ _ _ _ _ _ _ _ _ _ _ _ a2 (by omega)
theorem eqFSn : (envL prog).call 60 [v,w,.fn 61 []] H = some (.bool (decide (L = M)),H):=by
 have wx:=g.len
 have wy:=f.len
 by_cases hl : L.length = M.length
 case neg =>
  have hn : ((L.length : Int) != (M.length : Int)) = true:=bne_iff_ne.2 (by omega)
  rw [decide_eq_false (fun e=>hl (by rw [e])),c60]
  unfold b60
  simp -implicitDefEqProofs (maxSteps:=5000000) only [go_sem,simprocAttr,itr,itq,wx,wy,hn]
 have hn : ((L.length : Int) != (M.length : Int)) = false:=by simp [hl]
 have l0:=eqFSnL g f fL fM hl (k:=L.length) (i:=0) (K:=H)
 rw [show ((0 : Nat) : Int) = 0 from rfl,List.drop_zero,List.drop_zero] at l0
 have key : Outs (runC (envL prog) (b60 (envL prog)) ([v,w,.fn 61 []] ++ List.replicate (32 - [v,w,AV.fn 61 []].length) .undef) H) fun e' t K=>Adds H K ∧ fin [.tmp 6] (some (e',t,K)) = some (.bool (decide (L = M)),K):=by
  unfold b60
  generalize hQ : (fun (e' : Ex) (t : T) (K : zAc)=>Adds H K ∧ fin [.tmp 6] (some (e',t,K)) = some (AV.bool (decide (L = M)),K)) = Q
  simp -implicitDefEqProofs (maxSteps:=5000000) only [go_sem,simprocAttr,itr,itq,zAi,wx,wy,hn]
  unfold LP1 at l0
  generalize (envL prog).loop (runC (envL prog) (l60x0 (envL prog))) = L0 at l0 ⊢
  refine zAq (fun r=>seqR (zAt 0 r) _) (l0 _ _ _ _ _ _ _ _ _ _ _ _ _ _ _ _ _ _ _ _ _ _ _ _ _ (Adds.refl H) (by omega)) ?_
  rintro e t K ⟨aK,fv,rfl,f6,⟨rfl,ho⟩ | ⟨rfl,ho⟩⟩
  ·rw [ho] at hQ
   simp -implicitDefEqProofs (maxSteps:=5000000) only [go_sem,simprocAttr,zAb]
   subst hQ
   refine ⟨aK,?_⟩
   simp -implicitDefEqProofs (maxSteps:=5000000) only [go_sem,simprocAttr]
  ·rw [ho] at hQ
   simp -implicitDefEqProofs (maxSteps:=5000000) only [go_sem,simprocAttr,zAb]
   subst hQ
   refine ⟨aK,?_⟩
   simp -implicitDefEqProofs (maxSteps:=5000000) only [go_sem,simprocAttr,f6]
 obtain ⟨e',t,K,hr,aK,hf⟩:=key
 rw [c60,hr,hf]; exact aK.trimS rfl
end
theorem dec_st (S T : StS) : decide (S = T) = (decide (S.dirty = T.dirty) && (decide (S.snaps = T.snaps) && (decide (S.next = T.next) && (decide (S.kind = T.kind) && (decide (S.pid = T.pid) && decide (S.pairs = T.pairs)))))):=by
 cases S; cases T; simp [StS.mk.injEq]
section
variable {H : zAc} {vd vs vp wd ws wp : AV} {S T : StS} (gd : IS H vd S.dirty) (gs : IsC H vs S.snaps) (gp : IsP H vp S.pairs) (gd' : IS H wd T.dirty) (gs' : IsC H ws T.snaps) (gp' : IsP H wp T.pairs) (fi : FitS S) (fi' : FitS T) (lD : S.dirty.length ≤ 1000000)
include gd gs gp gd' gs' gp' fi fi' lD
set_option maxHeartbeats 16000000 in
theorem zRm : (envL prog).call 18 [.agg [vd,vs,.int .i64 S.next,.int .i64 S.kind,.int .i64 S.pid,vp],.agg [wd,ws,.int .i64 T.next,.int .i64 T.kind,.int .i64 T.pid,wp]] H = some (.bool (decide (S = T)),H):=by
 have A : ∀ X,Adds H (H ++ X):=fun X=>⟨X,rfl⟩
 have e1:=fun X=>intsS ((A X).is gd) ((A X).is gd') lD
 have e2:=fun X=>snapsC (gs.adds (A X)) (gs'.adds (A X)) fi.s fi'.s
 have e3:=fun X=>pairsC (gp.adds (A X)) (gp'.adds (A X)) (by have:=fi.p; omega)
 have q1:=zFu S.next T.next
 have q2:=zFu S.kind T.kind
 have q3:=zFu S.pid T.pid
 have k1:=IS.cell gd
 have k2:=gs.cell
 have k3:=gp.cell
 have k4:=IS.cell gd'
 have k5:=gs'.cell
 have k6:=gp'.cell
 rw [dec_st,c18]
 unfold b18
 rcases h1 : decide (S.dirty = T.dirty) with _ | _ <;> simp only [h1] at e1
 ·simp -implicitDefEqProofs (maxSteps:=5000000) only [go_sem,simprocAttr,itr,itq,zAe,k1.1,k1.2,k2.1,k2.2,k3.1,k3.2,k4.1,k4.2,k5.1,k5.2,k6.1,k6.2,e1]
 rcases h2 : decide (S.snaps = T.snaps) with _ | _ <;> simp only [h2] at e2
 ·simp -implicitDefEqProofs (maxSteps:=5000000) only [go_sem,simprocAttr,itr,itq,zAe,k1.1,k1.2,k2.1,k2.2,k3.1,k3.2,k4.1,k4.2,k5.1,k5.2,k6.1,k6.2,e1,e2]
 rcases h3 : decide (S.next = T.next) with _ | _ <;> rw [h3] at q1
 ·simp -implicitDefEqProofs (maxSteps:=5000000) only [go_sem,simprocAttr,itr,itq,zAe,k1.1,k1.2,k2.1,k2.2,k3.1,k3.2,k4.1,k4.2,k5.1,k5.2,k6.1,k6.2,e1,e2,q1]
 rcases h4 : decide (S.kind = T.kind) with _ | _ <;> rw [h4] at q2
 ·simp -implicitDefEqProofs (maxSteps:=5000000) only [go_sem,simprocAttr,itr,itq,zAe,k1.1,k1.2,k2.1,k2.2,k3.1,k3.2,k4.1,k4.2,k5.1,k5.2,k6.1,k6.2,e1,e2,q1,q2]
 rcases h5 : decide (S.pid = T.pid) with _ | _ <;> rw [h5] at q3
 ·simp -implicitDefEqProofs (maxSteps:=5000000) only [go_sem,simprocAttr,itr,itq,zAe,k1.1,k1.2,k2.1,k2.2,k3.1,k3.2,k4.1,k4.2,k5.1,k5.2,k6.1,k6.2,e1,e2,q1,q2,q3]
 ·simp -implicitDefEqProofs (maxSteps:=5000000) only [go_sem,simprocAttr,itr,itq,zAe,k1.1,k1.2,k2.1,k2.2,k3.1,k3.2,k4.1,k4.2,k5.1,k5.2,k6.1,k6.2,e1,e2,q1,q2,q3,e3]
end
section
variable {H : zAc} {vd vs vp wd ws wp : AV} {S T : StS} (g : StA H vd vs vp S) (g' : StA H wd ws wp T) (fi : FitS S) (fi' : FitS T) (lD : S.dirty.length ≤ 1000000)
include g g' fi fi' lD
theorem zFn : (envL prog).call 18 [.agg [vd,vs,.int .i64 S.next,.int .i64 S.kind,.int .i64 S.pid,vp],.agg [wd,ws,.int .i64 T.next,.int .i64 T.kind,.int .i64 T.pid,wp]] H = some (.bool (decide (S = T)),H) :=
 zRm g.d g.s g.p g'.d g'.s g'.p fi fi' lD
set_option maxHeartbeats 16000000 in
theorem zJ2 : (envL prog).call 20 [.agg [vd,vs,.int .i64 S.next,.int .i64 S.kind,.int .i64 S.pid,vp],.agg [wd,ws,.int .i64 T.next,.int .i64 T.kind,.int .i64 T.pid,wp]] H = some (.bool (decide (S = T)),H):=by
 have A : ∀ X,Adds H (H ++ X):=fun X=>⟨X,rfl⟩
 have e1:=fun X=>eqCI ((A X).is g.d) ((A X).is g'.d) (by omega)
 have e2:=fun X=>eqFSn (g.s.adds (A X)) (g'.s.adds (A X)) fi.s fi'.s
 have e3:=fun X=>eqCP (g.p.adds (A X)) (g'.p.adds (A X)) (by have:=fi.p; omega)
 have q1:=zFu S.next T.next
 have q2:=zFu S.kind T.kind
 have q3:=zFu S.pid T.pid
 have k1:=IS.cell g.d
 have k2:=g.s.cell
 have k3:=g.p.cell
 have k4:=IS.cell g'.d
 have k5:=g'.s.cell
 have k6:=g'.p.cell
 have ds : decide (S = T) = (decide (S.next = T.next) && (decide (S.kind = T.kind) && (decide (S.pid = T.pid) && (decide (S.pairs = T.pairs) && (decide (S.dirty = T.dirty) && decide (S.snaps = T.snaps)))))):=by
  rw [dec_st]
  cases decide (S.next = T.next) <;> cases decide (S.kind = T.kind) <;> cases decide (S.pid = T.pid) <;> cases decide (S.pairs = T.pairs) <;> cases decide (S.dirty = T.dirty) <;> cases decide (S.snaps = T.snaps) <;> rfl
 rw [ds,c20]
 unfold b20
 rcases h3 : decide (S.next = T.next) with _ | _ <;> rw [h3] at q1
 ·simp -implicitDefEqProofs (maxSteps:=5000000) only [go_sem,simprocAttr,itr,itq,zAe,k1.1,k1.2,k2.1,k2.2,k3.1,k3.2,k4.1,k4.2,k5.1,k5.2,k6.1,k6.2,q1]
 rcases h4 : decide (S.kind = T.kind) with _ | _ <;> rw [h4] at q2
 ·simp -implicitDefEqProofs (maxSteps:=5000000) only [go_sem,simprocAttr,itr,itq,zAe,k1.1,k1.2,k2.1,k2.2,k3.1,k3.2,k4.1,k4.2,k5.1,k5.2,k6.1,k6.2,q1,q2]
 rcases h5 : decide (S.pid = T.pid) with _ | _ <;> rw [h5] at q3
 ·simp -implicitDefEqProofs (maxSteps:=5000000) only [go_sem,simprocAttr,itr,itq,zAe,k1.1,k1.2,k2.1,k2.2,k3.1,k3.2,k4.1,k4.2,k5.1,k5.2,k6.1,k6.2,q1,q2,q3]
 rcases h6 : decide (S.pairs = T.pairs) with _ | _ <;> simp only [h6] at e3
 ·simp -implicitDefEqProofs (maxSteps:=5000000) only [go_sem,simprocAttr,itr,itq,zAe,k1.1,k1.2,k2.1,k2.2,k3.1,k3.2,k4.1,k4.2,k5.1,k5.2,k6.1,k6.2,q1,q2,q3,e3]
 rcases h1 : decide (S.dirty = T.dirty) with _ | _ <;> simp only [h1] at e1
 ·simp -implicitDefEqProofs (maxSteps:=5000000) only [go_sem,simprocAttr,itr,itq,zAe,k1.1,k1.2,k2.1,k2.2,k3.1,k3.2,k4.1,k4.2,k5.1,k5.2,k6.1,k6.2,q1,q2,q3,e3,e1]
 ·simp -implicitDefEqProofs (maxSteps:=5000000) only [go_sem,simprocAttr,itr,itq,zAe,k1.1,k1.2,k2.1,k2.2,k3.1,k3.2,k4.1,k4.2,k5.1,k5.2,k6.1,k6.2,q1,q2,q3,e3,e1,e2]
end
end Go.Proofs.Ythgflkfhjnbheaa.G14
end
section
namespace Go.Proofs.Ythgflkfhjnbheaa.G14
open Go Go.Proofs.Ythgflkfhjnbheaa.Eng
def IsCr (H : zAc) (v : AV) (L : List SnS) (rows : List (List AV)) : Prop:=(v = .nilSl ∧ L = [] ∧ rows = []) ∨ ∃ b n e X,v = .sl b 0 3 L.length n e ∧ L.length ≤ n ∧ cellsOf H b = some (rows.flatten ++ X) ∧ ChR H rows L
theorem IsCr.adds {H H' : zAc} {v : AV} {L : List SnS} {rows : List (List AV)} (g : IsCr H v L rows) (a : Adds H H') : IsCr H' v L rows:=by
 rcases g with h | ⟨b,n,e,X,h1,h2,h3,h4⟩
 ·exact .inl h
 ·exact .inr ⟨b,n,e,X,h1,h2,a.cells h3,h4.adds a⟩
theorem isc_r {H : zAc} {v : AV} {L : List SnS} (g : IsC H v L) : ∃ rows,IsCr H v L rows ∧ ∀ r ∈ rows,∀ x ∈ r,∀ z,slb x = some z → z < H.length:=by
 rcases g with ⟨rfl,rfl⟩ | ⟨b,n,e,rows,X,h1,h2,h3,h4⟩
 ·exact ⟨[],.inl ⟨rfl,rfl,rfl⟩,fun r hr=>by cases hr⟩
 ·exact ⟨rows,.inr ⟨b,n,e,X,h1,h2,h3,h4⟩,fun r hr x hx z hz=>by obtain ⟨s,_,q⟩:=h4.row hr; exact q.lt x hx z hz⟩
theorem IsCr.ch {H : zAc} {v : AV} {L : List SnS} {rows : List (List AV)} (g : IsCr H v L rows) : ChR H rows L:=by
 rcases g with ⟨_,rfl,rfl⟩ | ⟨_,_,_,_,_,_,_,h⟩
 ·exact ⟨rfl,fun i r s h=>by simp at h⟩
 ·exact h
theorem IsCr.src {H : zAc} {v : AV} {L : List SnS} {rows : List (List AV)} (g : IsCr H v L rows) : Src 3 H v L.length rows.flatten:=by
 rcases g with ⟨rfl,rfl,rfl⟩ | ⟨b,n,e,X,rfl,hn,hc,hr⟩
 ·exact Src.nil 3 H
 ·have hl:=zDj hr.len3
  refine ⟨rfl,rfl,?_,by rw [hl,hr.len],?_⟩
  ·unfold zA4 zB0
   simp only [if_true,hc,Option.bind_some,Nat.zero_add,List.drop_zero]
   rw [if_pos (by rw [List.length_append,hl,hr.len]; omega),List.take_left' (by rw [hl,hr.len])]
  ·rw [List.all_flatten,List.all_eq_true]
   exact zUg hr
section
variable {H : zAc} {v : AV}
set_option maxHeartbeats 4000000 in
theorem cloneI {zs : List Int} (g : IS H v zs) (hn : zs.length ≤ 1000000) : ∃ v' K,(envL prog).call 54 [v] H = some (v',K) ∧ Adds H K ∧ IS K v' zs ∧ zFw v' ∧ ∀ b,slb v' = some b → H.length ≤ b:=by
 rw [c54]
 unfold b54
 rcases g with ⟨rfl,rfl⟩ | ⟨b,o,l,e,cs,rfl,hc,hg,hle⟩
 ·refine ⟨.nilSl,H,?_,Adds.refl H,.inl ⟨rfl,rfl⟩,fun _ _ _ _ _ _ h=>(by cases h),fun b h=>(by cases h)⟩
  simp -implicitDefEqProofs (maxSteps:=5000000) only [go_sem,simprocAttr,itr,itq]
 ·have gi : IS (H ++ [.rw []]) (.sl b o 1 zs.length l e) zs:=.inr ⟨b,o,l,e,cs,rfl,zBp hc,hg,hle⟩
  obtain ⟨v',K,ea,A,g',ok,s⟩:=is_app (K:=H ++ [.rw []]) (b:=H.length) (by simp) gi hn
  have A0 : Adds H K:=Adds.trans ⟨_,rfl⟩ A
  have wb : ∀ b,slb v' = some b → H.length ≤ b:=fun b hb=>by
   rcases s with q | q <;> rw [q] at hb <;> injection hb with hb
   ·omega
   ·rw [List.length_append,List.length_singleton] at hb; omega
  have u : v'.under H.length = false:=by
   rcases hw : v'.under H.length with _ | _
   ·rfl
   ·rcases s with q | q <;> (have:=zB4 hw q; have:=wb _ q; omega)
  refine ⟨v',K,?_,A0,g',ok,wb⟩
  have tk:=zA6 (h1:=K) u
  simp -implicitDefEqProofs (maxSteps:=5000000) only [go_sem,simprocAttr,itr,itq,ea,tk]
set_option maxHeartbeats 4000000 in
theorem cloneSn {L : List SnS} {rows : List (List AV)} (g : IsCr H v L rows) (hn : L.length ≤ 1000000) : ∃ v' K,(envL prog).call 56 [v] H = some (v',K) ∧ Adds H K ∧ ((L = [] ∧ IsC K v' [] ∧ ∀ b,slb v' = some b → H.length ≤ b) ∨ (L ≠ [] ∧ ∃ c,H.length ≤ c ∧ v' = .sl c 0 3 L.length L.length false ∧ K[c]? = some (.rw rows.flatten) ∧ ChR K rows L)):=by
 rw [c56]
 unfold b56
 have hr : (roomy : Nat) = 140737488355328:=rfl
 by_cases hv : v = .nilSl
 ·subst hv
  rcases g with ⟨_,rfl,_⟩ | ⟨_,_,_,_,h,_⟩
  ·refine ⟨.nilSl,H,?_,Adds.refl H,.inl ⟨rfl,.inl ⟨rfl,rfl⟩,fun b h=>(by cases h)⟩⟩
   simp -implicitDefEqProofs (maxSteps:=5000000) only [go_sem,simprocAttr,itr,itq]
  ·cases h
 ·have s:=(g.adds (⟨[.rw []],rfl⟩ : Adds H (H ++ [.rw []]))).src
  have cr:=g.ch
  obtain ⟨b,n,e,rfl⟩ : ∃ b n e,v = .sl b 0 3 L.length n e:=by
   rcases g with ⟨h,_⟩ | ⟨b,n,e,_,h,_⟩
   ·exact absurd h hv
   ·exact ⟨b,n,e,h⟩
  obtain ⟨v',K,ea,h⟩:=zK2 (k:=3) (d:=ty 3 true 56 [.int .i64 0,.nilSl,.nilSl]) (K:=H ++ [.rw []]) (b:=H.length) (by omega) rfl (by decide) (by simp) s (by show L.length * 56 ≤ _; omega)
  rcases h with ⟨h0,rfl,rfl⟩ | ⟨h0,rfl,rfl⟩
  ·obtain rfl:=List.length_eq_zero_iff.1 h0
   rw [List.length_nil] at ea
   have tk : trim H (some (AV.sl H.length 0 3 0 0 true,H ++ [.rw []])) = some (AV.sl H.length 0 3 0 0 true,H ++ [.rw []]):=zA6 (by simp [AV.under])
   refine ⟨_,H ++ [.rw []],?_,⟨_,rfl⟩,.inl ⟨rfl,.inr ⟨H.length,0,true,[],[],rfl,Nat.le_refl _,zAl (by simp),⟨rfl,fun i r s h=>by simp at h⟩⟩,fun b hb=>by injection hb with hb; omega⟩⟩
   simp -implicitDefEqProofs (maxSteps:=5000000) only [go_sem,simprocAttr,itr,itq,ea,tk]
  ·obtain ⟨K1,hK1⟩ : ∃ K1,K1 = (H ++ [ABlk.rw []]) ++ [.rw rows.flatten]:=⟨_,rfl⟩
   obtain ⟨c,hcc⟩ : ∃ c,c = (H ++ [ABlk.rw []]).length:=⟨_,rfl⟩
   have hc1 : H.length ≤ c:=by rw [hcc]; simp
   rw [← hK1,← hcc] at ea
   have tk : trim H (some (AV.sl c 0 3 L.length L.length false,K1)) = some (AV.sl c 0 3 L.length L.length false,K1):=zA6 (by simp [AV.under]; omega)
   have A : Adds H K1:=by rw [hK1,List.append_assoc]; exact ⟨_,rfl⟩
   refine ⟨_,K1,?_,A,.inr ⟨fun e=>by rw [e] at h0; exact h0 rfl,c,hc1,rfl,by rw [hK1,hcc]; simp,cr.adds A⟩⟩
   simp -implicitDefEqProofs (maxSteps:=5000000) only [go_sem,simprocAttr,itr,itq,ea,tk]
end
theorem own_lt {K : zAc} {w : AV} {G : zAc} {ys : List Int} (o : Bt.Own K w G ys) : ∀ b,slb w = some b → K.length ≤ b:=by
 rcases o with ⟨_,⟨rfl,_⟩ | ⟨rfl,_⟩⟩ | ⟨_,rfl,_⟩ <;> intro b hb
 ·cases hb
 ·injection hb with hb; omega
 ·injection hb with hb; omega
section
variable {H : zAc} {q c d : Nat} {vd vp nx kd pd : AV} {L : List SnS} (fi : Fits L) (hq : cellsOf H q = some [vd,.sl c 0 3 L.length L.length false,nx,kd,pd,vp]) (qc : q ≠ c) (lc : c < H.length) (ld : d < H.length)
include fi hq qc lc ld
set_option maxHeartbeats 8000000 in
theorem cpL (x0 x2 x5 x6 x7 x8 x9 x10 x11 x12 x13 x14 x15 x16 x17 x18 x19 x20 x46 : AV) : ∀ (m i : Nat) (K : zAc) (rs : List (List AV)) (j3 j4 j23 j24 j25 j26 j27 j28 j29 j30 j31 j32 j33 j34 j35 j36 j37 j38 j39 j40 j41 j42 j43 j44 j45 : AV),Fr H K (· = c) → K[c]? = some (.rw rs.flatten) → ChR K rs L → (∀ r ∈ rs,∀ x ∈ r,∀ z,slb x = some z → z ≠ c ∧ z ≠ d) → i + m = L.length →
  Outs (LP1 l19x0 [x0,.ptr q 0,x2,j3,j4,x5,x6,x7,x8,x9,x10,x11,x12,x13,x14,x15,x16,x17,x18,x19,x20,.int .i64 (L.length : Int),.int .i64 (i : Int),j23,j24,j25,j26,j27,j28,j29,j30,j31,j32,j33,j34,j35,j36,j37,j38,j39,j40,j41,j42,j43,j44,j45,x46] K) fun e t K'=>e = .exit 0 ∧ (Fr H K' (· = c) ∧ ∃ rs,K'[c]? = some (.rw rs.flatten) ∧ ChR K' rs L ∧ ∀ r ∈ rs,∀ x ∈ r,∀ z,slb x = some z → z ≠ c ∧ z ≠ d) ∧ ∃ fv : Nat → AV,t = [x0,.ptr q 0,x2,(fv 3),(fv 4),x5,x6,x7,x8,x9,x10,x11,x12,x13,x14,x15,x16,x17,x18,x19,x20,.int .i64 (L.length : Int),(fv 22),(fv 23),(fv 24),(fv 25),(fv 26),(fv 27),(fv 28),(fv 29),(fv 30),(fv 31),(fv 32),(fv 33),(fv 34),(fv 35),(fv 36),(fv 37),(fv 38),(fv 39),(fv 40),(fv 41),(fv 42),(fv 43),(fv 44),(fv 45),x46]:=by
 intro m
 obtain ⟨L0,hL0⟩ : ∃ L,L = LP1 l19x0:=⟨_,rfl⟩
 have lo:=zAp hL0
 have fl:=fi.1
 rw [← hL0]
 induction m with
 | zero =>
  intro i K rs j3 j4 j23 j24 j25 j26 j27 j28 j29 j30 j31 j32 j33 j34 j35 j36 j37 j38 j39 j40 j41 j42 j43 j44 j45 fK hs g ro hi
  obtain rfl : i = L.length:=by omega
  have hd : decide ((L.length : Int) < (L.length : Int)) = false:=by simp
  rw [lo]
  unfold l19x0
  simp -implicitDefEqProofs (maxSteps:=5000000) only [go_sem,simprocAttr,hd,zAg,zAb]
  exact ⟨⟨fK,rs,hs,g,ro⟩,exF rfl⟩
 | succ m ih =>
  intro i K rs j3 j4 j23 j24 j25 j26 j27 j28 j29 j30 j31 j32 j33 j34 j35 j36 j37 j38 j39 j40 j41 j42 j43 j44 j45 fK hs g ro hi
  have hlt : i < L.length:=by omega
  have hd : decide ((i : Int) < (L.length : Int)) = true:=decide_eq_true (by omega)
  have e2 : IntKind.i64.wrap ((i : Int) + 1) = ((i + 1 : Nat) : Int):=by rw [zAk (by omega) (by omega)]; omega
  have kl:=fK.1
  have hx:=List.getElem?_eq_getElem hlt
  have ft:=zCl fi hx
  generalize L[i] = s at *
  obtain ⟨r,hr,gr⟩:=g.get hx
  obtain ⟨vc,vt,rfl,bc,pt⟩:=snR_pat gr
  have l3:=g.len3
  have hl:=zDj l3
  have ln:=g.len
  have im : i * 3 + 3 ≤ rs.flatten.length:=by rw [hl,ln]; omega
  obtain ⟨vc',G,o1,e1⟩:=Bt.cloneC bc (by have:=ft.lc; omega)
  obtain ⟨K1,hK1⟩ : ∃ K1,K1 = K ++ G:=⟨_,rfl⟩
  have A1 : Adds K K1:=⟨_,hK1⟩
  have b1:=o1.bs
  rw [← hK1] at e1 b1
  obtain ⟨vt',K2,e3,A2,g2⟩:=cloneC (pt.adds A1) (by have:=ft.lt; omega)
  have l1:=A1.len
  have l2:=A2.len
  have o2:=g2.out
  have k1:=b1.cell
  have k2:=g2.isP.cell
  have s2 : K2[c]? = some (.rw rs.flatten):=(A1.trans A2).at hs
  have w1:=zI8 (f:=1) (v:=vc') s2 l3 hr (by omega) k1.2
  obtain ⟨rs1,hrs1⟩ : ∃ rs1,rs1 = rs.set i [.int .i64 s.id,vc',vt]:=⟨_,rfl⟩
  rw [show ([AV.int .i64 s.id,vc,vt]).set 1 vc' = [AV.int .i64 s.id,vc',vt] from rfl,← hrs1] at w1
  obtain ⟨K3,hK3⟩ : ∃ K3,K3 = K2.set c (.rw rs1.flatten):=⟨_,rfl⟩
  rw [← hK3] at w1
  have s3 : K3[c]? = some (.rw rs1.flatten):=by rw [hK3]; exact zBe _ _ _ (by omega)
  have nl : i < rs.length:=by omega
  have h1 : rs1[i]? = some [.int .i64 s.id,vc',vt]:=by rw [hrs1,List.getElem?_set_self nl]
  have l31 : ∀ r ∈ rs1,r.length = 3:=fun r hr=>by
   rw [hrs1] at hr
   rcases List.mem_or_eq_of_mem_set hr with h | rfl
   ·exact l3 r h
   ·rfl
  have w2:=zI8 (f:=2) (v:=vt') s3 l31 h1 (by omega) k2.2
  obtain ⟨rs2,hrs2⟩ : ∃ rs2,rs2 = rs.set i [.int .i64 s.id,vc',vt']:=⟨_,rfl⟩
  rw [show ([AV.int .i64 s.id,vc',vt]).set 2 vt' = [AV.int .i64 s.id,vc',vt'] from rfl,hrs1,List.set_set,← hrs2] at w2
  obtain ⟨K4,hK4⟩ : ∃ K4,K4 = K3.set c (.rw rs2.flatten):=⟨_,rfl⟩
  rw [← hK4] at w2
  have s4 : K4[c]? = some (.rw rs2.flatten):=by rw [hK4]; exact zBe _ _ _ (by rw [hK3,List.length_set]; omega)
  have f24 : Fr K2 K4 (· = c):=by
   rw [hK4,hK3]; exact (Fr.set (F:=(· = c)) _ _ rfl).trans (Fr.set (F:=(· = c)) _ _ rfl) fun _ _ h=>h
  have f04 : Fr K K4 (· = c):=(Fr.adds (A1.trans A2) _).trans f24 fun _ _ h=>h
  have fH4 : Fr H K4 (· = c):=fK.trans f04 fun _ _ h=>h
  have ro4 : ∀ r ∈ rs2,∀ x ∈ r,∀ z,slb x = some z → z ≠ c ∧ z ≠ d:=fun r hr x hx z hz=>by
   rw [hrs2] at hr
   rcases List.mem_or_eq_of_mem_set hr with h | rfl
   ·exact ro r h x hx z hz
   ·simp only [List.mem_cons,List.not_mem_nil,or_false] at hx
    rcases hx with rfl | rfl | rfl
    ·cases hz
    ·have:=own_lt o1 z hz; omega
    ·have:=(o2 z hz).1; omega
  have g4 : ChR K4 rs2 L:=by
   refine ⟨by rw [hrs2,List.length_set]; exact ln,fun j r' s' h1 h2=>?_⟩
   rw [hrs2] at h1
   by_cases hj : i = j
   ·subst hj
    rw [List.getElem?_set_self nl] at h1
    rw [hx] at h2
    injection h1 with h1; injection h2 with h2
    subst h1; subst h2
    exact ⟨vc',vt',rfl,(A2.bs b1).fr f24 fun z hz h=>by have:=own_lt o1 z hz; omega,g2.isP.fr f24 fun z hz h=>by have:=(o2 z hz).1; omega⟩
   ·rw [List.getElem?_set_ne hj] at h1
    exact (g.el j r' s' h1 h2).fr f04 fun x hx z hz=>(ro r' (List.mem_of_getElem? h1) x hx z hz).1
  have cq:=fK.cells hq qc
  have cq1:=A1.cells cq
  have cq2:=A2.cells cq1
  have ix : zBj 3 (.sl c 0 3 L.length L.length false) (.int .i64 (i : Int)) = some (.ptr c (i * 3)):=zEh c 3 _ _ i false .i64 (by omega) hlt
  have cc:=zAl hs
  have cc1:=A1.cells cc
  have cc2:=A2.cells cc1
  have cc3:=zAl s3
  have q1 : rs.flatten[i * 3 + 1]? = some vc:=by rw [zEf l3 hr 1 (by omega)]; rfl
  have q2 : rs.flatten[i * 3 + 2]? = some vt:=by rw [zEf l3 hr 2 (by omega)]; rfl
  have key:=ih (i + 1) K4 rs2
  rw [lo]
  unfold l19x0
  simp -implicitDefEqProofs (maxSteps:=5000000) only [go_sem,simprocAttr,itr,itq,hd,cq,cq1,cq2,ix,cc,cc1,cc2,cc3,q1,q2,e1,e3,k1.1,k1.2,k2.1,k2.2,w1,w2,e2]
  exact key _ _ _ _ _ _ _ _ _ _ _ _ _ _ _ _ _ _ _ _ _ _ _ _ _ fH4 s4 g4 ro4 (by omega)
end
set_option maxHeartbeats 4000000 in
theorem cpL_nil {K : zAc} {q : Nat} (x0 x2 x5 x6 x7 x8 x9 x10 x11 x12 x13 x14 x15 x16 x17 x18 x19 x20 x46 : AV) (j3 j4 j23 j24 j25 j26 j27 j28 j29 j30 j31 j32 j33 j34 j35 j36 j37 j38 j39 j40 j41 j42 j43 j44 j45 : AV) :
  Outs (LP1 l19x0 [x0,.ptr q 0,x2,j3,j4,x5,x6,x7,x8,x9,x10,x11,x12,x13,x14,x15,x16,x17,x18,x19,x20,.int .i64 0,.int .i64 0,j23,j24,j25,j26,j27,j28,j29,j30,j31,j32,j33,j34,j35,j36,j37,j38,j39,j40,j41,j42,j43,j44,j45,x46] K) fun e t K'=>e = .exit 0 ∧ K' = K ∧ ∃ fv : Nat → AV,t = [x0,.ptr q 0,x2,(fv 3),(fv 4),x5,x6,x7,x8,x9,x10,x11,x12,x13,x14,x15,x16,x17,x18,x19,x20,.int .i64 0,(fv 22),(fv 23),(fv 24),(fv 25),(fv 26),(fv 27),(fv 28),(fv 29),(fv 30),(fv 31),(fv 32),(fv 33),(fv 34),(fv 35),(fv 36),(fv 37),(fv 38),(fv 39),(fv 40),(fv 41),(fv 42),(fv 43),(fv 44),(fv 45),x46]:=by
 obtain ⟨L0,hL0⟩ : ∃ L,L = LP1 l19x0:=⟨_,rfl⟩
 have lo:=zAp hL0
 rw [← hL0,lo]
 unfold l19x0
 simp -implicitDefEqProofs (maxSteps:=5000000) only [go_sem,simprocAttr,itr,itq,zAg,zAb]
 exact exF rfl
end Go.Proofs.Ythgflkfhjnbheaa.G14
end
section
namespace Go.Proofs.Ythgflkfhjnbheaa.G14
open Go Go.Proofs.Ythgflkfhjnbheaa.Eng
theorem sta_end {H K : zAc} {wd ws wp : AV} {S : StS} {n k p : Int} (a : Adds H K) (g : StA K wd ws wp S) (wb : ∀ x ∈ [wd,ws,wp],∀ b,slb x = some b → H.length ≤ b) : ∃ K',trim H (some (.agg [wd,ws,.int .i64 n,.int .i64 k,.int .i64 p,wp],K)) = some (.agg [wd,ws,.int .i64 n,.int .i64 k,.int .i64 p,wp],K') ∧ Adds H K' ∧ StA K' wd ws wp S:=by
 rcases zD7 (v:=.agg [wd,ws,.int .i64 n,.int .i64 k,.int .i64 p,wp]) a with e | ⟨u,e⟩
 ·exact ⟨K,e,a,g⟩
 ·refine ⟨H,e,Adds.refl H,?_⟩
  have u2 : zBc H.length [wd,ws,.int .i64 n,.int .i64 k,.int .i64 p,wp] = true:=u
  simp only [zBc,Bool.and_eq_true] at u2
  have no : ∀ x ∈ [wd,ws,wp],slb x = none:=fun x hx=>by
   cases hb : slb x with
   | none=>rfl
   | some b =>
    have h1:=wb x hx b hb
    simp only [List.mem_cons,List.not_mem_nil,or_false] at hx
    rcases hx with rfl | rfl | rfl
    ·have:=zB4 u2.1 hb; omega
    ·have:=zB4 u2.2.1 hb; omega
    ·have:=zB4 u2.2.2.2.2.2.1 hb; omega
  have nd:=no wd (by simp)
  have ns:=no ws (by simp)
  have np:=no wp (by simp)
  refine ⟨?_,g.ok,?_,?_⟩
  ·rcases g.d with h | ⟨_,_,_,_,_,rfl,_⟩
   ·exact .inl h
   ·cases nd
  ·rcases g.s with h | ⟨_,_,_,_,_,rfl,_⟩
   ·exact .inl h
   ·cases ns
  ·rcases g.p with h | ⟨_,_,_,rfl,_⟩
   ·exact .inl h
   ·cases np
section
variable {H : zAc} {vd vs vp : AV} {S : StS} (g : StA H vd vs vp S) (fi : FitS S) (lD : S.dirty.length ≤ 1000000)
include g fi lD
set_option maxHeartbeats 16000000 in
theorem zRo : ∃ wd ws wp K,(envL prog).call 19 [.agg [vd,vs,.int .i64 S.next,.int .i64 S.kind,.int .i64 S.pid,vp]] H = some (.agg [wd,ws,.int .i64 S.next,.int .i64 S.kind,.int .i64 S.pid,wp],K) ∧ Adds H K ∧ StA K wd ws wp S:=by
 have cd:=IS.cell g.d
 have cc:=g.s.cell
 have cp:=g.p.cell
 have fl:=fi.s.1
 obtain ⟨H1,hH1⟩ : ∃ H1,H1 = H ++ [ABlk.rw [vd,vs,.int .i64 S.next,.int .i64 S.kind,.int .i64 S.pid,vp],.rw [.nilSl,.nilSl,.int .i64 0,.int .i64 0,.int .i64 0,.nilSl]]:=⟨_,rfl⟩
 have A1 : Adds H H1:=⟨_,hH1⟩
 have l1 : H1.length = H.length + 2:=by rw [hH1]; simp
 have q1 : H1[H.length]? = some (.rw [vd,vs,.int .i64 S.next,.int .i64 S.kind,.int .i64 S.pid,vp]):=by rw [hH1]; simp
 have b1 : H1[H.length + 1]? = some (.rw [.nilSl,.nilSl,.int .i64 0,.int .i64 0,.int .i64 0,.nilSl]):=by rw [hH1]; simp
 obtain ⟨wd,K2,e2,A2,g2,ok2,s2⟩:=cloneI (A1.is g.d) lD
 obtain ⟨wp,K3,e3,A3,g3⟩:=cloneC ((g.p.adds A1).adds A2) (by have:=fi.p; omega)
 obtain ⟨rows,gr,rlt⟩:=isc_r g.s
 obtain ⟨ws,K4,e4,A4,h4⟩:=cloneSn (((gr.adds A1).adds A2).adds A3) (by omega)
 have l2:=A2.len
 have l3:=A3.len
 have l4:=A4.len
 have o3:=g3.out
 have q2:=A2.at q1
 have q3:=A3.at q2
 have q4:=A4.at q3
 have c1:=zAl q1
 have c2:=zAl q2
 have c3:=zAl q3
 have c4:=zAl q4
 have b4:=A4.at (A3.at (A2.at b1))
 have kd:=IS.cell g2
 have kp:=g3.isP.cell
 have wsc : zA0 ws = some [ws] ∧ ws.isCell = true:=by
  rcases h4 with ⟨_,h,_⟩ | ⟨_,c,_,rfl,_⟩
  ·exact h.cell
  ·exact ⟨rfl,rfl⟩
 have wsl : zD3 ws = some (.int .i64 (S.snaps.length : Int)):=by
  rcases h4 with ⟨e,h,_⟩ | ⟨_,c,_,rfl,_⟩
  ·rw [e]; exact h.len
  ·rfl
 have wsb : ∀ b,slb ws = some b → K3.length ≤ b:=by
  rcases h4 with ⟨_,_,h⟩ | ⟨_,c,hc,rfl,_⟩
  ·exact h
  ·intro b hb; injection hb with hb; omega
 have w1 : zA3 K4 H.length 0 [wd] = some (K4.set H.length (.rw [wd,vs,.int .i64 S.next,.int .i64 S.kind,.int .i64 S.pid,vp])):=by
  rw [zA2 q4,if_pos ⟨by simp,by simp only [List.all_cons,kd.2]; rfl⟩]; rfl
 obtain ⟨U1,hU1⟩ : ∃ U1,U1 = K4.set H.length (.rw [wd,vs,.int .i64 S.next,.int .i64 S.kind,.int .i64 S.pid,vp]):=⟨_,rfl⟩
 rw [← hU1] at w1
 have x1 : U1[H.length]? = some (.rw [wd,vs,.int .i64 S.next,.int .i64 S.kind,.int .i64 S.pid,vp]):=by rw [hU1]; exact zBe _ _ _ (by omega)
 have w2 : zA3 U1 H.length 5 [wp] = some (U1.set H.length (.rw [wd,vs,.int .i64 S.next,.int .i64 S.kind,.int .i64 S.pid,wp])):=by
  rw [zA2 x1,if_pos ⟨by simp,by simp only [List.all_cons,kp.2]; rfl⟩]; rfl
 obtain ⟨U2,hU2⟩ : ∃ U2,U2 = U1.set H.length (.rw [wd,vs,.int .i64 S.next,.int .i64 S.kind,.int .i64 S.pid,wp]):=⟨_,rfl⟩
 rw [← hU2] at w2
 have lx1 : U1.length = K4.length:=by rw [hU1]; simp
 have x2 : U2[H.length]? = some (.rw [wd,vs,.int .i64 S.next,.int .i64 S.kind,.int .i64 S.pid,wp]):=by rw [hU2]; exact zBe _ _ _ (by omega)
 have w3 : zA3 U2 H.length 1 [ws] = some (U2.set H.length (.rw [wd,ws,.int .i64 S.next,.int .i64 S.kind,.int .i64 S.pid,wp])):=by
  rw [zA2 x2,if_pos ⟨by simp,by simp only [List.all_cons,wsc.2]; rfl⟩]; rfl
 obtain ⟨U3,hU3⟩ : ∃ U3,U3 = U2.set H.length (.rw [wd,ws,.int .i64 S.next,.int .i64 S.kind,.int .i64 S.pid,wp]):=⟨_,rfl⟩
 rw [← hU3] at w3
 have lx2 : U2.length = K4.length:=by rw [hU2]; simp [lx1]
 have lx3 : U3.length = K4.length:=by rw [hU3]; simp [lx2]
 have x3 : U3[H.length]? = some (.rw [wd,ws,.int .i64 S.next,.int .i64 S.kind,.int .i64 S.pid,wp]):=by rw [hU3]; exact zBe _ _ _ (by omega)
 have fx : Fr K4 U3 (· = H.length):=by
  rw [hU3,hU2,hU1]; exact ((Fr.set (F:=(· = H.length)) _ _ rfl).trans (Fr.set (F:=(· = H.length)) _ _ rfl) fun _ _ h=>h).trans (Fr.set (F:=(· = H.length)) _ _ rfl) fun _ _ h=>h
 have y1:=zAl x1
 have y2:=zAl x2
 have y3:=zAl x3
 have l0 : ∀ x0 x2 x5 x6 x7 x8 x9 x10 x11 x12 x13 x14 x15 x16 x17 x18 x19 x20 x46 j3 j4 j23 j24 j25 j26 j27 j28 j29 j30 j31 j32 j33 j34 j35 j36 j37 j38 j39 j40 j41 j42 j43 j44 j45,Outs (LP1 l19x0 [x0,.ptr H.length 0,x2,j3,j4,x5,x6,x7,x8,x9,x10,x11,x12,x13,x14,x15,x16,x17,x18,x19,x20,.int .i64 (S.snaps.length : Int),.int .i64 0,j23,j24,j25,j26,j27,j28,j29,j30,j31,j32,j33,j34,j35,j36,j37,j38,j39,j40,j41,j42,j43,j44,j45,x46] U3) fun e t K'=>e = .exit 0 ∧ (Fr U3 K' (fun x=>slb ws = some x) ∧ ∀ K'',Fr K' K'' (· = H.length + 1) → IsC K'' ws S.snaps) ∧ ∃ fv : Nat → AV,t = [x0,.ptr H.length 0,x2,(fv 3),(fv 4),x5,x6,x7,x8,x9,x10,x11,x12,x13,x14,x15,x16,x17,x18,x19,x20,.int .i64 (S.snaps.length : Int),(fv 22),(fv 23),(fv 24),(fv 25),(fv 26),(fv 27),(fv 28),(fv 29),(fv 30),(fv 31),(fv 32),(fv 33),(fv 34),(fv 35),(fv 36),(fv 37),(fv 38),(fv 39),(fv 40),(fv 41),(fv 42),(fv 43),(fv 44),(fv 45),x46]:=by
  intro x0 x2 x5 x6 x7 x8 x9 x10 x11 x12 x13 x14 x15 x16 x17 x18 x19 x20 x46 j3 j4 j23 j24 j25 j26 j27 j28 j29 j30 j31 j32 j33 j34 j35 j36 j37 j38 j39 j40 j41 j42 j43 j44 j45
  rcases h4 with ⟨e,h,hb⟩ | ⟨h0,c,hc,rfl,hK,cr⟩
  ·have:=cpL_nil (K:=U3) (q:=H.length) x0 x2 x5 x6 x7 x8 x9 x10 x11 x12 x13 x14 x15 x16 x17 x18 x19 x20 x46 j3 j4 j23 j24 j25 j26 j27 j28 j29 j30 j31 j32 j33 j34 j35 j36 j37 j38 j39 j40 j41 j42 j43 j44 j45
   rw [e]
   refine this.mono fun e' t K' ⟨h1,h2,h3⟩=>⟨h1,⟨?_,?_⟩,h3⟩
   ·subst h2; exact Fr.refl _ _
   ·subst h2
    intro K'' f''
    rcases h with h | ⟨b,n,ex,rws,Y,rfl,hn,hcc,hr⟩
    ·exact .inl h
    ·obtain rfl : rws = []:=List.length_eq_zero_iff.1 hr.len
     exact .inr ⟨b,n,ex,[],Y,rfl,hn,f''.cells (fx.cells hcc (by have:=hb b rfl; show ¬ b = H.length; omega)) (by have:=hb b rfl; show ¬ b = H.length + 1; omega),⟨rfl,fun i r s h=>by simp at h⟩⟩
  ·have ro : ∀ r ∈ rows,∀ x ∈ r,∀ z,slb x = some z → z ≠ c ∧ z ≠ H.length + 1:=fun r hr x hx z hz=>by
    have:=rlt r hr x hx z hz; omega
   have g' : ChR U3 rows S.snaps:=cr.fr fx fun r hr x hx z hz h=>by have:=rlt r hr x hx z hz; omega
   have:=cpL (H:=U3) (q:=H.length) (c:=c) (d:=H.length + 1) (nx:=.int .i64 S.next) (kd:=.int .i64 S.kind) (pd:=.int .i64 S.pid) fi.s y3 (by omega) (by have:=zA8 hK; omega) (by omega) x0 x2 x5 x6 x7 x8 x9 x10 x11 x12 x13 x14 x15 x16 x17 x18 x19 x20 x46 S.snaps.length 0 U3 rows j3 j4 j23 j24 j25 j26 j27 j28 j29 j30 j31 j32 j33 j34 j35 j36 j37 j38 j39 j40 j41 j42 j43 j44 j45 (Fr.refl _ _) (fx.at hK (by show ¬ c = H.length; omega)) g' ro (by omega)
   refine this.mono fun e' t K' ⟨h1,⟨h2,rs,h3,h4,h6⟩,h5⟩=>⟨h1,⟨h2.mono fun x _ hx=>by show some c = some x; rw [hx],fun K'' f''=>?_⟩,h5⟩
   refine .inr ⟨c,S.snaps.length,false,rs,[],rfl,Nat.le_refl _,by rw [List.append_nil]; exact f''.cells (zAl h3) (by show ¬ c = H.length + 1; omega),h4.fr f'' fun r hr x hx z hz=>(h6 r hr x hx z hz).2⟩
 have hH1':=hH1.symm
 have wdb : ∀ x ∈ [wd,ws,wp],∀ b,slb x = some b → H.length ≤ b:=fun x hx b hb=>by
  simp only [List.mem_cons,List.not_mem_nil,or_false] at hx
  rcases hx with rfl | rfl | rfl
  ·have:=s2 b hb; omega
  ·have:=wsb b hb; omega
  ·have:=(o3 b hb).1; omega
 have key : Outs (runC (envL prog) (b19 (envL prog)) ([.agg [vd,vs,.int .i64 S.next,.int .i64 S.kind,.int .i64 S.pid,vp]] ++ List.replicate (47 - [AV.agg [vd,vs,.int .i64 S.next,.int .i64 S.kind,.int .i64 S.pid,vp]].length) .undef) H) fun e' t K=>Adds H K ∧ StA K wd ws wp S ∧ fin [.cell 2 6 true] (some (e',t,K)) = some (.agg [wd,ws,.int .i64 S.next,.int .i64 S.kind,.int .i64 S.pid,wp],K):=by
  unfold b19
  generalize hQ : (fun (e' : Ex) (t : T) (K : zAc)=>Adds H K ∧ StA K wd ws wp S ∧ fin [.cell 2 6 true] (some (e',t,K)) = some (AV.agg [wd,ws,.int .i64 S.next,.int .i64 S.kind,.int .i64 S.pid,wp],K)) = Q
  simp -implicitDefEqProofs (maxSteps:=5000000) only [go_sem,simprocAttr,itr,itq,zAi,zAe,cd.1,cd.2,cc.1,cc.2,cp.1,cp.2,hH1',c1,e2,c2,e3,c3,e4,c4,kd.1,kd.2,kp.1,kp.2,wsc.1,wsc.2,zAx,w1,y1,w2,y2,w3,y3,wsl]
  unfold LP1 at l0
  generalize (envL prog).loop (runC (envL prog) (l19x0 (envL prog))) = L0 at l0 ⊢
  refine zAq (fun r=>seqR (zAt 0 r) _) (l0 _ _ _ _ _ _ _ _ _ _ _ _ _ _ _ _ _ _ _ _ _ _ _ _ _ _ _ _ _ _ _ _ _ _ _ _ _ _ _ _ _ _ _ _) ?_
  rintro e t K ⟨rfl,⟨fK,gK⟩,fv,rfl⟩
  have kl:=fK.1
  have z1 : cellsOf K H.length = some [wd,ws,.int .i64 S.next,.int .i64 S.kind,.int .i64 S.pid,wp]:=fK.cells y3 fun h=>by have:=wsb _ h; omega
  have z2 : K[H.length + 1]? = some (.rw [.nilSl,.nilSl,.int .i64 0,.int .i64 0,.int .i64 0,.nilSl]):=fK.at (fx.at b4 (by show ¬ H.length + 1 = H.length; omega)) fun h=>by have:=wsb _ h; omega
  have w5 : zA3 K (H.length + 1) 0 [wd,ws,.int .i64 S.next,.int .i64 S.kind,.int .i64 S.pid,wp] = some (K.set (H.length + 1) (.rw [wd,ws,.int .i64 S.next,.int .i64 S.kind,.int .i64 S.pid,wp])):=by
   rw [zA2 z2,if_pos ⟨by simp,by simp only [List.all_cons,kd.2,wsc.2,kp.2]; rfl⟩]; rfl
  have f5 : Fr K (K.set (H.length + 1) (.rw [wd,ws,.int .i64 S.next,.int .i64 S.kind,.int .i64 S.pid,wp])) (· = H.length + 1):=Fr.set _ _ rfl
  have c5 : cellsOf (K.set (H.length + 1) (.rw [wd,ws,.int .i64 S.next,.int .i64 S.kind,.int .i64 S.pid,wp])) (H.length + 1) = some [wd,ws,.int .i64 S.next,.int .i64 S.kind,.int .i64 S.pid,wp]:=zAl (zBe _ _ _ (by omega))
  simp -implicitDefEqProofs (maxSteps:=5000000) only [go_sem,simprocAttr,itr,itq,z1,w5,zAe,kd.1,kd.2,kp.1,kp.2,wsc.1,wsc.2,zAb]
  subst hQ
  have f45 : Fr K4 (K.set (H.length + 1) (.rw [wd,ws,.int .i64 S.next,.int .i64 S.kind,.int .i64 S.pid,wp])) (fun x=>(x = H.length ∨ slb ws = some x) ∨ x = H.length + 1) :=
   (((fx.mono (G:=fun x=>x = H.length ∨ slb ws = some x) fun _ _ h=>.inl h).trans fK fun _ _ h=>.inr h).mono (G:=fun x=>(x = H.length ∨ slb ws = some x) ∨ x = H.length + 1) fun _ _ h=>.inl h).trans f5 fun _ _ h=>.inr h
  have nf : ∀ z,H1.length ≤ z → z < K3.length → ¬ ((z = H.length ∨ slb ws = some z) ∨ z = H.length + 1):=fun z h1 h2 h=>by
   rcases h with (h | h) | h
   ·omega
   ·have:=wsb z h; omega
   ·omega
  refine ⟨f45.old (((A1.trans A2).trans A3).trans A4) (fun z hz h=>?_),⟨IS.frS ((A3.trans A4).is g2) f45 (fun z hz=>nf z (s2 z hz) (by have:=IS.lt g2 z hz; omega)),ok2,?_,(g3.isP.adds A4).fr f45 fun z hz=>nf z (by have:=(o3 z hz).1; omega) (o3 z hz).2⟩,?_⟩
  ·rcases h with (h | h) | h
   ·omega
   ·have:=wsb z h; omega
   ·omega
  ·exact gK _ f5
  ·simp -implicitDefEqProofs (maxSteps:=5000000) only [go_sem,simprocAttr,itr,itq,c5]
 obtain ⟨e',t,K,hr,aK,st,hf⟩:=key
 obtain ⟨K',et,a',st'⟩:=sta_end aK st wdb
 refine ⟨wd,ws,wp,K',?_,a',st'⟩
 rw [c19,hr,hf]
 exact et
end
end Go.Proofs.Ythgflkfhjnbheaa.G14
end
section
namespace Go.Proofs.Ythgflkfhjnbheaa.G14
open Go Go.Proofs.Ythgflkfhjnbheaa.Eng
def SW : StS:=⟨[2,-1,-1,5],[⟨1,[4],[(2,3)]⟩],2,0,0,[]⟩
theorem zO0 : zCp 8 2 2 4 SW = true:=by decide +kernel
theorem zO1 : Gm.goodB 8 2 2 4 12 = true:=by decide +kernel
theorem zO5 : (encT 8 SW).length = 126:=by decide +kernel
theorem encW_at : (encT 8 SW)[0]? = some 2 ∧ (encT 8 SW)[4]? = some 1 ∧ (encT 8 SW)[10]? = some 3 ∧ (encT 8 SW)[13]? = some 6 ∧ (encT 8 SW)[14]? = some 1 ∧ (encT 8 SW)[18]? = some 4 ∧ (encT 8 SW)[21]? = some 4:=by decide +kernel
theorem rawW : rawT 4 1 8 (encT 8 SW) = SW:=by decide +kernel
theorem zMa : FitS SW:=⟨⟨by decide,fun s hs=>by
 have : s = ⟨1,[4],[(2,3)]⟩:=List.mem_singleton.1 hs
 subst this
 exact ⟨by unfold IsU8; decide,by decide,by decide⟩⟩,by decide⟩
theorem smallC (h : zAc) : (envL prog).call 22 [] h = some (.agg [.int .i64 8,.int .i64 2,.int .i64 2,.int .i64 4,.int .i64 12],h):=by
 rw [c22]
 unfold b22
 simp -implicitDefEqProofs (maxSteps:=5000000) only [go_sem,simprocAttr,itr,itq]
theorem zQ6 (f : Nat) (args : List AV) (h : zAc) : (envX prog Over.none).call f args h = (envL prog).call f args h:=rfl
set_option maxHeartbeats 32000000 in
theorem wakesSC : ∃ h1,zBs prog (envX prog Over.none) 7 [] [] = some (.bool true,h1):=by
 obtain ⟨v1,K1,e1,A1,g1⟩:=firstC (b:=8) (s:=2) (w:=2) (a:=4) (r:=12) (H:=[ABlk.rw [.int .i64 8,.int .i64 2,.int .i64 2,.int .i64 4,.int .i64 12]]) zO1
 unfold Gm.geo at e1
 have q1 : cellsOf K1 0 = some [.int .i64 8,.int .i64 2,.int .i64 2,.int .i64 4,.int .i64 12]:=A1.cells rfl
 have k1:=IS.cell g1
 have l1 : 1 ≤ K1.length:=A1.len
 obtain ⟨n,hn⟩ : ∃ n,n = K1.length:=⟨_,rfl⟩
 obtain ⟨K2,hK2⟩ : ∃ K2,K2 = K1 ++ [ABlk.rw [v1,.sl (n + 3) 0 3 1 1 true,.int .i64 2,.int .i64 0,.int .i64 0,.nilSl],.rw [.int .u8 4],.rw [.int .i64 2,.int .i64 3],.rw [.int .i64 1,.sl (n + 1) 0 1 1 1 true,.sl (n + 2) 0 2 1 1 true],.rw [],.rw [.int .i64 2,.int .i64 (-1),.int .i64 (-1),.int .i64 5]]:=⟨_,rfl⟩
 have l2 : K2.length = n + 6:=by rw [hK2,hn]; simp
 have hr : (roomy : Nat) = 140737488355328:=rfl
 obtain ⟨v3,K3',ea,h3⟩:=zK2 (k:=1) (n:=4) (d:=ty 1 false 8 [.int .i64 0]) (K:=K2) (b:=n + 4) (y:=.sl (n + 5) 0 1 4 4 true) (cs:=[.int .i64 2,.int .i64 (-1),.int .i64 (-1),.int .i64 5]) (by omega) rfl (by decide) (by rw [hK2,hn]; simp) (Src.block (by rw [hK2,hn]; unfold cellsOf; simp) rfl rfl) (by show 4 * 8 ≤ _; omega)
 obtain ⟨_,rfl,rfl⟩ : (4 : Nat) ≠ 0 ∧ v3 = .sl K2.length 0 1 4 4 false ∧ K3' = K2 ++ [.rw [.int .i64 2,.int .i64 (-1),.int .i64 (-1),.int .i64 5]]:=by
  rcases h3 with ⟨h,_⟩ | h
  ·cases h
  ·exact h
 obtain ⟨K3,hK3⟩ : ∃ K3,K3 = (K2 ++ [ABlk.rw [.int .i64 2,.int .i64 (-1),.int .i64 (-1),.int .i64 5]]).set n (.rw [.sl (n + 6) 0 1 4 4 false,.sl (n + 3) 0 3 1 1 true,.int .i64 2,.int .i64 0,.int .i64 0,.nilSl]):=⟨_,rfl⟩
 have x3 : K3[n]? = some (.rw [.sl (n + 6) 0 1 4 4 false,.sl (n + 3) 0 3 1 1 true,.int .i64 2,.int .i64 0,.int .i64 0,.nilSl]):=by rw [hK3]; exact zBe _ _ _ (by simp; omega)
 have at2 : ∀ (i : Nat),K2[n + 1 + i]? = [ABlk.rw [.int .u8 4],.rw [.int .i64 2,.int .i64 3],.rw [.int .i64 1,.sl (n + 1) 0 1 1 1 true,.sl (n + 2) 0 2 1 1 true],.rw [],.rw [.int .i64 2,.int .i64 (-1),.int .i64 (-1),.int .i64 5]][i]?:=fun i=>by
  rw [hK2,List.getElem?_append_right (by omega),show n + 1 + i - K1.length = i + 1 by omega]; rfl
 have at3 : ∀ (i : Nat) k,K2[n + 1 + i]? = some k → K3[n + 1 + i]? = some k:=fun i k h=>by
  rw [hK3,zAn _ _ _ _ (by omega),List.getElem?_append_left (zA8 h)]; exact h
 have g3 : StA K3 (.sl (n + 6) 0 1 4 4 false) (.sl (n + 3) 0 3 1 1 true) .nilSl SW:=by
  refine ⟨IS.block (zs:=[2,-1,-1,5]) (b:=n + 6) (by rw [hK3,zAn _ _ _ _ (by omega),List.getElem?_append_right (by omega),l2,Nat.sub_self]; rfl),fun _ _ _ _ _ _ h=>by injection h; omega,?_,.inl ⟨rfl,rfl⟩⟩
  refine .inr ⟨n + 3,1,true,[[.int .i64 1,.sl (n + 1) 0 1 1 1 true,.sl (n + 2) 0 2 1 1 true]],[],rfl,by decide,?_,rfl,fun i r s h1 h2=>?_⟩
  ·exact zAl (at3 2 _ (at2 2))
  ·match i with
   | 0 =>
    simp only [SW,List.getElem?_cons_zero,Option.some.injEq] at h1 h2
    subst h1; subst h2
    refine ⟨_,_,rfl,BS.block (zs:=[4]) (at3 0 _ (at2 0)),.inr ⟨n + 2,1,true,rfl,by decide,zAl (at3 1 _ (at2 1))⟩⟩
   | i + 1=>simp [SW] at h2
 have cc3:=zAl x3
 have q2 : cellsOf K2 0 = some [.int .i64 8,.int .i64 2,.int .i64 2,.int .i64 4,.int .i64 12]:=by rw [hK2]; exact zBp q1
 have q3 : cellsOf K3 0 = some [.int .i64 8,.int .i64 2,.int .i64 2,.int .i64 4,.int .i64 12]:=by
  rw [hK3]; exact (Fr.set (F:=(· = n)) _ _ rfl).cells (zBp q2) (by show ¬ 0 = n; omega)
 obtain ⟨v4,K4,e4,A4,g4⟩:=encC (b:=8) (s:=2) (w:=2) (a:=4) (r:=12) g3 zMa (by decide) (by rw [zO1,zO0]; rfl)
 have bs4:=g4.bs
 have l4:=bs4.len
 rw [zO5,show ((126 : Nat) : Int) = 126 from rfl] at l4
 obtain ⟨K5,A5,h5⟩:=zTy (bN:=8) (s:=2) (w:=2) (a:=4) (r:=12) (n:=4) (nb:=1) bs4 (zNs (zDm (s:=2) (w:=2) (ar:=4) (b:=8) (by decide) (by decide) (fun x hx=>(zMa.s.2 x hx).u8) zO0).sn) zO1 (by decide) (by decide) (by rw [zO5]; rfl)
 rw [rawW] at h5
 obtain ⟨wd,ws,wp,e5,g5⟩ : ∃ wd ws wp,(envL prog).call 11 [.agg [.int .i64 ((8 : Nat) : Int),.int .i64 2,.int .i64 2,.int .i64 4,.int .i64 12],v4] K4 = some (.tup [.agg [wd,ws,.int .i64 SW.next,.int .i64 SW.kind,.int .i64 SW.pid,wp],.int .i64 0],K5) ∧ StA K5 wd ws wp SW:=by
  rcases h5 with ⟨_,_,h⟩ | ⟨h,_⟩
  ·obtain ⟨wd,ws,wp,h1,h2⟩:=h
   exact ⟨wd,ws,wp,h1,h2 _ (Fr.refl _ _)⟩
  ·exact absurd ⟨zO0,rfl⟩ h
 obtain ⟨K6,hK6⟩ : ∃ K6,K6 = K5 ++ [ABlk.rw [wd,ws,.int .i64 SW.next,.int .i64 SW.kind,.int .i64 SW.pid,wp]]:=⟨_,rfl⟩
 have A6 : Adds K5 K6:=⟨_,hK6⟩
 have A36:=(A4.trans A5).trans A6
 have g6:=g5.adds A6
 have e6:=zJ2 (g3.adds A36) g6 zMa zMa (by decide)
 have e7:=zOh (b:=8) (s:=2) (w:=2) (a:=4) (r:=12) g6 zMa (by decide)
 obtain ⟨xd,xs,xp,K7,e8,A7,g7⟩:=zRo g6 zMa (by decide)
 have e9:=zJ2 g7 (g6.adds A7) zMa zMa (by decide)
 rw [decide_eq_true rfl] at e6 e9
 rw [zO1,zO0,Bool.and_true] at e7
 have eb:=fun K=>Gm.bytesG 8 2 2 4 12 K
 unfold Gm.geo at eb
 rw [show Gm.byB 8 2 2 4 12 = 126 by decide +kernel] at eb
 obtain ⟨t0,t1,t2,t3,t4,t5,t6⟩:=encW_at
 have bs6:=(A5.trans A6).bs bs4
 have bs7:=A7.bs bs6
 have two : ∀ {i : Nat} {z : Int},(encT 8 SW)[i]? = some z → ∃ a,zBj 1 v4 (.int .i64 (i : Int)) = some a ∧ zDl 1 false a K6 = some (.int .u8 z) ∧ zDl 1 false a K7 = some (.int .u8 z):=fun h=>by
  obtain ⟨a,h1,h2⟩:=bs6.idx h .i64
  obtain ⟨a',h3,h4⟩:=bs7.idx h .i64
  rw [h1] at h3; injection h3 with h3
  exact ⟨a,h1,h2,by rw [h3]; exact h4⟩
 obtain ⟨a0,i0,m0,n0⟩:=two t0
 obtain ⟨a1,i1,m1,n1⟩:=two t1
 obtain ⟨a2,i2,m2,n2⟩:=two t2
 obtain ⟨a3,i3,m3,n3⟩:=two t3
 obtain ⟨a4,i4,m4,n4⟩:=two t4
 obtain ⟨a5,i5,m5,n5⟩:=two t5
 obtain ⟨a6,i6,m6,n6⟩:=two t6
 rw [show ((0 : Nat) : Int) = 0 from rfl] at i0
 rw [show ((4 : Nat) : Int) = 4 from rfl] at i1
 rw [show ((10 : Nat) : Int) = 10 from rfl] at i2
 rw [show ((13 : Nat) : Int) = 13 from rfl] at i3
 rw [show ((14 : Nat) : Int) = 14 from rfl] at i4
 rw [show ((18 : Nat) : Int) = 18 from rfl] at i5
 rw [show ((21 : Nat) : Int) = 21 from rfl] at i6
 have cc4:=A4.cells cc3
 have cc5:=A5.cells cc4
 have cc6:=A6.cells cc5
 have cc7:=A7.cells cc6
 have q4:=A4.cells q3
 have q5:=A5.cells q4
 have q6:=A6.cells q5
 have q7:=A7.cells q6
 have r6 : cellsOf K6 K5.length = some [wd,ws,.int .i64 SW.next,.int .i64 SW.kind,.int .i64 SW.pid,wp]:=by rw [hK6]; unfold cellsOf; simp
 have r7:=A7.cells r6
 have kd:=IS.cell g5.d
 have ks:=g5.s.cell
 have kp:=g5.p.cell
 have hK6:=hK6.symm
 have hK2':=hK2.symm
 have k4:=bs4.cell
 simp only [show SW.next = 2 from rfl,show SW.kind = 0 from rfl,show SW.pid = 0 from rfl] at e4 e5 e6 e7 e8 e9 r6 r7 hK6
 rw [show ((8 : Nat) : Int) = 8 from rfl] at e5
 have w3 : zA3 (K2 ++ [ABlk.rw [.int .i64 2,.int .i64 (-1),.int .i64 (-1),.int .i64 5]]) n 0 [.sl (n + 6) 0 1 4 4 false] = some K3:=by
  have : (K2 ++ [ABlk.rw [.int .i64 2,.int .i64 (-1),.int .i64 (-1),.int .i64 5]])[n]? = some (.rw [v1,.sl (n + 3) 0 3 1 1 true,.int .i64 2,.int .i64 0,.int .i64 0,.nilSl]):=by
   rw [List.getElem?_append_left (by omega),hK2,hn]; simp
  rw [zA2 this,if_pos ⟨by simp,rfl⟩,hK3]; rfl
 rw [l2] at ea
 subst hn
 rw [d7]
 have key : Outs (runC (envX prog Over.none) (b7 (envX prog Over.none)) ([] ++ List.replicate (117 - ([] : List AV).length) .undef) []) fun e t h1=>fin [.tmp 0] (some (e,t,h1)) = some (AV.bool true,h1):=by
  unfold b7
  generalize hQ : (fun (e : Ex) (t : T) (h1 : zAc)=>fin [.tmp 0] (some (e,t,h1)) = some (AV.bool true,h1)) = Q
  simp -implicitDefEqProofs (maxSteps:=5000000) only [go_sem,simprocAttr,itr,itq,zQ6,smallC,zAe,e1,k1.1,k1.2,q1,hK2',ea,zAx,w3,q3,cc3,e4,q4,e5,kd.1,kd.2,ks.1,ks.2,kp.1,kp.2,hK6,l4,q6,eb,i0,m0,i1,m1,i2,m2,i3,m3,i4,m4,i5,m5,i6,m6,n0,n1,n2,n3,n4,n5,n6,cc6,r6,e6,e7,e8,e9,cc7,q7,r7,zAb]
  subst hQ
  simp -implicitDefEqProofs (maxSteps:=5000000) only [go_sem,simprocAttr]
 unfold b7 at key ⊢
 exact zNh key
end Go.Proofs.Ythgflkfhjnbheaa.G14
end
section
namespace Go.Proofs.Ythgflkfhjnbheaa.G14
open Go Go.Proofs.Ythgflkfhjnbheaa.Eng
noncomputable def XW : Over:=Over.none.with 7 wakeR
theorem xw_ok : XW.Ok prog:=with_ok (zSy prog) (wake_ok goodP (zSy prog) wakesSC.choose_spec)
theorem zDd (f : Nat) (args : List AV) (h : zAc) (ew : (f == 7) = false) : (envX prog XW).call f args h = (envL prog).call f args h:=by
 unfold XW; rw [x_miss _ _ ew,zQ6]
theorem zCk (h : zAc) : (envX prog XW).call 7 [] h = some (.bool true,h):=x_hit rfl
theorem ints_dat {h : zAc} {v : AV} (d : DatC h (.sl [.int .i64]) v) : ∃ zs,IS h v zs ∧ zFw v ∧ zs.length ≤ 9223372036854775807 ∧ ∀ z ∈ zs,IntKind.i64.has z:=by
 cases d with
 | nil=>exact ⟨[],.inl ⟨rfl,rfl⟩,fun _ _ _ _ _ _ h=>(by cases h),by simp,fun z hz=>by cases hz⟩
 | @sl _ b rows hn hb hr =>
  have key : ∀ rows : List (List AV),(∀ r,r ∈ rows → DatR h [.int .i64] r) → ∃ zs : List Int,rows.flatten = i64s zs ∧ zs.length = rows.length ∧ ∀ z ∈ zs,IntKind.i64.has z:=by
   intro rows
   induction rows with
   | nil=>intro _; exact ⟨[],rfl,rfl,fun z hz=>(by cases hz)⟩
   | cons r rows ih =>
    intro hr
    obtain ⟨zs,e1,e2,e3⟩:=ih fun r hm=>hr r (by simp [hm])
    have hd:=hr r (by simp)
    cases hd with
    | cons d1 t=>cases t with
     | nil=>cases d1 with
      | @int _ x n1 =>
       refine ⟨x :: zs,by rw [List.flatten_cons,e1]; rfl,by simp [e2],fun z hz=>?_⟩
       rcases List.mem_cons.1 hz with rfl | hz
       ·exact n1
       ·exact e3 z hz
  obtain ⟨zs,e1,e2,e3⟩:=key rows hr
  refine ⟨zs,?_,fun _ _ _ _ _ _ h=>by injection h; omega,by omega,e3⟩
  rw [← e2]
  exact .inr ⟨b,0,zs.length,false,i64s zs,rfl,by rw [hb,e1],fun i z hz=>by rw [Nat.zero_add]; exact zKh hz,by rw [zC9]; omega⟩
theorem zRn {h : zAc} {vd vs vp : AV} (n k p : Int) (dd : DatC h (.sl [.int .i64]) vd) (ds : DatC h (.sl [.int .i64,.sl [.int .u8],.sl [.int .i64,.int .i64]]) vs) (dp : DatC h (.sl [.int .i64,.int .i64]) vp) :
  ∃ S : StS,S.next = n ∧ S.kind = k ∧ S.pid = p ∧ StA h vd vs vp S ∧ S.dirty.length ≤ 9223372036854775807 ∧ (∀ s ∈ S.snaps,IsU8 s.ch) ∧ (S.snaps.length ≤ 9223372036854775807 ∧ ∀ s ∈ S.snaps,s.ch.length ≤ 9223372036854775807 ∧ s.tb.length ≤ 9223372036854775807):=by
 obtain ⟨L,gs,ln,hL⟩:=zRq ds
 obtain ⟨P,gp,np,_⟩:=zLx dp
 obtain ⟨D,gd,ok,nd,_⟩:=ints_dat dd
 exact ⟨⟨D,L,n,k,p,P⟩,rfl,rfl,rfl,⟨gd,ok,gs,gp⟩,nd,fun s hs=>(hL s hs).2.1,ln,fun s hs=>⟨(hL s hs).2.2.1,(hL s hs).2.2.2.1⟩⟩
def fairT (S : StS) : Bool:=zEp S.snaps S.dirty.length S.pairs
theorem zKm {S : StS} (h : fairT S = true) (hu : ∀ s ∈ S.snaps,IsU8 s.ch) : FitS S ∧ S.dirty.length ≤ 80:=by
 unfold fairT zEp at h
 simp only [Bool.and_eq_true,decide_eq_true_eq] at h
 exact ⟨⟨(zQh h.1 hu).fits,by omega⟩,h.2.1⟩
def nilT : StS:=⟨[],[],0,0,0,[]⟩
theorem zTq : FitS nilT:=⟨⟨by decide,fun s hs=>by cases hs⟩,by decide⟩
theorem zM4 (H : zAc) : StA H .nilSl .nilSl .nilSl nilT:=⟨.inl ⟨rfl,rfl⟩,fun _ _ _ _ _ _ h=>(by cases h),.inl ⟨rfl,rfl⟩,.inl ⟨rfl,rfl⟩⟩
section
variable (b s w a r : Int)
def okT (S : StS) : Bool:=Gm.goodB b s w a r && zCp b s w a S
def encA (S : StS) : List Int:=bif okT b s w a r S then encT b S else []
def encE (S : StS) : Int:=bif okT b s w a r S then 0 else 11
def zGm (z : List Int) : Bool:=Gm.goodB b s w a r && (decide (z.length = zC0 (s * w).toNat (Bt.newN b) b.toNat) && (zCp b s w a (rawT (s * w).toNat (Bt.newN b) b.toNat z) && decide (encT b (rawT (s * w).toNat (Bt.newN b) b.toNat z) = z)))
def decA (z : List Int) : StS:=bif zGm b s w a r z then rawT (s * w).toNat (Bt.newN b) b.toNat z else nilT
def decE (z : List Int) : Int:=bif Gm.goodB b s w a r then (bif zGm b s w a r z then 0 else 11) else 1
def fstA : StS:=bif Gm.goodB b s w a r then ⟨List.replicate (s * w).toNat (-1),[],1,0,0,[]⟩ else nilT
def fstE : Int:=bif Gm.goodB b s w a r then 0 else 1
end
section
variable {b s w a r : Int} {H : zAc} {vd vs vp : AV} {S : StS} (g : StA H vd vs vp S) (fi : FitS S) (lD : S.dirty.length ≤ 80)
include g fi lD
theorem zO6 : ∃ v K,(envL prog).call 9 [.agg [.int .i64 b,.int .i64 s,.int .i64 w,.int .i64 a,.int .i64 r],.agg [vd,vs,.int .i64 S.next,.int .i64 S.kind,.int .i64 S.pid,vp]] H = some (.tup [v,.int .i64 (encE b s w a r S)],K) ∧ Adds H K ∧ BS K v (encA b s w a r S):=by
 unfold encE encA
 rcases hg : okT b s w a r S with _ | _
 ·exact ⟨.nilSl,H,encBad g fi (by omega) hg,Adds.refl H,BS.nil H⟩
 ·obtain ⟨v,K,e,A,gb⟩:=encC g fi (by omega) hg
  exact ⟨v,K,e,A,gb.bs⟩
theorem rencAll : ∃ v K,(envL prog).call 10 [.agg [.int .i64 b,.int .i64 s,.int .i64 w,.int .i64 a,.int .i64 r],.agg [vd,vs,.int .i64 S.next,.int .i64 S.kind,.int .i64 S.pid,vp]] H = some (.tup [v,.int .i64 (encE b s w a r S)],K) ∧ Adds H K ∧ BS K v (encA b s w a r S):=by
 unfold encE encA
 rcases hg : okT b s w a r S with _ | _
 ·exact ⟨.nilSl,H,zSe g fi (by omega) hg,Adds.refl H,BS.nil H⟩
 ·obtain ⟨v,K,e,A,gb⟩:=rencC g fi (by omega) hg
  exact ⟨v,K,e,A,gb.bs⟩
omit lD in
theorem zKn : IsU8 (encA b s w a r S):=by
 unfold encA
 rcases hg : okT b s w a r S with _ | _
 ·intro z hz; cases hz
 ·unfold okT at hg
  rw [Bool.and_eq_true] at hg
  have gg:=zDb hg.1
  exact zNs (zDm gg.b1 gg.a1.2 (fun x hx=>(fi.s.2 x hx).u8) hg.2).sn
end
section
variable {b s w a r : Int} {H : zAc} {v : AV} {z : List Int} (bz : BS H v z) (uz : IsU8 z)
include bz uz
theorem zMj {K : zAc} {f : Nat} (bad1 : Gm.goodB b s w a r = false → (envL prog).call f [.agg [.int .i64 b,.int .i64 s,.int .i64 w,.int .i64 a,.int .i64 r],v] H = some (.tup [.agg [.nilSl,.nilSl,.int .i64 0,.int .i64 0,.int .i64 0,.nilSl],.int .i64 1],H))
  (bad2 : Gm.goodB b s w a r = true → z.length ≠ zC0 (s * w).toNat (Bt.newN b) b.toNat → (envL prog).call f [.agg [.int .i64 b,.int .i64 s,.int .i64 w,.int .i64 a,.int .i64 r],v] H = some (.tup [.agg [.nilSl,.nilSl,.int .i64 0,.int .i64 0,.int .i64 0,.nilSl],.int .i64 11],H))
  (good : ∀ (bN n nb : Nat),b = bN → s * w = (n : Int) → Bt.newN (bN : Int) = nb → Gm.goodB (bN : Int) s w a r = true → z.length = zC0 n nb bN → ∃ K,Adds H K ∧ ((zCp bN s w a (rawT n nb bN z) = true ∧ encT bN (rawT n nb bN z) = z ∧ ∃ vd vs vp,(envL prog).call f [.agg [.int .i64 (bN : Int),.int .i64 s,.int .i64 w,.int .i64 a,.int .i64 r],v] H = some (.tup [.agg [vd,vs,.int .i64 (rawT n nb bN z).next,.int .i64 (rawT n nb bN z).kind,.int .i64 (rawT n nb bN z).pid,vp],.int .i64 0],K) ∧ ∀ K',Fr K K' (· < H.length) → StA K' vd vs vp (rawT n nb bN z)) ∨ (¬ (zCp bN s w a (rawT n nb bN z) = true ∧ encT bN (rawT n nb bN z) = z) ∧ (envL prog).call f [.agg [.int .i64 (bN : Int),.int .i64 s,.int .i64 w,.int .i64 a,.int .i64 r],v] H = some (.tup [.agg [.nilSl,.nilSl,.int .i64 0,.int .i64 0,.int .i64 0,.nilSl],.int .i64 11],K)))) :
  ∃ vd vs vp K,(envL prog).call f [.agg [.int .i64 b,.int .i64 s,.int .i64 w,.int .i64 a,.int .i64 r],v] H = some (.tup [.agg [vd,vs,.int .i64 (decA b s w a r z).next,.int .i64 (decA b s w a r z).kind,.int .i64 (decA b s w a r z).pid,vp],.int .i64 (decE b s w a r z)],K) ∧ Adds H K ∧ ∀ K',Fr K K' (· < H.length) → StA K' vd vs vp (decA b s w a r z):=by
 rcases hg : Gm.goodB b s w a r with _ | _
 ·have hd : zGm b s w a r z = false:=by unfold zGm; rw [hg]; rfl
  unfold decA decE
  rw [hd,hg]
  exact ⟨_,_,_,H,bad1 hg,Adds.refl H,fun K' _=>zM4 K'⟩
 by_cases hl : z.length = zC0 (s * w).toNat (Bt.newN b) b.toNat
 case neg =>
  have hd : zGm b s w a r z = false:=by unfold zGm; rw [hg,decide_eq_false hl]; rfl
  unfold decA decE
  rw [hd,hg]
  exact ⟨_,_,_,H,bad2 hg hl,Adds.refl H,fun K' _=>zM4 K'⟩
 have gg:=zDb hg
 obtain ⟨n,hn,n1,n2⟩:=gg.sw
 obtain ⟨bN,rfl⟩ : ∃ bN : Nat,b = bN:=⟨b.toNat,by have:=gg.b1; omega⟩
 have hdo : zGm bN s w a r z = (zCp bN s w a (rawT n (Bt.newN bN) bN z) && decide (encT bN (rawT n (Bt.newN bN) bN z) = z)):=by
  unfold zGm; rw [hg,decide_eq_true hl,hn,Int.toNat_natCast,Int.toNat_natCast]; rfl
 rw [hn,Int.toNat_natCast,Int.toNat_natCast] at hl
 obtain ⟨K,A,h⟩:=good bN n (Bt.newN bN) rfl hn rfl hg hl
 unfold decA decE
 rw [hdo,hg,hn,Int.toNat_natCast,Int.toNat_natCast]
 rcases h with ⟨h1,h2,vd,vs,vp,e,st⟩ | ⟨h1,e⟩
 ·rw [h1,decide_eq_true h2]
  exact ⟨vd,vs,vp,K,e,A,st⟩
 ·have : (zCp bN s w a (rawT n (Bt.newN bN) bN z) && decide (encT bN (rawT n (Bt.newN bN) bN z) = z)) = false:=by
   rw [Bool.eq_false_iff]; intro h
   rw [Bool.and_eq_true,decide_eq_true_eq] at h
   exact h1 h
  rw [this]
  exact ⟨_,_,_,K,e,A,fun K' _=>zM4 K'⟩
theorem zTz : ∃ vd vs vp K,(envL prog).call 11 [.agg [.int .i64 b,.int .i64 s,.int .i64 w,.int .i64 a,.int .i64 r],v] H = some (.tup [.agg [vd,vs,.int .i64 (decA b s w a r z).next,.int .i64 (decA b s w a r z).kind,.int .i64 (decA b s w a r z).pid,vp],.int .i64 (decE b s w a r z)],K) ∧ Adds H K ∧ ∀ K',Fr K K' (· < H.length) → StA K' vd vs vp (decA b s w a r z) :=
 zMj (K:=H) bz uz (fun hg=>decBadG bz hg) (fun hg hl=>decBadL bz hg hl) fun bN n nb hb hn hnb hg hl=>zTy bz uz hg hn hnb hl
theorem rdecAll (ok : zFw v) : ∃ vd vs vp K,(envL prog).call 12 [.agg [.int .i64 b,.int .i64 s,.int .i64 w,.int .i64 a,.int .i64 r],v] H = some (.tup [.agg [vd,vs,.int .i64 (decA b s w a r z).next,.int .i64 (decA b s w a r z).kind,.int .i64 (decA b s w a r z).pid,vp],.int .i64 (decE b s w a r z)],K) ∧ Adds H K ∧ ∀ K',Fr K K' (· < H.length) → StA K' vd vs vp (decA b s w a r z) :=
 zMj (K:=H) bz uz (fun hg=>rdecBadG bz hg) (fun hg hl=>rdecBadL bz hg hl) fun bN n nb hb hn hnb hg hl=>rdecodeC bz ok uz hg hn hnb hl
omit bz in
theorem zO7 : FitS (decA b s w a r z) ∧ (decA b s w a r z).dirty.length ≤ 80:=by
 unfold decA
 rcases hd : zGm b s w a r z with _ | _
 ·exact ⟨zTq,Nat.zero_le 80⟩
 ·unfold zGm at hd
  rw [Bool.and_eq_true] at hd
  have gg:=zDb hd.1
  obtain ⟨n,hn,n1,n2⟩:=gg.sw
  obtain ⟨_,nb1,nb2⟩:=zHr gg.b1
  refine ⟨zNd uz (by omega) (by have:=gg.b1; omega),?_⟩
  rw [cond_true,zEv,List.length_map,List.length_take,hn,Int.toNat_natCast]; omega
end
section
variable (b s w a r : Int) (H : zAc)
theorem fstAll : ∃ vd vs vp K,(envL prog).call 13 [.agg [.int .i64 b,.int .i64 s,.int .i64 w,.int .i64 a,.int .i64 r]] H = some (.tup [.agg [vd,vs,.int .i64 (fstA b s w a r).next,.int .i64 (fstA b s w a r).kind,.int .i64 (fstA b s w a r).pid,vp],.int .i64 (fstE b s w a r)],K) ∧ Adds H K ∧ IS K vd (fstA b s w a r).dirty ∧ IsC K vs (fstA b s w a r).snaps ∧ IsP K vp (fstA b s w a r).pairs:=by
 unfold fstA fstE
 rcases hg : Gm.goodB b s w a r with _ | _
 ·exact ⟨_,_,_,H,firstBad b s w a r (H:=H) hg,Adds.refl H,.inl ⟨rfl,rfl⟩,.inl ⟨rfl,rfl⟩,.inl ⟨rfl,rfl⟩⟩
 ·obtain ⟨v,K,e,A,g⟩:=firstC b s w a r (H:=H) hg
  exact ⟨v,_,_,K,e,A,g,.inl ⟨rfl,rfl⟩,.inl ⟨rfl,rfl⟩⟩
theorem rfstAll : ∃ vd vs vp K,(envL prog).call 14 [.agg [.int .i64 b,.int .i64 s,.int .i64 w,.int .i64 a,.int .i64 r]] H = some (.tup [.agg [vd,vs,.int .i64 (fstA b s w a r).next,.int .i64 (fstA b s w a r).kind,.int .i64 (fstA b s w a r).pid,vp],.int .i64 (fstE b s w a r)],K) ∧ Adds H K ∧ IS K vd (fstA b s w a r).dirty ∧ IsC K vs (fstA b s w a r).snaps ∧ IsP K vp (fstA b s w a r).pairs:=by
 unfold fstA fstE
 rcases hg : Gm.goodB b s w a r with _ | _
 ·exact ⟨_,_,_,H,zSc b s w a r (H:=H) hg,Adds.refl H,.inl ⟨rfl,rfl⟩,.inl ⟨rfl,rfl⟩,.inl ⟨rfl,rfl⟩⟩
 ·obtain ⟨v,K,e,A,g⟩:=rfirstC b s w a r (H:=H) hg
  exact ⟨v,_,_,K,e,A,g,.inl ⟨rfl,rfl⟩,.inl ⟨rfl,rfl⟩⟩
omit H in
theorem fstA_fit : FitS (fstA b s w a r) ∧ (fstA b s w a r).dirty.length ≤ 80:=by
 unfold fstA
 rcases hg : Gm.goodB b s w a r with _ | _
 ·exact ⟨zTq,Nat.zero_le 80⟩
 ·obtain ⟨n,hn,n1,n2⟩:=(zDb hg).sw
  refine ⟨⟨⟨Nat.zero_le 100,fun s hs=>by cases hs⟩,Nat.zero_le 1000⟩,?_⟩
  rw [cond_true,hn,Int.toNat_natCast]
  show (List.replicate n (-1 : Int)).length ≤ 80
  rw [List.length_replicate]; omega
end
end Go.Proofs.Ythgflkfhjnbheaa.G14
end
