/- What the functions that the law reaches answer, for every argument. No condition but those in each statement. -/
import Derived.Test.YthgflkfhjnbheaaGRD
set_option linter.unusedSimpArgs false
set_option linter.unusedVariables false
set_option linter.unusedSectionVars false
set_option maxRecDepth 10000
namespace Go.Proofs.Ythgflkfhjnbheaa.G14
open Go Go.Proofs.Ythgflkfhjnbheaa.Eng
theorem back_len {b s w a r : Int} {S : StS} (fi : FitS S) (h : okT b s w a r S = true) : (encT b S).length = zC0 (s * w).toNat (Bt.newN b) b.toNat ∧ rawT (s * w).toNat (Bt.newN b) b.toNat (encT b S) = S:=by
 unfold okT at h
 rw [Bool.and_eq_true] at h
 have gg:=zDb h.1
 have G:=zDm gg.b1 gg.a1.2 (fun x hx=>(fi.s.2 x hx).u8) h.2
 exact ⟨zE7 G gg.a1.2,zJ7 G gg.b1.2 gg.a1.2⟩
theorem back1 {b s w a r : Int} {S : StS} (fi : FitS S) (h : okT b s w a r S = true) : decE b s w a r (encT b S) = 0 ∧ decA b s w a r (encT b S) = S ∧ ((encT b S).length : Int) = Gm.byB b s w a r:=by
 obtain ⟨h1,h2⟩:=back_len fi h
 unfold okT at h
 rw [Bool.and_eq_true] at h
 have hd : zGm b s w a r (encT b S) = true:=by
  unfold zGm
  rw [h.1,h2,decide_eq_true h1,h.2,decide_eq_true rfl]; rfl
 refine ⟨by unfold decE; rw [hd,h.1]; rfl,by unfold decA; rw [hd,h2]; rfl,?_⟩
 unfold Gm.byB
 rw [h.1,cond_true,zHw (zDb h.1),h1]
theorem back2 {b s w a r : Int} {z : List Int} (h : decE b s w a r z = 0) : okT b s w a r (decA b s w a r z) = true ∧ encT b (decA b s w a r z) = z:=by
 unfold decE at h
 rcases hg : Gm.goodB b s w a r with _ | _ <;> rw [hg] at h
 ·cases h
 rcases hd : zGm b s w a r z with _ | _ <;> rw [hd] at h
 ·cases h
 unfold decA okT
 rw [hd,hg]
 unfold zGm at hd
 simp only [Bool.and_eq_true,decide_eq_true_eq] at hd
 exact ⟨hd.2.2.1,hd.2.2.2⟩
theorem back3 {b s w a r : Int} {S T : StS} (fi : FitS S) (fi' : FitS T) (h : okT b s w a r S = true) (h' : okT b s w a r T = true) : decide (encT b S = encT b T) = decide (S = T):=by
 unfold okT at h h'
 rw [Bool.and_eq_true] at h h'
 have gg:=zDb h.1
 have:=enc_inj (zDm gg.b1 gg.a1.2 (fun x hx=>(fi.s.2 x hx).u8) h.2) (zDm gg.b1 gg.a1.2 (fun x hx=>(fi'.s.2 x hx).u8) h'.2) gg.b1.2 gg.a1.2
 by_cases e : S = T
 ·rw [decide_eq_true e,decide_eq_true (this.2 e)]
 ·rw [decide_eq_false e,decide_eq_false (fun q=>e (this.1 q))]
set_option maxHeartbeats 64000000 in
theorem stateBack (b s w a r n0 k0 p0 n1 k1 p1 : Int) (vd vs vp wd ws wp vb : AV) (h : zAc) (dd : DatC h (.sl [.int .i64]) vd) (ds : DatC h (.sl [.int .i64,.sl [.int .u8],.sl [.int .i64,.int .i64]]) vs) (dp : DatC h (.sl [.int .i64,.int .i64]) vp) (dd' : DatC h (.sl [.int .i64]) wd) (ds' : DatC h (.sl [.int .i64,.sl [.int .u8],.sl [.int .i64,.int .i64]]) ws) (dp' : DatC h (.sl [.int .i64,.int .i64]) wp) (db : DatC h (.sl [.int .u8]) vb) : ∃ h',zBs prog (envX prog XW) 4 [.agg [.int .i64 b,.int .i64 s,.int .i64 w,.int .i64 a,.int .i64 r],.agg [vd,vs,.int .i64 n0,.int .i64 k0,.int .i64 p0,vp,wd,ws,.int .i64 n1,.int .i64 k1,.int .i64 p1,wp],vb] h = some (.bool true,h'):=by
 obtain ⟨S,rfl,rfl,rfl,g,nd,hu,fb⟩:=zRn n0 k0 p0 dd ds dp
 obtain ⟨U,rfl,rfl,rfl,g',nd',hu',fb'⟩:=zRn n1 k1 p1 dd' ds' dp'
 obtain ⟨z,bz,uz,okb⟩:=db.bytes
 rw [d4]
 refine zNh ?_
 unfold b4
 generalize hQ : (fun (e : Ex) (t : T) (h1 : zAc)=>fin [.tmp 6] (some (e,t,h1)) = some (AV.bool true,h1)) = Q
 obtain ⟨h0,e0⟩ : ∃ h0,h0 = h ++ [ABlk.rw [.int .i64 b,.int .i64 s,.int .i64 w,.int .i64 a,.int .i64 r],.rw [vd,vs,.int .i64 S.next,.int .i64 S.kind,.int .i64 S.pid,vp,wd,ws,.int .i64 U.next,.int .i64 U.kind,.int .i64 U.pid,wp]]:=⟨_,rfl⟩
 have a0 : Adds h h0:=⟨_,e0⟩
 have cg0 : cellsOf h0 h.length = some [.int .i64 b,.int .i64 s,.int .i64 w,.int .i64 a,.int .i64 r]:=by rw [e0]; unfold cellsOf; simp
 have cs0 : cellsOf h0 (h.length + 1) = some [vd,vs,.int .i64 S.next,.int .i64 S.kind,.int .i64 S.pid,vp,wd,ws,.int .i64 U.next,.int .i64 U.kind,.int .i64 U.pid,wp]:=by rw [e0]; unfold cellsOf; simp
 have e0:=e0.symm
 have kd:=IS.cell g.d
 have ks:=g.s.cell
 have kp:=g.p.cell
 have kd':=IS.cell g'.d
 have ks':=g'.s.cell
 have kp':=g'.p.cell
 have wl:=bz.len
 have g0:=g.adds a0
 have g0':=g'.adds a0
 have ef:=zNq (nx:=S.next) (kd:=S.kind) (pd:=S.pid) g0.s g0.p g.d.len kd.2 fb
 have ef':=zNq (nx:=U.next) (kd:=U.kind) (pd:=U.pid) g0'.s g0'.p g'.d.len kd'.2 fb'
 have ia : ∀ K : zAc,zBr 2 6 (.ptr (h.length + 1) 0) (.int .i64 0) = some (.ptr (h.length + 1) 0):=fun _=>rfl
 rcases hf : zEp S.snaps S.dirty.length S.pairs with _ | _ <;> rw [hf] at ef
 ·simp -implicitDefEqProofs (maxSteps:=5000000) only [go_sem,simprocAttr,itr,itq,zDd,zAe,kd.1,kd.2,ks.1,ks.2,kp.1,kp.2,kd'.1,kd'.2,ks'.1,ks'.2,kp'.1,kp'.2,e0,cs0,ef,zCk,zBr,zAb]
  subst hQ
  simp -implicitDefEqProofs (maxSteps:=5000000) only [go_sem,simprocAttr]
 rcases hf' : zEp U.snaps U.dirty.length U.pairs with _ | _ <;> rw [hf'] at ef'
 ·simp -implicitDefEqProofs (maxSteps:=5000000) only [go_sem,simprocAttr,itr,itq,zDd,zAe,kd.1,kd.2,ks.1,ks.2,kp.1,kp.2,kd'.1,kd'.2,ks'.1,ks'.2,kp'.1,kp'.2,e0,cs0,ef,ef',zCk,zBr,zAb]
  subst hQ
  simp -implicitDefEqProofs (maxSteps:=5000000) only [go_sem,simprocAttr]
 by_cases h3 : (z.length : Int) > 3000
 ·have d3:=decide_eq_true h3
  simp -implicitDefEqProofs (maxSteps:=5000000) only [go_sem,simprocAttr,itr,itq,zDd,zAe,kd.1,kd.2,ks.1,ks.2,kp.1,kp.2,kd'.1,kd'.2,ks'.1,ks'.2,kp'.1,kp'.2,e0,cs0,ef,ef',wl,d3,zCk,zBr,zAb]
  subst hQ
  simp -implicitDefEqProofs (maxSteps:=5000000) only [go_sem,simprocAttr]
 have d3:=decide_eq_false h3
 obtain ⟨fi,lD⟩:=zKm hf hu
 obtain ⟨fi',lD'⟩:=zKm hf' hu'
 obtain ⟨v1,K1,e1,A1,b1⟩:=zO6 (b:=b) (s:=s) (w:=w) (a:=a) (r:=r) g0 fi lD
 obtain ⟨v2,K2,e2,A2,b2⟩:=zO6 (b:=b) (s:=s) (w:=w) (a:=a) (r:=r) (g0'.adds A1) fi' lD'
 have ua:=zKn (b:=b) (s:=s) (w:=w) (a:=a) (r:=r) g0 fi
 have ua':=zKn (b:=b) (s:=s) (w:=w) (a:=a) (r:=r) g0' fi'
 have T2:=A1.trans A2
 obtain ⟨ff1,ff2⟩:=zO7 (b:=b) (s:=s) (w:=w) (a:=a) (r:=r) uz
 have tl : ∀ X,Adds h0 X → ∃ td ts tp K4 v5 K5,(envL prog).call 11 [.agg [.int .i64 b,.int .i64 s,.int .i64 w,.int .i64 a,.int .i64 r],vb] X = some (.tup [.agg [td,ts,.int .i64 (decA b s w a r z).next,.int .i64 (decA b s w a r z).kind,.int .i64 (decA b s w a r z).pid,tp],.int .i64 (decE b s w a r z)],K4) ∧ Adds X K4 ∧ (zA0 td = some [td] ∧ td.isCell = true) ∧ (zA0 ts = some [ts] ∧ ts.isCell = true) ∧ (zA0 tp = some [tp] ∧ tp.isCell = true) ∧
   (envL prog).call 9 [.agg [.int .i64 b,.int .i64 s,.int .i64 w,.int .i64 a,.int .i64 r],.agg [td,ts,.int .i64 (decA b s w a r z).next,.int .i64 (decA b s w a r z).kind,.int .i64 (decA b s w a r z).pid,tp]] (K4 ++ [ABlk.rw [td,ts,.int .i64 (decA b s w a r z).next,.int .i64 (decA b s w a r z).kind,.int .i64 (decA b s w a r z).pid,tp]]) = some (.tup [v5,.int .i64 (encE b s w a r (decA b s w a r z))],K5) ∧ Adds (K4 ++ [ABlk.rw [td,ts,.int .i64 (decA b s w a r z).next,.int .i64 (decA b s w a r z).kind,.int .i64 (decA b s w a r z).pid,tp]]) K5 ∧
   (envL prog).call 17 [v5,vb] K5 = some (.bool (decide (encA b s w a r (decA b s w a r z) = z)),K5):=by
  intro X AX
  obtain ⟨td,ts,tp,K4,e4,A4,g4⟩:=zTz (b:=b) (s:=s) (w:=w) (a:=a) (r:=r) ((a0.trans AX).bs bz) uz
  have g4:=g4 K4 (Fr.refl _ _)
  have AJ : Adds K4 (K4 ++ [ABlk.rw [td,ts,.int .i64 (decA b s w a r z).next,.int .i64 (decA b s w a r z).kind,.int .i64 (decA b s w a r z).pid,tp]]):=⟨_,rfl⟩
  have gj:=g4.adds AJ
  obtain ⟨v5,K5,e5,A5,b5⟩:=zO6 (b:=b) (s:=s) (w:=w) (a:=a) (r:=r) gj ff1 ff2
  exact ⟨td,ts,tp,K4,v5,K5,e4,A4,IS.cell g4.d,g4.s.cell,g4.p.cell,e5,A5,Bt.bytesC b5 (((((a0.trans AX).trans A4).trans AJ).trans A5).bs bz) (zKn (b:=b) (s:=s) (w:=w) (a:=a) (r:=r) gj ff1) uz⟩
 have bb : ∀ x : Bool,binV .eql .bool (.bool x) (.bool x) = some (.bool true):=fun x=>by cases x <;> rfl
 have bn : ∀ x : Bool,binV .neq .bool (.bool x) (.bool x) = some (.bool false):=fun x=>by cases x <;> rfl
 have cg1:=A1.cells cg0
 have cs1:=A1.cells cs0
 have cg2:=T2.cells cg0
 have cs2:=T2.cells cs0
 have ii : ∀ x : Int,(x == x) = true:=fun x=>by simp
 have nn : ∀ x : Int,(x != x) = false:=fun x=>by simp
 unfold encE at e1 e2
 rcases hS : okT b s w a r S with _ | _ <;> rw [hS] at e1
 ·rw [cond_false] at e1
  obtain ⟨X,hX,TX⟩ : ∃ X,X = K2 ∧ Adds h0 X:=⟨K2,rfl,T2⟩
  subst hX
  have x11 : ((11 : Int) == 0) = false:=rfl
  generalize (bif okT b s w a r U then (0 : Int) else 11) = f2 at e2
  have gX:=g0.adds TX
  have gX':=g0'.adds TX
  have iX:=zJ2 gX gX' fi fi' (by omega)
  have cgX:=TX.cells cg0
  have csX:=TX.cells cs0
  obtain ⟨td,ts,tp,K4,v5,K5,e4,A4,qd,qs,qp,e5,A5,e6⟩:=tl X TX
  have A4':=A4
  have cg4:=(TX.trans A4).cells cg0
  have cs4:=(TX.trans A4).cells cs0
  have AJ : Adds K4 (K4 ++ [ABlk.rw [td,ts,.int .i64 (decA b s w a r z).next,.int .i64 (decA b s w a r z).kind,.int .i64 (decA b s w a r z).pid,tp]]):=⟨_,rfl⟩
  obtain ⟨J4,hJ4⟩ : ∃ J,J = K4 ++ [ABlk.rw [td,ts,.int .i64 (decA b s w a r z).next,.int .i64 (decA b s w a r z).kind,.int .i64 (decA b s w a r z).pid,tp]]:=⟨_,rfl⟩
  rw [← hJ4] at e5 A5 AJ
  have c4 : cellsOf J4 K4.length = some [td,ts,.int .i64 (decA b s w a r z).next,.int .i64 (decA b s w a r z).kind,.int .i64 (decA b s w a r z).pid,tp]:=by rw [hJ4]; unfold cellsOf; simp
  have TJ:=(TX.trans A4).trans AJ
  have T5:=TJ.trans A5
  have cgJ:=TJ.cells cg0
  have csJ:=TJ.cells cs0
  have cs5:=T5.cells cs0
  have j1:=zJ2 (g0.adds TJ) (g0'.adds TJ) fi fi' (by omega)
  have j2:=zFn (g0.adds TJ) (g0'.adds TJ) fi fi' (by omega)
  have k1:=zJ2 (g0.adds T5) (g0'.adds T5) fi fi' (by omega)
  have k2:=zFn (g0.adds T5) (g0'.adds T5) fi fi' (by omega)
  have hJ4:=hJ4.symm
  by_cases hd : decE b s w a r z = 0
  ·obtain ⟨o1,o2⟩:=back2 hd
   have q1 : encE b s w a r (decA b s w a r z) = 0:=by unfold encE; rw [o1]; rfl
   have q2 : encA b s w a r (decA b s w a r z) = z:=by unfold encA; rw [o1]; exact o2
   rw [q1] at e5
   rw [decide_eq_true q2] at e6
   rw [hd] at e4
   simp -implicitDefEqProofs (maxSteps:=5000000) only [go_sem,simprocAttr,itr,itq,zDd,zAe,kd.1,kd.2,ks.1,ks.2,kp.1,kp.2,kd'.1,kd'.2,ks'.1,ks'.2,kp'.1,kp'.2,e0,cg0,cs0,ef,ef',wl,d3,zBr,e1,cg1,cs1,e2,cg2,cs2,x11,e4,qd.1,qd.2,qs.1,qs.2,qp.1,qp.2,zAx,hJ4,cgJ,csJ,c4,e5,e6,cs5,k1,k2,bb,zCk,zAb]
   subst hQ
   simp -implicitDefEqProofs (maxSteps:=5000000) only [go_sem,simprocAttr]
  ·have dE : (decE b s w a r z == 0) = false:=beq_eq_false_iff_ne.2 hd
   simp -implicitDefEqProofs (maxSteps:=5000000) only [go_sem,simprocAttr,itr,itq,zDd,zAe,kd.1,kd.2,ks.1,ks.2,kp.1,kp.2,kd'.1,kd'.2,ks'.1,ks'.2,kp'.1,kp'.2,e0,cg0,cs0,ef,ef',wl,d3,zBr,e1,cg1,cs1,e2,cg2,cs2,x11,e4,qd.1,qd.2,qs.1,qs.2,qp.1,qp.2,zAx,hJ4,dE,csJ,j1,j2,bb,zCk,zAb]
   subst hQ
   simp -implicitDefEqProofs (maxSteps:=5000000) only [go_sem,simprocAttr]
 ·rw [cond_true] at e1
  obtain ⟨r1,r2,r3⟩:=back1 fi hS
  have hA : encA b s w a r S = encT b S:=by unfold encA; rw [hS]; rfl
  rw [hA] at b1 ua
  obtain ⟨ud,us,up,K3,e3,A3,g3⟩:=zTz (b:=b) (s:=s) (w:=w) (a:=a) (r:=r) (A2.bs b1) ua
  have g3:=g3 K3 (Fr.refl _ _)
  rw [r1,r2] at e3
  rw [r2] at g3
  obtain ⟨X,hX⟩ : ∃ X,X = K3 ++ [ABlk.rw [ud,us,.int .i64 S.next,.int .i64 S.kind,.int .i64 S.pid,up]]:=⟨_,rfl⟩
  have AX : Adds K3 X:=⟨_,hX⟩
  have TX:=(T2.trans A3).trans AX
  have cX : cellsOf X K3.length = some [ud,us,.int .i64 S.next,.int .i64 S.kind,.int .i64 S.pid,up]:=by rw [hX]; unfold cellsOf; simp
  have hX:=hX.symm
  have md:=IS.cell g3.d
  have ms:=g3.s.cell
  have mp:=g3.p.cell
  have eS:=zJ2 (g3.adds AX) (g0.adds TX) fi fi (by omega)
  rw [decide_eq_true rfl] at eS
  have lb:=Gm.bytesG b s w a r
  unfold Gm.geo at lb
  have l1:=((A2.trans A3).trans AX).bs b1
  have l1:=l1.len
  rw [r3] at l1
  have gX:=g0.adds TX
  have gX':=g0'.adds TX
  have iX:=zJ2 gX gX' fi fi' (by omega)
  have cgX:=TX.cells cg0
  have csX:=TX.cells cs0
  obtain ⟨td,ts,tp,K4,v5,K5,e4,A4,qd,qs,qp,e5,A5,e6⟩:=tl X TX
  have A4':=A4
  have cg4:=(TX.trans A4).cells cg0
  have cs4:=(TX.trans A4).cells cs0
  have AJ : Adds K4 (K4 ++ [ABlk.rw [td,ts,.int .i64 (decA b s w a r z).next,.int .i64 (decA b s w a r z).kind,.int .i64 (decA b s w a r z).pid,tp]]):=⟨_,rfl⟩
  obtain ⟨J4,hJ4⟩ : ∃ J,J = K4 ++ [ABlk.rw [td,ts,.int .i64 (decA b s w a r z).next,.int .i64 (decA b s w a r z).kind,.int .i64 (decA b s w a r z).pid,tp]]:=⟨_,rfl⟩
  rw [← hJ4] at e5 A5 AJ
  have c4 : cellsOf J4 K4.length = some [td,ts,.int .i64 (decA b s w a r z).next,.int .i64 (decA b s w a r z).kind,.int .i64 (decA b s w a r z).pid,tp]:=by rw [hJ4]; unfold cellsOf; simp
  have TJ:=(TX.trans A4).trans AJ
  have T5:=TJ.trans A5
  have cgJ:=TJ.cells cg0
  have csJ:=TJ.cells cs0
  have cs5:=T5.cells cs0
  have j1:=zJ2 (g0.adds TJ) (g0'.adds TJ) fi fi' (by omega)
  have j2:=zFn (g0.adds TJ) (g0'.adds TJ) fi fi' (by omega)
  have k1:=zJ2 (g0.adds T5) (g0'.adds T5) fi fi' (by omega)
  have k2:=zFn (g0.adds T5) (g0'.adds T5) fi fi' (by omega)
  have hJ4:=hJ4.symm
  have b2X:=(A3.trans AX).bs b2
  have b1X:=((A2.trans A3).trans AX).bs b1
  rcases hT : okT b s w a r U with _ | _ <;> rw [hT] at e2
  ·rw [cond_false] at e2
   by_cases hd : decE b s w a r z = 0
   ·obtain ⟨o1,o2⟩:=back2 hd
    have q1 : encE b s w a r (decA b s w a r z) = 0:=by unfold encE; rw [o1]; rfl
    have q2 : encA b s w a r (decA b s w a r z) = z:=by unfold encA; rw [o1]; exact o2
    rw [q1] at e5
    rw [decide_eq_true q2] at e6
    rw [hd] at e4
    simp -implicitDefEqProofs (maxSteps:=5000000) only [go_sem,simprocAttr,itr,itq,zDd,zAe,kd.1,kd.2,ks.1,ks.2,kp.1,kp.2,kd'.1,kd'.2,ks'.1,ks'.2,kp'.1,kp'.2,e0,cg0,cs0,ef,ef',wl,d3,zBr,e1,cg1,cs1,e2,cg2,cs2,e3,md.1,md.2,ms.1,ms.2,mp.1,mp.2,zAx,hX,nn,cX,cgX,csX,eS,l1,lb,e4,qd.1,qd.2,qs.1,qs.2,qp.1,qp.2,zAx,hJ4,cgJ,csJ,c4,e5,e6,cs5,k1,k2,bb,zCk,zAb]
    subst hQ
    simp -implicitDefEqProofs (maxSteps:=5000000) only [go_sem,simprocAttr]
   ·have dE : (decE b s w a r z == 0) = false:=beq_eq_false_iff_ne.2 hd
    simp -implicitDefEqProofs (maxSteps:=5000000) only [go_sem,simprocAttr,itr,itq,zDd,zAe,kd.1,kd.2,ks.1,ks.2,kp.1,kp.2,kd'.1,kd'.2,ks'.1,ks'.2,kp'.1,kp'.2,e0,cg0,cs0,ef,ef',wl,d3,zBr,e1,cg1,cs1,e2,cg2,cs2,e3,md.1,md.2,ms.1,ms.2,mp.1,mp.2,zAx,hX,nn,cX,cgX,csX,eS,l1,lb,e4,qd.1,qd.2,qs.1,qs.2,qp.1,qp.2,zAx,hJ4,dE,csJ,j1,j2,bb,zCk,zAb]
    subst hQ
    simp -implicitDefEqProofs (maxSteps:=5000000) only [go_sem,simprocAttr]
  ·rw [cond_true] at e2
   have hA' : encA b s w a r U = encT b U:=by unfold encA; rw [hT]; rfl
   rw [hA'] at b2X ua'
   have iB:=Bt.bytesC b1X b2X ua ua'
   rw [back3 fi fi' hS hT] at iB
   by_cases hd : decE b s w a r z = 0
   ·obtain ⟨o1,o2⟩:=back2 hd
    have q1 : encE b s w a r (decA b s w a r z) = 0:=by unfold encE; rw [o1]; rfl
    have q2 : encA b s w a r (decA b s w a r z) = z:=by unfold encA; rw [o1]; exact o2
    rw [q1] at e5
    rw [decide_eq_true q2] at e6
    rw [hd] at e4
    simp -implicitDefEqProofs (maxSteps:=5000000) only [go_sem,simprocAttr,itr,itq,zDd,zAe,kd.1,kd.2,ks.1,ks.2,kp.1,kp.2,kd'.1,kd'.2,ks'.1,ks'.2,kp'.1,kp'.2,e0,cg0,cs0,ef,ef',wl,d3,zBr,e1,cg1,cs1,e2,cg2,cs2,e3,md.1,md.2,ms.1,ms.2,mp.1,mp.2,zAx,hX,nn,cX,cgX,csX,eS,l1,lb,iB,iX,bn,e4,qd.1,qd.2,qs.1,qs.2,qp.1,qp.2,zAx,hJ4,cgJ,csJ,c4,e5,e6,cs5,k1,k2,bb,zCk,zAb]
    subst hQ
    simp -implicitDefEqProofs (maxSteps:=5000000) only [go_sem,simprocAttr]
   ·have dE : (decE b s w a r z == 0) = false:=beq_eq_false_iff_ne.2 hd
    simp -implicitDefEqProofs (maxSteps:=5000000) only [go_sem,simprocAttr,itr,itq,zDd,zAe,kd.1,kd.2,ks.1,ks.2,kp.1,kp.2,kd'.1,kd'.2,ks'.1,ks'.2,kp'.1,kp'.2,e0,cg0,cs0,ef,ef',wl,d3,zBr,e1,cg1,cs1,e2,cg2,cs2,e3,md.1,md.2,ms.1,ms.2,mp.1,mp.2,zAx,hX,nn,cX,cgX,csX,eS,l1,lb,iB,iX,bn,e4,qd.1,qd.2,qs.1,qs.2,qp.1,qp.2,zAx,hJ4,dE,csJ,j1,j2,bb,zCk,zAb]
    subst hQ
    simp -implicitDefEqProofs (maxSteps:=5000000) only [go_sem,simprocAttr]
end Go.Proofs.Ythgflkfhjnbheaa.G14
