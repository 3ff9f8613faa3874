/- What the functions that StateCodes reaches answer, for every argument. No condition but those in each statement. -/
import Derived.Test.YthgflkfhjnbheaaGRD
set_option linter.unusedSimpArgs false
set_option linter.unusedVariables false
set_option linter.unusedSectionVars false
set_option maxRecDepth 10000
namespace Go.Proofs.Ythgflkfhjnbheaa.G14
open Go Go.Proofs.Ythgflkfhjnbheaa.Eng
set_option maxHeartbeats 64000000 in
theorem stateCodes (b s w a r nx kd pd : Int) (vd vs vp vb : AV) (h : zAc) (dd : DatC h (.sl [.int .i64]) vd) (ds : DatC h (.sl [.int .i64,.sl [.int .u8],.sl [.int .i64,.int .i64]]) vs) (dp : DatC h (.sl [.int .i64,.int .i64]) vp) (db : DatC h (.sl [.int .u8]) vb) : ∃ h',zBs prog (envX prog XW) 3 [.agg [.int .i64 b,.int .i64 s,.int .i64 w,.int .i64 a,.int .i64 r],.agg [vd,vs,.int .i64 nx,.int .i64 kd,.int .i64 pd,vp],vb] h = some (.bool true,h'):=by
 obtain ⟨S,rfl,rfl,rfl,g,nd,hu,fb⟩:=zRn nx kd pd dd ds dp
 obtain ⟨z,bz,uz,okb⟩:=db.bytes
 have ok : zFw vb:=okb
 rw [d3]
 refine zNh ?_
 unfold b3
 generalize hQ : (fun (e : Ex) (t : T) (h1 : zAc)=>fin [.tmp 6] (some (e,t,h1)) = some (AV.bool true,h1)) = Q
 obtain ⟨h0,e0⟩ : ∃ h0,h0 = h ++ [ABlk.rw [.int .i64 b,.int .i64 s,.int .i64 w,.int .i64 a,.int .i64 r],.rw [vd,vs,.int .i64 S.next,.int .i64 S.kind,.int .i64 S.pid,vp]]:=⟨_,rfl⟩
 have a0 : Adds h h0:=⟨_,e0⟩
 have cg0 : cellsOf h0 h.length = some [.int .i64 b,.int .i64 s,.int .i64 w,.int .i64 a,.int .i64 r]:=by rw [e0]; unfold cellsOf; simp
 have cs0 : cellsOf h0 (h.length + 1) = some [vd,vs,.int .i64 S.next,.int .i64 S.kind,.int .i64 S.pid,vp]:=by rw [e0]; unfold cellsOf; simp
 have l0 : h0.length = h.length + 2:=by rw [e0]; simp
 have e0:=e0.symm
 have kd:=IS.cell g.d
 have ks:=g.s.cell
 have kp:=g.p.cell
 have wd:=g.d.len
 have wb:=bz.len
 have g0:=g.adds a0
 have ef:=zNq (nx:=S.next) (kd:=S.kind) (pd:=S.pid) g0.s g0.p wd kd.2 fb
 rcases hf : zEp S.snaps S.dirty.length S.pairs with _ | _ <;> rw [hf] at ef
 ·simp -implicitDefEqProofs (maxSteps:=5000000) only [go_sem,simprocAttr,itr,itq,zDd,zAe,kd.1,kd.2,ks.1,ks.2,kp.1,kp.2,e0,cs0,ef,zCk,zAb]
  subst hQ
  simp -implicitDefEqProofs (maxSteps:=5000000) only [go_sem,simprocAttr]
 by_cases h3 : (z.length : Int) > 3000
 ·have d3:=decide_eq_true h3
  simp -implicitDefEqProofs (maxSteps:=5000000) only [go_sem,simprocAttr,itr,itq,zDd,zAe,kd.1,kd.2,ks.1,ks.2,kp.1,kp.2,e0,cs0,ef,wb,d3,zCk,zAb]
  subst hQ
  simp -implicitDefEqProofs (maxSteps:=5000000) only [go_sem,simprocAttr]
 have d3:=decide_eq_false h3
 obtain ⟨fi,lD⟩:=zKm hf hu
 obtain ⟨wd1,ws1,wp1,K1,e1,A1,g1,_⟩:=zQc g0 fi (by omega)
 obtain ⟨J1,hJ1⟩ : ∃ J,J = K1 ++ [ABlk.rw [wd1,ws1,.int .i64 S.next,.int .i64 S.kind,.int .i64 S.pid,wp1]]:=⟨_,rfl⟩
 have B1 : Adds K1 J1:=⟨_,hJ1⟩
 have c1 : cellsOf J1 K1.length = some [wd1,ws1,.int .i64 S.next,.int .i64 S.kind,.int .i64 S.pid,wp1]:=by rw [hJ1]; unfold cellsOf; simp
 have h1:=g1.adds B1
 have kd1:=IS.cell g1.d
 have ks1:=g1.s.cell
 have kp1:=g1.p.cell
 have T1:=A1.trans B1
 obtain ⟨v2,K2,e2,A2,b2⟩:=zO6 (b:=b) (s:=s) (w:=w) (a:=a) (r:=r) h1 fi lD
 have T2:=T1.trans A2
 obtain ⟨v3,K3,e3,A3,b3⟩:=rencAll (b:=b) (s:=s) (w:=w) (a:=a) (r:=r) (g0.adds T2) fi lD
 have T3:=T2.trans A3
 obtain ⟨J4,hJ4⟩ : ∃ J,J = K3 ++ [ABlk.rw [],.rw [.nilSl,.nilSl,.int .i64 0,.int .i64 0,.int .i64 0,.nilSl]]:=⟨_,rfl⟩
 have B4 : Adds K3 J4:=⟨_,hJ4⟩
 have T4:=T3.trans B4
 obtain ⟨v5,K5,e5,A5,b5,_⟩:=zUs (K:=J4) (b:=K3.length) (by rw [hJ4]; simp) ((a0.trans T4).bs bz) (by omega)
 have T5:=T4.trans A5
 obtain ⟨ud,us,up,K6,e6,A6,g6⟩:=zTz (b:=b) (s:=s) (w:=w) (a:=a) (r:=r) b5 uz
 have T6:=T5.trans A6
 have l4:=B4.len
 have l5:=A5.len
 have l6:=A6.len
 have x6 : K6[K3.length + 1]? = some (.rw [.nilSl,.nilSl,.int .i64 0,.int .i64 0,.int .i64 0,.nilSl]):=A6.at (A5.at (by rw [hJ4]; simp))
 have lJ4 : J4.length = K3.length + 2:=by rw [hJ4]; simp
 have g6':=g6 K6 (Fr.refl _ _)
 have kd6:=IS.cell g6'.d
 have ks6:=g6'.s.cell
 have kp6:=g6'.p.cell
 obtain ⟨J7,hJ7⟩ : ∃ J,J = K6.set (K3.length + 1) (.rw [ud,us,.int .i64 (decA b s w a r z).next,.int .i64 (decA b s w a r z).kind,.int .i64 (decA b s w a r z).pid,up]):=⟨_,rfl⟩
 have w6 : zA3 K6 (K3.length + 1) 0 [ud,us,.int .i64 (decA b s w a r z).next,.int .i64 (decA b s w a r z).kind,.int .i64 (decA b s w a r z).pid,up] = some J7:=by
  rw [zA2 x6,if_pos ⟨by simp,by simp only [List.all_cons,kd6.2,ks6.2,kp6.2]; rfl⟩,hJ7]; rfl
 have f7 : Fr K6 J7 (· = K3.length + 1):=by rw [hJ7]; exact Fr.set _ _ rfl
 have F7 : Fr K3 J7 (· = K3.length + 1):=((Fr.adds ((B4.trans A5).trans A6) _).trans f7 fun _ _ h=>h)
 have T7 : Adds K3 J7:=F7.old (Adds.refl K3) fun x hx h=>by have : x = K3.length + 1:=h; omega
 have U7:=T3.trans T7
 have c7 : cellsOf J7 (K3.length + 1) = some [ud,us,.int .i64 (decA b s w a r z).next,.int .i64 (decA b s w a r z).kind,.int .i64 (decA b s w a r z).pid,up]:=by rw [hJ7]; exact zAl (zBe _ _ _ (by omega))
 have g7 : StA J7 ud us up (decA b s w a r z):=g6 J7 (f7.mono fun x _ hx=>by have : x = K3.length + 1:=hx; show x < K5.length; omega)
 obtain ⟨td,ts,tp,K8,e8,A8,g8⟩:=rdecAll (b:=b) (s:=s) (w:=w) (a:=a) (r:=r) ((a0.trans U7).bs bz) uz ok
 have g8:=g8 K8 (Fr.refl _ _)
 obtain ⟨J9,hJ9⟩ : ∃ J,J = K8 ++ [ABlk.rw [td,ts,.int .i64 (decA b s w a r z).next,.int .i64 (decA b s w a r z).kind,.int .i64 (decA b s w a r z).pid,tp]]:=⟨_,rfl⟩
 have B9 : Adds K8 J9:=⟨_,hJ9⟩
 have c9 : cellsOf J9 K8.length = some [td,ts,.int .i64 (decA b s w a r z).next,.int .i64 (decA b s w a r z).kind,.int .i64 (decA b s w a r z).pid,tp]:=by rw [hJ9]; unfold cellsOf; simp
 have kd8:=IS.cell g8.d
 have ks8:=g8.s.cell
 have kp8:=g8.p.cell
 have T9:=A8.trans B9
 obtain ⟨pd1,ps1,pp1,K10,e10,A10,p1,p2,p3⟩:=fstAll b s w a r J9
 obtain ⟨J11,hJ11⟩ : ∃ J,J = K10 ++ [ABlk.rw [pd1,ps1,.int .i64 (fstA b s w a r).next,.int .i64 (fstA b s w a r).kind,.int .i64 (fstA b s w a r).pid,pp1]]:=⟨_,rfl⟩
 have B11 : Adds K10 J11:=⟨_,hJ11⟩
 have c11 : cellsOf J11 K10.length = some [pd1,ps1,.int .i64 (fstA b s w a r).next,.int .i64 (fstA b s w a r).kind,.int .i64 (fstA b s w a r).pid,pp1]:=by rw [hJ11]; unfold cellsOf; simp
 obtain ⟨qd1,qs1,qp1,K12,e12,A12,q1,q2,q3⟩:=rfstAll b s w a r J11
 obtain ⟨J13,hJ13⟩ : ∃ J,J = K12 ++ [ABlk.rw [qd1,qs1,.int .i64 (fstA b s w a r).next,.int .i64 (fstA b s w a r).kind,.int .i64 (fstA b s w a r).pid,qp1]]:=⟨_,rfl⟩
 have B13 : Adds K12 J13:=⟨_,hJ13⟩
 have c13 : cellsOf J13 K12.length = some [qd1,qs1,.int .i64 (fstA b s w a r).next,.int .i64 (fstA b s w a r).kind,.int .i64 (fstA b s w a r).pid,qp1]:=by rw [hJ13]; unfold cellsOf; simp
 have jp1:=IS.cell p1
 have jp2:=p2.cell
 have jp3:=p3.cell
 have jq1:=IS.cell q1
 have jq2:=q2.cell
 have jq3:=q3.cell
 have V9:=A10.trans B11
 have V11:=A12.trans B13
 have T13 : Adds J7 J13:=(T9.trans V9).trans V11
 have V13:=U7.trans T13
 have W1 : Adds J1 J13:=((A2.trans A3).trans T7).trans T13
 obtain ⟨ff1,ff2⟩:=zO7 (b:=b) (s:=s) (w:=w) (a:=a) (r:=r) uz
 obtain ⟨ff3,ff4⟩:=fstA_fit b s w a r
 have i1:=zOh (b:=b) (s:=s) (w:=w) (a:=a) (r:=r) (h1.adds W1) fi (by omega)
 have i2:=zNb (b:=b) (s:=s) (w:=w) (a:=a) (r:=r) (g0.adds V13) fi (by omega)
 have ua:=zKn (b:=b) (s:=s) (w:=w) (a:=a) (r:=r) h1 fi
 have i3:=Bt.bytesC (((A3.trans T7).trans T13).bs b2) ((T7.trans T13).bs b3) ua ua
 have i4:=zFn (g7.adds T13) ((g8.adds B9).adds (V9.trans V11)) ff1 ff1 (by omega)
 have i5:=zRm ((B11.trans V11).is p1) (p2.adds (B11.trans V11)) (p3.adds (B11.trans V11)) (B13.is q1) (q2.adds B13) (q3.adds B13) ff3 ff3 (by omega)
 obtain ⟨xd,xs,xp,K14,e14,A14,g14⟩:=zRo (h1.adds W1) fi (by omega)
 have i6:=zFn g14 ((g0.adds V13).adds A14) fi fi (by omega)
 have i7:=zFn ((h1.adds W1).adds A14) ((g0.adds V13).adds A14) fi fi (by omega)
 rw [decide_eq_true rfl] at i3 i4 i5 i6 i7
 have bb : ∀ x : Bool,binV .eql .bool (.bool x) (.bool x) = some (.bool true):=fun x=>by cases x <;> rfl
 have ii : ∀ x : Int,(x == x) = true:=fun x=>by simp
 have y1:=T1.cells cg0
 have y2:=T2.cells cg0
 have y2s:=T2.cells cs0
 have y3:=T3.cells cg0
 have y4:=T4.cells cg0
 have y5:=T5.cells cg0
 have y6:=T6.cells cg0
 have y7:=U7.cells cg0
 have y9:=(U7.trans T9).cells cg0
 have y11:=((U7.trans T9).trans V9).cells cg0
 have y13:=V13.cells cg0
 have y13s:=V13.cells cs0
 have y14:=A14.cells y13
 have y14s:=A14.cells y13s
 have z13:=W1.cells c1
 have z14:=A14.cells z13
 have z7:=T13.cells c7
 have z7':=A14.cells z7
 have z9:=(V9.trans V11).cells c9
 have z9':=A14.cells z9
 have z11:=V11.cells c11
 have z11':=A14.cells z11
 have z13q:=A14.cells c13
 have hJ1:=hJ1.symm
 have hJ4:=hJ4.symm
 have hJ9:=hJ9.symm
 have hJ11:=hJ11.symm
 have hJ13:=hJ13.symm
 have y3r : cellsOf (K3 ++ [ABlk.rw []]) h.length = some [.int .i64 b,.int .i64 s,.int .i64 w,.int .i64 a,.int .i64 r]:=zBp y3
 simp -implicitDefEqProofs (maxSteps:=5000000) only [go_sem,simprocAttr,itr,itq,zDd,zAe,kd.1,kd.2,ks.1,ks.2,kp.1,kp.2,e0,cs0,ef,wb,d3,e1,kd1.1,kd1.2,ks1.1,ks1.2,kp1.1,kp1.2,hJ1,y1,c1,e2,y2,y2s,e3,y3,y3r,hJ4,y4,e5,y5,e6,y6,kd6.1,kd6.2,ks6.1,ks6.2,kp6.1,kp6.2,zAx,w6,y7,e8,kd8.1,kd8.2,ks8.1,ks8.2,kp8.1,kp8.2,hJ9,y9,e10,jp1.1,jp1.2,jp2.1,jp2.2,jp3.1,jp3.2,hJ11,y11,e12,jq1.1,jq1.2,jq2.1,jq2.2,jq3.1,jq3.2,hJ13,y13,y13s,z13,i1,i2,bb,i3,ii,z7,z9,i4,z11,c13,i5,e14,y14,y14s,z14,z7',z9',z11',z13q,i6,i7,zCk,zAb]
 subst hQ
 simp -implicitDefEqProofs (maxSteps:=5000000) only [go_sem,simprocAttr]
end Go.Proofs.Ythgflkfhjnbheaa.G14
