/- What the functions that the law reaches answer, for every argument. No condition but those in each statement. -/
import Derived.Test.YthgflkfhjnbheaaM6
set_option linter.unusedSimpArgs false
set_option linter.unusedVariables false
set_option linter.unusedSectionVars false
set_option maxRecDepth 10000
namespace Go.Proofs.Ythgflkfhjnbheaa.G14
open Go Go.Proofs.Ythgflkfhjnbheaa.Eng
theorem isP_tail {K : zAb} {v : AV} {p : PrS} {l : List PrS} (g : IsP K v (p :: l)) : ∃ y,zCy 2 v (some (.int .i64 1)) none none = some y ∧ IsP K y l ∧ slb y = slb v ∧ zAy y = some [y] ∧ y.isCell = true:=by
 rcases g with ⟨_,h⟩ | ⟨b,o,c,ex,cs,rfl,hc,hb,hl,hf⟩
 ·cases h
 ·rw [List.length_cons] at hc hl hf
  have e:=zMx (sz:=2) (b:=b) (off:=o) (len:=l.length + 1) (cp:=c) (i:=1) (ex:=ex) (by omega) hc
  rw [show ((1 : Nat) : Int) = 1 from rfl] at e
  refine ⟨_,e,.inr ⟨b,o + 1 * 2,c - 1,ex,cs,rfl,by omega,hb,by omega,?_⟩,rfl,rfl,rfl⟩
  have q : ((cs.drop o).take ((l.length + 1) * 2)).drop 2 = (flat (p :: l)).drop 2:=by rw [hf]
  rw [List.drop_take,List.drop_drop,show (l.length + 1) * 2 - 2 = l.length * 2 by omega] at q
  exact q
theorem zKv {n m : Int} (h : 0 ≤ n) (hm : 0 < m) : ∃ i : Nat,n.tmod m = i ∧ (i : Int) < m:=by
 have h1:=Int.tmod_nonneg m h
 have h2:=Int.tmod_lt_of_pos n hm
 exact ⟨(n.tmod m).toNat,(Int.toNat_of_nonneg h1).symm,by rw [Int.toNat_of_nonneg h1]; exact h2⟩
section
variable {K : zAb} {v1 v2 : AV} {xs ys : List Int} (b1 : BS K v1 xs) (b2 : BS K v2 ys) {f e : Nat} (al : zEe xs ys f e) (lx : xs.length ≤ 1000000)
include b1 b2 al lx
set_option maxHeartbeats 8000000 in
theorem ptL (x0 x1 x2 x3 x4 x5 x8 x9 x12 x13 x14 x16 x18 x19 x20 x21 x22 x23 x24 x25 x26 x27 x28 x29 x30 x31 x32 x33 x34 x35 x36 x37 x38 x39 x40 x41 x42 x43 x44 x45 x46 x47 x48 x49 x50 x51 x52 x53 x54 x55 x56 x57 x58 x59 x60 x61 x62 x63 x64 x65 x66 x67 x68 x69 x70 x71 x72 x73 x74 x75 x76 x77 x78 x79 x80 x81 x82 x83 x84 x85 x86 x87 x88 x89 x90 x91 x92 x93 x94 x95 x96 x97 x98 x99 x100 x101 x102 x103 x104 x105 x106 x107 x108 x109 x110 x111 x112 x113 x114 x115 x116 x117 x118 x119 x120 x121 x122 x123 x124 x125 x126 x127 x128 x129 x130 x131 x132 x133 x134 x135 x136 x137 x138 x139 x140 x141 x142 x143 x144 x145 x146 x147 x148 x149 x150 x151 x152 x153 x154 x155 x156 x157 x158 x159 x160 x161 x162 x163 x164 x165 x166 x167 x168 x169 x170 x171 x172 x173 x174 x175 x176 x177 x178 x179 x180 x181 x182 x183 x184 x185 x186 x187 x213 x214 x215 x216 x217 x218 x219 : AV) : ∀ (m i : Nat) (j6 j188 j189 j190 j191 j192 j193 j194 j195 j196 j197 j198 j199 j200 j201 j202 j203 j204 j205 j206 j207 j208 j209 j210 j211 j212 : AV),i + m = xs.length →
  Outs (LW14 l5x0 [x0,x1,x2,x3,x4,x5,j6,v1,x8,x9,.int .i64 (f : Int),.int .i64 (e : Int),x12,x13,x14,v2,x16,.int .i64 (i : Int),x18,x19,x20,x21,x22,x23,x24,x25,x26,x27,x28,x29,x30,x31,x32,x33,x34,x35,x36,x37,x38,x39,x40,x41,x42,x43,x44,x45,x46,x47,x48,x49,x50,x51,x52,x53,x54,x55,x56,x57,x58,x59,x60,x61,x62,x63,x64,x65,x66,x67,x68,x69,x70,x71,x72,x73,x74,x75,x76,x77,x78,x79,x80,x81,x82,x83,x84,x85,x86,x87,x88,x89,x90,x91,x92,x93,x94,x95,x96,x97,x98,x99,x100,x101,x102,x103,x104,x105,x106,x107,x108,x109,x110,x111,x112,x113,x114,x115,x116,x117,x118,x119,x120,x121,x122,x123,x124,x125,x126,x127,x128,x129,x130,x131,x132,x133,x134,x135,x136,x137,x138,x139,x140,x141,x142,x143,x144,x145,x146,x147,x148,x149,x150,x151,x152,x153,x154,x155,x156,x157,x158,x159,x160,x161,x162,x163,x164,x165,x166,x167,x168,x169,x170,x171,x172,x173,x174,x175,x176,x177,x178,x179,x180,x181,x182,x183,x184,x185,x186,x187,j188,j189,j190,j191,j192,j193,j194,j195,j196,j197,j198,j199,j200,j201,j202,j203,j204,j205,j206,j207,j208,j209,j210,j211,j212,x213,x214,x215,x216,x217,x218,x219] K) fun e' t K'=>e' = .exit 1 ∧ K' = K ∧ ∃ fv : Nat → AV,t = [x0,x1,x2,x3,x4,x5,(fv 6),v1,x8,x9,.int .i64 (f : Int),.int .i64 (e : Int),x12,x13,x14,v2,x16,(fv 17),x18,x19,x20,x21,x22,x23,x24,x25,x26,x27,x28,x29,x30,x31,x32,x33,x34,x35,x36,x37,x38,x39,x40,x41,x42,x43,x44,x45,x46,x47,x48,x49,x50,x51,x52,x53,x54,x55,x56,x57,x58,x59,x60,x61,x62,x63,x64,x65,x66,x67,x68,x69,x70,x71,x72,x73,x74,x75,x76,x77,x78,x79,x80,x81,x82,x83,x84,x85,x86,x87,x88,x89,x90,x91,x92,x93,x94,x95,x96,x97,x98,x99,x100,x101,x102,x103,x104,x105,x106,x107,x108,x109,x110,x111,x112,x113,x114,x115,x116,x117,x118,x119,x120,x121,x122,x123,x124,x125,x126,x127,x128,x129,x130,x131,x132,x133,x134,x135,x136,x137,x138,x139,x140,x141,x142,x143,x144,x145,x146,x147,x148,x149,x150,x151,x152,x153,x154,x155,x156,x157,x158,x159,x160,x161,x162,x163,x164,x165,x166,x167,x168,x169,x170,x171,x172,x173,x174,x175,x176,x177,x178,x179,x180,x181,x182,x183,x184,x185,x186,x187,(fv 188),(fv 189),(fv 190),(fv 191),(fv 192),(fv 193),(fv 194),(fv 195),(fv 196),(fv 197),(fv 198),(fv 199),(fv 200),(fv 201),(fv 202),(fv 203),(fv 204),(fv 205),(fv 206),(fv 207),(fv 208),(fv 209),(fv 210),(fv 211),(fv 212),x213,x214,x215,x216,x217,x218,x219]:=by
 intro m
 obtain ⟨L0,hL0⟩ : ∃ L,L = LW14 l5x0:=⟨_,rfl⟩
 have lo:=zAr hL0
 have wl:=b1.len
 rw [← hL0]
 induction m with
 | zero =>
  intro i j6 j188 j189 j190 j191 j192 j193 j194 j195 j196 j197 j198 j199 j200 j201 j202 j203 j204 j205 j206 j207 j208 j209 j210 j211 j212 hi
  obtain rfl : i = xs.length:=by omega
  have hd : decide ((xs.length : Int) < (xs.length : Int)) = false:=by simp
  rw [lo]
  unfold l5x0
  simp -implicitDefEqProofs (maxSteps:=5000000) only [go_sem,simprocAttr,itr,itq,wl,hd,zAh,zAc]
  exact exF rfl
 | succ m ih =>
  intro i j6 j188 j189 j190 j191 j192 j193 j194 j195 j196 j197 j198 j199 j200 j201 j202 j203 j204 j205 j206 j207 j208 j209 j210 j211 j212 hi
  have hd : decide ((i : Int) < (xs.length : Int)) = true:=decide_eq_true (by omega)
  have e2 : IntKind.i64.wrap ((i : Int) + 1) = ((i + 1 : Nat) : Int):=by rw [zAl (by omega) (by omega)]; omega
  have hx:=List.getElem?_eq_getElem (show i < xs.length by omega)
  have hly : i < ys.length:=by rw [← al.1]; omega
  have hy:=List.getElem?_eq_getElem hly
  have same:=al.2 i
  rw [hx,hy] at same
  have key:=ih (i + 1)
  generalize xs[i] = x at *
  generalize ys[i] = y at *
  obtain ⟨ax,ix,ld⟩:=b1.idx hx .i64
  obtain ⟨ay,iy,le⟩:=b2.idx hy .i64
  rw [lo]
  unfold l5x0
  by_cases h1 : i < f
  ·have d1:=decide_eq_true (show (i : Int) < (f : Int) by omega)
   obtain rfl : x = y:=Option.some.inj (same (.inl h1))
   have nn : (x != x) = false:=by simp
   simp -implicitDefEqProofs (maxSteps:=5000000) only [go_sem,simprocAttr,itr,itq,wl,hd,d1,ix,ld,iy,le,nn,e2]
   exact key _ _ _ _ _ _ _ _ _ _ _ _ _ _ _ _ _ _ _ _ _ _ _ _ _ _ (by omega)
  ·have d1:=decide_eq_false (show ¬ (i : Int) < (f : Int) by omega)
   by_cases h2 : e ≤ i
   ·have d2 : decide ((i : Int) ≥ (e : Int)) = true:=decide_eq_true (by omega)
    obtain rfl : x = y:=Option.some.inj (same (.inr h2))
    have nn : (x != x) = false:=by simp
    simp -implicitDefEqProofs (maxSteps:=5000000) only [go_sem,simprocAttr,itr,itq,wl,hd,d1,d2,ix,ld,iy,le,nn,e2]
    exact key _ _ _ _ _ _ _ _ _ _ _ _ _ _ _ _ _ _ _ _ _ _ _ _ _ _ (by omega)
   ·have d2 : decide ((i : Int) ≥ (e : Int)) = false:=decide_eq_false (by omega)
    simp -implicitDefEqProofs (maxSteps:=5000000) only [go_sem,simprocAttr,itr,itq,wl,hd,d1,d2,e2]
    exact key _ _ _ _ _ _ _ _ _ _ _ _ _ _ _ _ _ _ _ _ _ _ _ _ _ _ (by omega)
end
set_option maxHeartbeats 64000000 in
theorem stateParts (b s w a r nx kd0 pd0 n0 n1 : Int) (vd vs vp : AV) (q0 : 0 ≤ n0 ∧ n0 ≤ 255) (q1 : 0 ≤ n1 ∧ n1 ≤ 255) (h : zAb) (dd : DatC h (.sl [.int .i64]) vd) (ds : DatC h (.sl [.int .i64,.sl [.int .u8],.sl [.int .i64,.int .i64]]) vs) (dp : DatC h (.sl [.int .i64,.int .i64]) vp) : ∃ h',zBp prog (envX prog XW) 5 [.agg [.int .i64 b,.int .i64 s,.int .i64 w,.int .i64 a,.int .i64 r],.agg [vd,vs,.int .i64 nx,.int .i64 kd0,.int .i64 pd0,vp],.agg [.int .u8 n0,.int .u8 n1]] h = some (.bool true,h'):=by
 obtain ⟨S,rfl,rfl,rfl,g,nd,hu,fb⟩:=st_dat nx kd0 pd0 dd ds dp
 rw [d5]
 refine zSe ?_
 unfold b5
 generalize hQ : (fun (e : Ex) (t : T) (h1 : zAb)=>fin [.tmp 6] (some (e,t,h1)) = some (AV.bool true,h1)) = Q
 obtain ⟨h0,e0⟩ : ∃ h0,h0 = h ++ [ABlk.rw [.int .i64 b,.int .i64 s,.int .i64 w,.int .i64 a,.int .i64 r],.rw [vd,vs,.int .i64 S.next,.int .i64 S.kind,.int .i64 S.pid,vp],.rw [.int .u8 n0,.int .u8 n1]]:=⟨_,rfl⟩
 have a0 : Adds h h0:=⟨_,e0⟩
 have l0 : h0.length = h.length + 3:=by rw [e0]; simp
 have cg0 : cellsOf h0 h.length = some [.int .i64 b,.int .i64 s,.int .i64 w,.int .i64 a,.int .i64 r]:=by rw [e0]; unfold cellsOf; simp
 have cs0 : cellsOf h0 (h.length + 1) = some [vd,vs,.int .i64 S.next,.int .i64 S.kind,.int .i64 S.pid,vp]:=by rw [e0]; unfold cellsOf; simp
 have cn0 : cellsOf h0 (h.length + 2) = some [.int .u8 n0,.int .u8 n1]:=by rw [e0]; unfold cellsOf; simp
 have e0:=e0.symm
 have kd:=IS.cell g.d
 have ks:=g.s.cell
 have kp:=g.p.cell
 have g0:=g.adds a0
 have ef:=fairC12 (nx:=S.next) (kd:=S.kind) (pd:=S.pid) g0.s g0.p g.d.len kd.2 fb
 rcases hf : zE7 S.snaps S.dirty.length S.pairs with _ | _ <;> rw [hf] at ef
 ·simp -implicitDefEqProofs (maxSteps:=5000000) only [go_sem,simprocAttr,itr,itq,zCc,zAe,kd.1,kd.2,ks.1,ks.2,kp.1,kp.2,e0,cs0,ef,zCa,zAc]
  subst hQ
  simp -implicitDefEqProofs (maxSteps:=5000000) only [go_sem,simprocAttr]
 obtain ⟨fi,lD⟩:=fair_fit hf hu
 have er:=rsgoodC (b:=b) (s:=s) (w:=w) (a:=a) (r:=r) g0 fi (by omega)
 rcases hS : okT b s w a r S with _ | _ <;> (unfold okT at hS; rw [hS] at er)
 ·simp -implicitDefEqProofs (maxSteps:=5000000) only [go_sem,simprocAttr,itr,itq,zCc,zAe,kd.1,kd.2,ks.1,ks.2,kp.1,kp.2,e0,cs0,cg0,ef,er,zCa,zAc]
  subst hQ
  simp -implicitDefEqProofs (maxSteps:=5000000) only [go_sem,simprocAttr]
 have hS' : okT b s w a r S = true:=hS
 rw [Bool.and_eq_true] at hS
 obtain ⟨hg,hgd⟩:=hS
 have gg:=zF5 hg
 have G:=zDo gg.b1 gg.a1.2 (fun x hx=>(fi.s.2 x hx).u8) hgd
 obtain ⟨n,hn,sw1,sw2⟩:=gg.sw
 have hD : S.dirty.length = n:=by have:=G.dl; omega
 have gb1:=gg.b1
 obtain ⟨v1,K0,e1,A0,b1⟩:=encAll (b:=b) (s:=s) (w:=w) (a:=a) (r:=r) g0 fi lD
 unfold encE encA at *
 rw [hS'] at e1 b1
 simp only [cond_true] at e1 b1
 obtain ⟨_,_,r3⟩:=back1 fi hS'
 have l1:=b1.len
 rw [r3] at l1
 have lb:=Gm.bytesG b s w a r
 unfold Gm.geo at lb
 have nn : ∀ x : Int,(x != x) = false:=fun x=>by simp
 obtain ⟨wd,ws,wp,K1,e2,A1,g1,wb,rows,gc,ro,dj,hdd⟩:=zPt (g0.adds A0) fi (by omega)
 have T1:=A0.trans A1
 have kd1:=IS.cell g1.d
 have ks1:=g1.s.cell
 have kp1:=g1.p.cell
 obtain ⟨J1,hJ1⟩ : ∃ J,J = K1 ++ [ABlk.rw [wd,ws,.int .i64 S.next,.int .i64 S.kind,.int .i64 S.pid,wp]]:=⟨_,rfl⟩
 have B1 : Adds K1 J1:=⟨_,hJ1⟩
 have lJ : J1.length = K1.length + 1:=by rw [hJ1]; simp
 have x1 : J1[K1.length]? = some (.rw [wd,ws,.int .i64 S.next,.int .i64 S.kind,.int .i64 S.pid,wp]):=by rw [hJ1]; simp
 have c1:=zAm x1
 have T2:=T1.trans B1
 have gj:=g1.adds B1
 have cg00:=A0.cells cg0
 have cs00:=A0.cells cs0
 have cgJ:=T2.cells cg0
 have csJ:=T2.cells cs0
 have cnJ:=T2.cells cn0
 have hJ1s:=hJ1.symm
 have tl : ∀ (X : zAb) (xd xs xp : AV) (U : StS) (f e : Nat),Adds K0 X → StA X xd xs xp U → FitS U → U.dirty.length ≤ 80 → okT b s w a r U = true → S ≠ U → zEe (encT b S) (encT b U) f e →
   ∃ v2 K2,(envL prog).call 9 [.agg [.int .i64 b,.int .i64 s,.int .i64 w,.int .i64 a,.int .i64 r],.agg [xd,xs,.int .i64 U.next,.int .i64 U.kind,.int .i64 U.pid,xp]] X = some (.tup [v2,.int .i64 0],K2) ∧ zDi v2 = some (.int .i64 (Gm.byB b s w a r)) ∧
    (envL prog).call 17 [v1,v2] K2 = some (.bool false,K2) ∧
    ∀ x0 x1 x2 x3 x4 x5 x8 x9 x12 x13 x14 x16 x18 x19 x20 x21 x22 x23 x24 x25 x26 x27 x28 x29 x30 x31 x32 x33 x34 x35 x36 x37 x38 x39 x40 x41 x42 x43 x44 x45 x46 x47 x48 x49 x50 x51 x52 x53 x54 x55 x56 x57 x58 x59 x60 x61 x62 x63 x64 x65 x66 x67 x68 x69 x70 x71 x72 x73 x74 x75 x76 x77 x78 x79 x80 x81 x82 x83 x84 x85 x86 x87 x88 x89 x90 x91 x92 x93 x94 x95 x96 x97 x98 x99 x100 x101 x102 x103 x104 x105 x106 x107 x108 x109 x110 x111 x112 x113 x114 x115 x116 x117 x118 x119 x120 x121 x122 x123 x124 x125 x126 x127 x128 x129 x130 x131 x132 x133 x134 x135 x136 x137 x138 x139 x140 x141 x142 x143 x144 x145 x146 x147 x148 x149 x150 x151 x152 x153 x154 x155 x156 x157 x158 x159 x160 x161 x162 x163 x164 x165 x166 x167 x168 x169 x170 x171 x172 x173 x174 x175 x176 x177 x178 x179 x180 x181 x182 x183 x184 x185 x186 x187 x213 x214 x215 x216 x217 x218 x219 j6 j188 j189 j190 j191 j192 j193 j194 j195 j196 j197 j198 j199 j200 j201 j202 j203 j204 j205 j206 j207 j208 j209 j210 j211 j212,Outs (LW14 l5x0 [x0,x1,x2,x3,x4,x5,j6,v1,x8,x9,.int .i64 (f : Int),.int .i64 (e : Int),x12,x13,x14,v2,x16,.int .i64 0,x18,x19,x20,x21,x22,x23,x24,x25,x26,x27,x28,x29,x30,x31,x32,x33,x34,x35,x36,x37,x38,x39,x40,x41,x42,x43,x44,x45,x46,x47,x48,x49,x50,x51,x52,x53,x54,x55,x56,x57,x58,x59,x60,x61,x62,x63,x64,x65,x66,x67,x68,x69,x70,x71,x72,x73,x74,x75,x76,x77,x78,x79,x80,x81,x82,x83,x84,x85,x86,x87,x88,x89,x90,x91,x92,x93,x94,x95,x96,x97,x98,x99,x100,x101,x102,x103,x104,x105,x106,x107,x108,x109,x110,x111,x112,x113,x114,x115,x116,x117,x118,x119,x120,x121,x122,x123,x124,x125,x126,x127,x128,x129,x130,x131,x132,x133,x134,x135,x136,x137,x138,x139,x140,x141,x142,x143,x144,x145,x146,x147,x148,x149,x150,x151,x152,x153,x154,x155,x156,x157,x158,x159,x160,x161,x162,x163,x164,x165,x166,x167,x168,x169,x170,x171,x172,x173,x174,x175,x176,x177,x178,x179,x180,x181,x182,x183,x184,x185,x186,x187,j188,j189,j190,j191,j192,j193,j194,j195,j196,j197,j198,j199,j200,j201,j202,j203,j204,j205,j206,j207,j208,j209,j210,j211,j212,x213,x214,x215,x216,x217,x218,x219] K2) fun e' t K'=>e' = .exit 1 ∧ K' = K2 ∧ ∃ fv : Nat → AV,t = [x0,x1,x2,x3,x4,x5,(fv 6),v1,x8,x9,.int .i64 (f : Int),.int .i64 (e : Int),x12,x13,x14,v2,x16,(fv 17),x18,x19,x20,x21,x22,x23,x24,x25,x26,x27,x28,x29,x30,x31,x32,x33,x34,x35,x36,x37,x38,x39,x40,x41,x42,x43,x44,x45,x46,x47,x48,x49,x50,x51,x52,x53,x54,x55,x56,x57,x58,x59,x60,x61,x62,x63,x64,x65,x66,x67,x68,x69,x70,x71,x72,x73,x74,x75,x76,x77,x78,x79,x80,x81,x82,x83,x84,x85,x86,x87,x88,x89,x90,x91,x92,x93,x94,x95,x96,x97,x98,x99,x100,x101,x102,x103,x104,x105,x106,x107,x108,x109,x110,x111,x112,x113,x114,x115,x116,x117,x118,x119,x120,x121,x122,x123,x124,x125,x126,x127,x128,x129,x130,x131,x132,x133,x134,x135,x136,x137,x138,x139,x140,x141,x142,x143,x144,x145,x146,x147,x148,x149,x150,x151,x152,x153,x154,x155,x156,x157,x158,x159,x160,x161,x162,x163,x164,x165,x166,x167,x168,x169,x170,x171,x172,x173,x174,x175,x176,x177,x178,x179,x180,x181,x182,x183,x184,x185,x186,x187,(fv 188),(fv 189),(fv 190),(fv 191),(fv 192),(fv 193),(fv 194),(fv 195),(fv 196),(fv 197),(fv 198),(fv 199),(fv 200),(fv 201),(fv 202),(fv 203),(fv 204),(fv 205),(fv 206),(fv 207),(fv 208),(fv 209),(fv 210),(fv 211),(fv 212),x213,x214,x215,x216,x217,x218,x219]:=by
  intro X xd xs xp U f e AX st fU lU hU ne al
  obtain ⟨v2,K2,e3,A3,b2⟩:=encAll (b:=b) (s:=s) (w:=w) (a:=a) (r:=r) st fU lU
  unfold encE encA at *
  rw [hU] at e3 b2
  simp only [cond_true] at e3 b2
  obtain ⟨_,_,u3⟩:=back1 fU hU
  have l2:=b2.len
  rw [u3] at l2
  have bS:=(AX.trans A3).bs b1
  have ua:=zNe (b:=b) G.sn
  have hU2:=hU
  unfold okT at hU2
  rw [Bool.and_eq_true] at hU2
  have ub:=zNe (b:=b) (zDo gg.b1 gg.a1.2 (fun x hx=>(fU.s.2 x hx).u8) hU2.2).sn
  have iB:=Bt.bytesC bS b2 ua ub
  rw [back3 fi fU hS' hU,decide_eq_false ne] at iB
  refine ⟨v2,K2,e3,l2,iB,?_⟩
  intro x0 x1 x2 x3 x4 x5 x8 x9 x12 x13 x14 x16 x18 x19 x20 x21 x22 x23 x24 x25 x26 x27 x28 x29 x30 x31 x32 x33 x34 x35 x36 x37 x38 x39 x40 x41 x42 x43 x44 x45 x46 x47 x48 x49 x50 x51 x52 x53 x54 x55 x56 x57 x58 x59 x60 x61 x62 x63 x64 x65 x66 x67 x68 x69 x70 x71 x72 x73 x74 x75 x76 x77 x78 x79 x80 x81 x82 x83 x84 x85 x86 x87 x88 x89 x90 x91 x92 x93 x94 x95 x96 x97 x98 x99 x100 x101 x102 x103 x104 x105 x106 x107 x108 x109 x110 x111 x112 x113 x114 x115 x116 x117 x118 x119 x120 x121 x122 x123 x124 x125 x126 x127 x128 x129 x130 x131 x132 x133 x134 x135 x136 x137 x138 x139 x140 x141 x142 x143 x144 x145 x146 x147 x148 x149 x150 x151 x152 x153 x154 x155 x156 x157 x158 x159 x160 x161 x162 x163 x164 x165 x166 x167 x168 x169 x170 x171 x172 x173 x174 x175 x176 x177 x178 x179 x180 x181 x182 x183 x184 x185 x186 x187 x213 x214 x215 x216 x217 x218 x219 j6 j188 j189 j190 j191 j192 j193 j194 j195 j196 j197 j198 j199 j200 j201 j202 j203 j204 j205 j206 j207 j208 j209 j210 j211 j212
  have lx : (encT b S).length ≤ 1000000:=by
   rw [zF9 G gg.a1.2,hn]; have:=Bt.newN_le b; omega
  exact ptL bS b2 al lx x0 x1 x2 x3 x4 x5 x8 x9 x12 x13 x14 x16 x18 x19 x20 x21 x22 x23 x24 x25 x26 x27 x28 x29 x30 x31 x32 x33 x34 x35 x36 x37 x38 x39 x40 x41 x42 x43 x44 x45 x46 x47 x48 x49 x50 x51 x52 x53 x54 x55 x56 x57 x58 x59 x60 x61 x62 x63 x64 x65 x66 x67 x68 x69 x70 x71 x72 x73 x74 x75 x76 x77 x78 x79 x80 x81 x82 x83 x84 x85 x86 x87 x88 x89 x90 x91 x92 x93 x94 x95 x96 x97 x98 x99 x100 x101 x102 x103 x104 x105 x106 x107 x108 x109 x110 x111 x112 x113 x114 x115 x116 x117 x118 x119 x120 x121 x122 x123 x124 x125 x126 x127 x128 x129 x130 x131 x132 x133 x134 x135 x136 x137 x138 x139 x140 x141 x142 x143 x144 x145 x146 x147 x148 x149 x150 x151 x152 x153 x154 x155 x156 x157 x158 x159 x160 x161 x162 x163 x164 x165 x166 x167 x168 x169 x170 x171 x172 x173 x174 x175 x176 x177 x178 x179 x180 x181 x182 x183 x184 x185 x186 x187 x213 x214 x215 x216 x217 x218 x219 (encT b S).length 0 j6 j188 j189 j190 j191 j192 j193 j194 j195 j196 j197 j198 j199 j200 j201 j202 j203 j204 j205 j206 j207 j208 j209 j210 j211 j212 (by omega)
 have w0 : IntKind.i64.wrap n1 = n1:=zAl (by omega) (by omega)
 have m3 : n0.tmod 3 = 0 ∨ n0.tmod 3 = 1 ∨ n0.tmod 3 = 2:=by
  have:=Int.tmod_nonneg 3 q0.1
  have:=Int.tmod_lt_of_pos n0 (show (0 : Int) < 3 by omega)
  omega
 have r3':=zGu (e:=.none) (k:=.u8) (a:=n0) (b:=3) (by omega)
 rcases m3 with m3 | m3 | m3 <;> rw [m3] at r3'
 ·have d0 : ((0 : Int) == 0) = true:=rfl
  have d1 : ((0 : Int) == 1) = false:=rfl
  have d2 : ((0 : Int) == 2) = false:=rfl
  by_cases hx : S.next > 1000000
  ·have t1:=decide_eq_true hx
   simp -implicitDefEqProofs (maxSteps:=5000000) only [go_sem,simprocAttr,itr,itq,zCc,zAe,kd.1,kd.2,ks.1,ks.2,kp.1,kp.2,e0,cs0,cg0,ef,er,e1,cs00,cg00,l1,lb,nn,e2,kd1.1,kd1.2,ks1.1,ks1.2,kp1.1,kp1.2,hJ1s,zBn,cnJ,r3',d0,d1,d2,csJ,t1,zCa,zAc]
   subst hQ
   simp -implicitDefEqProofs (maxSteps:=5000000) only [go_sem,simprocAttr]
  have t1:=decide_eq_false hx
  by_cases hk : S.kind = 0
  case neg =>
   have t2 : (S.kind != 0) = true:=bne_iff_ne.2 hk
   simp -implicitDefEqProofs (maxSteps:=5000000) only [go_sem,simprocAttr,itr,itq,zCc,zAe,kd.1,kd.2,ks.1,ks.2,kp.1,kp.2,e0,cs0,cg0,ef,er,e1,cs00,cg00,l1,lb,nn,e2,kd1.1,kd1.2,ks1.1,ks1.2,kp1.1,kp1.2,hJ1s,zBn,cnJ,r3',d0,d1,d2,csJ,t1,t2,zCa,zAc]
   subst hQ
   simp -implicitDefEqProofs (maxSteps:=5000000) only [go_sem,simprocAttr]
  have t2 : (S.kind != 0) = false:=by simp [hk]
  have w1 : IntKind.i64.wrap (S.next + 1) = S.next + 1:=zAl (by have:=G.nx; omega) (by omega)
  obtain ⟨xd,xs,xp,rfl,rfl,rfl⟩ : ∃ xd xs xp,xd = wd ∧ xs = ws ∧ xp = wp:=⟨_,_,_,rfl,rfl,rfl⟩
  obtain ⟨X,hX⟩ : ∃ X,X = K1 ++ [ABlk.rw [xd,xs,.int .i64 (S.next + 1),.int .i64 S.kind,.int .i64 S.pid,xp]]:=⟨_,rfl⟩
  obtain ⟨U,hU0⟩ : ∃ U : StS,U = { S with next:=S.next + 1 }:=⟨_,rfl⟩
  obtain ⟨f,hf0⟩ : ∃ f : Nat,f = 0:=⟨_,rfl⟩
  obtain ⟨e,he0⟩ : ∃ e : Nat,e = 4:=⟨_,rfl⟩
  have AX : Adds K0 X:=A1.trans ⟨_,hX⟩
  have hx6 : X[K1.length]? = some (.rw [xd,xs,.int .i64 U.next,.int .i64 U.kind,.int .i64 U.pid,xp]):=by rw [hX,hU0]; simp
  have wr : zA4 J1 K1.length 2 [.int .i64 (S.next + 1)] = some X:=by
   rw [hJ1,zDz,if_pos ⟨by simp,rfl⟩,hX]; rfl
  have st0 : StA X xd xs xp S:=g1.adds ⟨_,hX⟩
  have st : StA X xd xs xp U:=by rw [hU0]; exact ⟨st0.d,st0.ok,st0.s,st0.p⟩
  have fU : FitS U:=by rw [hU0]; exact ⟨fi.s,fi.p⟩
  have lU : U.dirty.length ≤ 80:=by rw [hU0]; exact lD
  have hU : okT b s w a r U = true:=by unfold okT; rw [hg,hU0,zS5 hgd (by omega) hk]; rfl
  have ne : S ≠ U:=fun q=>by have:=congrArg StS.next q; rw [hU0] at this; simp only at this; omega
  have al : zEe (encT b S) (encT b U) f e:=by rw [hU0,hf0,he0]; exact zQn b S (S.next + 1)
  have cgX:=((A0.trans AX)).cells cg0
  have z0 : (0 : Int) = ((f : Nat) : Int):=by rw [hf0]; rfl
  have z4 : (4 : Int) = ((e : Nat) : Int):=by rw [he0]; rfl
  subst hf0; subst he0
  obtain ⟨v2,K2,e3,l2,iB,lp⟩:=tl X xd xs xp U 0 4 AX st fU lU hU ne al
  have cx:=zAm hx6
  simp -implicitDefEqProofs (maxSteps:=5000000) only [go_sem,simprocAttr,itr,itq,zQr,zAj,zCc,zAe,kd.1,kd.2,ks.1,ks.2,kp.1,kp.2,e0,cs0,cg0,ef,er,e1,cs00,cg00,l1,lb,nn,e2,kd1.1,kd1.2,ks1.1,ks1.2,kp1.1,kp1.2,hJ1s,zBn,cnJ,r3',d0,d1,d2,csJ,t1,t2,c1,w1,zBa,wr,cgX,cx,e3,l2]
  unfold LW14 at lp
  generalize (envL prog).loop (runC (envX prog XW) (l5x0 (envX prog XW))) = LL at lp ⊢
  refine zAq (fun r=>seqR (zAt 1 r) _) (lp _ _ _ _ _ _ _ _ _ _ _ _ _ _ _ _ _ _ _ _ _ _ _ _ _ _ _ _ _ _ _ _ _ _ _ _ _ _ _ _ _ _ _ _ _ _ _ _ _ _ _ _ _ _ _ _ _ _ _ _ _ _ _ _ _ _ _ _ _ _ _ _ _ _ _ _ _ _ _ _ _ _ _ _ _ _ _ _ _ _ _ _ _ _ _ _ _ _ _ _ _ _ _ _ _ _ _ _ _ _ _ _ _ _ _ _ _ _ _ _ _ _ _ _ _ _ _ _ _ _ _ _ _ _ _ _ _ _ _ _ _ _ _ _ _ _ _ _ _ _ _ _ _ _ _ _ _ _ _ _ _ _ _ _ _ _ _ _ _ _ _ _ _ _ _ _ _ _ _ _ _ _ _ _ _ _ _ _ _ _ _ _ _ _ _ _ _ _ _ _ _ _ _ _ _ _ _ _ _ _ _ _ _ _ _) ?_
  rintro e' t K' ⟨rfl,rfl,fv,rfl⟩
  simp -implicitDefEqProofs (maxSteps:=5000000) only [go_sem,simprocAttr,itr,itq,zCc,iB,zCa,zAc]
  subst hQ
  simp -implicitDefEqProofs (maxSteps:=5000000) only [go_sem,simprocAttr]
 ·have d0 : ((1 : Int) == 0) = false:=rfl
  have d1 : ((1 : Int) == 1) = true:=rfl
  have d2 : ((1 : Int) == 2) = false:=rfl
  obtain ⟨k,hk,hk1⟩:=zKv q1.1 (show (0 : Int) < (S.dirty.length : Int) by omega)
  have rm:=zGu (e:=.none) (k:=.i64) (a:=n1) (b:=(S.dirty.length : Int)) (by omega)
  rw [hk] at rm
  have wdl:=g.d.len
  have hx:=List.getElem?_eq_getElem (show k < S.dirty.length by omega)
  obtain ⟨ax,ix,lx⟩:=(((g0.adds T2)).d).idx hx .i64
  by_cases hn0 : S.dirty[k] < 0
  ·have t1:=decide_eq_true hn0
   simp -implicitDefEqProofs (maxSteps:=5000000) only [go_sem,simprocAttr,itr,itq,zCc,zAe,kd.1,kd.2,ks.1,ks.2,kp.1,kp.2,e0,cs0,cg0,ef,er,e1,cs00,cg00,l1,lb,nn,e2,kd1.1,kd1.2,ks1.1,ks1.2,kp1.1,kp1.2,hJ1s,zBn,cnJ,r3',d0,d1,d2,csJ,w0,wdl,rm,ix,lx,t1,zCa,zAc]
   subst hQ
   simp -implicitDefEqProofs (maxSteps:=5000000) only [go_sem,simprocAttr]
  have t1:=decide_eq_false hn0
  have hne : S.dirty ≠ []:=fun q=>by rw [q] at hk1; simp at hk1; omega
  obtain ⟨c,rfl,hcc,np,ns,nr⟩:=hdd hne
  obtain ⟨xd,hxd⟩ : ∃ xd,xd = AV.sl c 0 1 S.dirty.length S.dirty.length false:=⟨_,rfl⟩
  have ltc:=zBb hcc
  have hcJ:=B1.at hcc
  obtain ⟨X,hX⟩ : ∃ X,X = J1.set c (.rw (i64s (S.dirty.set k (-1)))):=⟨_,rfl⟩
  have ixd : zA6 1 (.sl c 0 1 S.dirty.length S.dirty.length false) (.int .i64 (k : Int)) = some (.ptr c k):=by
   rw [zJb,if_pos ⟨by omega,by omega,by omega⟩]; simp
  have wr : zA4 J1 c k [.int .i64 (-1)] = some X:=by
   rw [zA5 hcJ,if_pos ⟨by rw [zCl]; simp; omega,rfl⟩,zBq,hX]
   unfold i64s; rw [List.map_set]
  have fX : Fr J1 X (· = c):=by rw [hX]; exact Fr.set _ _ rfl
  obtain ⟨U,hU0⟩ : ∃ U : StS,U = { S with dirty:=S.dirty.set k (-1) }:=⟨_,rfl⟩
  obtain ⟨f,hf0⟩ : ∃ f : Nat,f = 10 + k:=⟨_,rfl⟩
  obtain ⟨e,he0⟩ : ∃ e : Nat,e = 11 + k:=⟨_,rfl⟩
  have f1 : IntKind.i64.wrap (10 + (k : Int)) = (f : Int):=by rw [zAl (by omega) (by omega)]; omega
  have f2 : IntKind.i64.wrap (11 + (k : Int)) = (e : Int):=by rw [zAl (by omega) (by omega)]; omega
  have ltc0 : K0.length ≤ c:=wb (.sl c 0 1 S.dirty.length S.dirty.length false) (by simp) c rfl
  have AX : Adds K0 X:=fX.old (A1.trans B1) fun z hz q=>by have : z = c:=q; omega
  have hx6 : X[K1.length]? = some (.rw [.sl c 0 1 S.dirty.length S.dirty.length false,ws,.int .i64 U.next,.int .i64 U.kind,.int .i64 U.pid,wp]):=by rw [hU0]; exact fX.at x1 (by show ¬ K1.length = c; omega)
  have xc : X[c]? = some (.rw (i64s (S.dirty.set k (-1)))):=by rw [hX]; exact zBf _ _ _ (by omega)
  have st : StA X (.sl c 0 1 S.dirty.length S.dirty.length false) ws wp U:=by
   rw [hU0]
   refine ⟨?_,g1.ok,((gc.adds B1).frT fX (fun z hz q=>ns (by rw [hz]; exact congrArg some q)) fun r hr x hx z hz q=>nr r hr x hx (by rw [hz]; exact congrArg some q)).isC,(gj.p).fr fX fun z hz q=>np (by rw [hz]; exact congrArg some q)⟩
   have:=IS.block (l:=S.dirty.length) (e:=false) xc
   rwa [List.length_set] at this
  have fU : FitS U:=by rw [hU0]; exact ⟨fi.s,fi.p⟩
  have lU : U.dirty.length ≤ 80:=by rw [hU0]; show (S.dirty.set k (-1)).length ≤ 80; rw [List.length_set]; exact lD
  have hU : okT b s w a r U = true:=by unfold okT; rw [hg,hU0,zPw hgd k]; rfl
  have ne : S ≠ U:=fun q=>by
   have:=congrArg (fun Z : StS=>Z.dirty[k]?) q
   rw [hU0] at this
   simp only [List.getElem?_set_self (show k < S.dirty.length by omega),hx] at this
   injection this with this; omega
  have al : zEe (encT b S) (encT b U) f e:=by rw [hU0,hf0,he0]; exact zNu b S k
  have cgX:=(A0.trans AX).cells cg0
  obtain ⟨v2,K2,e3,l2,iB,lp⟩:=tl X _ _ _ U f e AX st fU lU hU ne al
  have cx:=zAm hx6
  simp -implicitDefEqProofs (maxSteps:=5000000) only [go_sem,simprocAttr,itr,itq,zQr,zAj,zCc,zAe,kd.1,kd.2,ks.1,ks.2,kp.1,kp.2,e0,cs0,cg0,ef,er,e1,cs00,cg00,l1,lb,nn,e2,kd1.1,kd1.2,ks1.1,ks1.2,kp1.1,kp1.2,hJ1s,zBn,cnJ,r3',d0,d1,d2,csJ,w0,wdl,rm,ix,lx,t1,c1,ixd,zBa,wr,f1,f2,cgX,cx,e3,l2]
  unfold LW14 at lp
  generalize (envL prog).loop (runC (envX prog XW) (l5x0 (envX prog XW))) = LL at lp ⊢
  refine zAq (fun r=>seqR (zAt 1 r) _) (lp _ _ _ _ _ _ _ _ _ _ _ _ _ _ _ _ _ _ _ _ _ _ _ _ _ _ _ _ _ _ _ _ _ _ _ _ _ _ _ _ _ _ _ _ _ _ _ _ _ _ _ _ _ _ _ _ _ _ _ _ _ _ _ _ _ _ _ _ _ _ _ _ _ _ _ _ _ _ _ _ _ _ _ _ _ _ _ _ _ _ _ _ _ _ _ _ _ _ _ _ _ _ _ _ _ _ _ _ _ _ _ _ _ _ _ _ _ _ _ _ _ _ _ _ _ _ _ _ _ _ _ _ _ _ _ _ _ _ _ _ _ _ _ _ _ _ _ _ _ _ _ _ _ _ _ _ _ _ _ _ _ _ _ _ _ _ _ _ _ _ _ _ _ _ _ _ _ _ _ _ _ _ _ _ _ _ _ _ _ _ _ _ _ _ _ _ _ _ _ _ _ _ _ _ _ _ _ _ _ _ _ _ _ _ _) ?_
  rintro e' t K' ⟨rfl,rfl,fv,rfl⟩
  simp -implicitDefEqProofs (maxSteps:=5000000) only [go_sem,simprocAttr,itr,itq,zCc,iB,zCa,zAc]
  subst hQ
  simp -implicitDefEqProofs (maxSteps:=5000000) only [go_sem,simprocAttr]
 ·have d0 : ((2 : Int) == 0) = false:=rfl
  have d1 : ((2 : Int) == 1) = false:=rfl
  have d2 : ((2 : Int) == 2) = true:=rfl
  have wsl:=g.s.len
  by_cases hz : S.snaps.length = 0
  ·have t1 : ((S.snaps.length : Int) == 0) = true:=by simp [hz]
   simp -implicitDefEqProofs (maxSteps:=5000000) only [go_sem,simprocAttr,itr,itq,zCc,zAe,kd.1,kd.2,ks.1,ks.2,kp.1,kp.2,e0,cs0,cg0,ef,er,e1,cs00,cg00,l1,lb,nn,e2,kd1.1,kd1.2,ks1.1,ks1.2,kp1.1,kp1.2,hJ1s,zBn,cnJ,r3',d0,d1,d2,csJ,wsl,t1,zCa,zAc]
   subst hQ
   simp -implicitDefEqProofs (maxSteps:=5000000) only [go_sem,simprocAttr]
  have t1 : ((S.snaps.length : Int) == 0) = false:=beq_eq_false_iff_ne.2 (by omega)
  by_cases hk0 : S.kind = 0
  case neg =>
   have t2 : (S.kind != 0) = true:=bne_iff_ne.2 hk0
   simp -implicitDefEqProofs (maxSteps:=5000000) only [go_sem,simprocAttr,itr,itq,zCc,zAe,kd.1,kd.2,ks.1,ks.2,kp.1,kp.2,e0,cs0,cg0,ef,er,e1,cs00,cg00,l1,lb,nn,e2,kd1.1,kd1.2,ks1.1,ks1.2,kp1.1,kp1.2,hJ1s,zBn,cnJ,r3',d0,d1,d2,csJ,wsl,t1,t2,zCa,zAc]
   subst hQ
   simp -implicitDefEqProofs (maxSteps:=5000000) only [go_sem,simprocAttr]
  have t2 : (S.kind != 0) = false:=by simp [hk0]
  obtain ⟨k,hk,hk1⟩:=zKv q1.1 (show (0 : Int) < (S.snaps.length : Int) by omega)
  have rm:=zGu (e:=.none) (k:=.i64) (a:=n1) (b:=(S.snaps.length : Int)) (by omega)
  rw [hk] at rm
  have sl8:=G.sl
  have y1 : IntKind.i64.wrap ((k : Int) + 1) = (k : Int) + 1:=zAl (by omega) (by omega)
  by_cases hl : k + 1 < S.snaps.length
  ·have t3 : decide ((k : Int) + 1 < (S.snaps.length : Int)) = true:=decide_eq_true (by omega)
   simp -implicitDefEqProofs (maxSteps:=5000000) only [go_sem,simprocAttr,itr,itq,zCc,zAe,kd.1,kd.2,ks.1,ks.2,kp.1,kp.2,e0,cs0,cg0,ef,er,e1,cs00,cg00,l1,lb,nn,e2,kd1.1,kd1.2,ks1.1,ks1.2,kp1.1,kp1.2,hJ1s,zBn,cnJ,r3',d0,d1,d2,csJ,w0,wsl,t1,t2,rm,y1,t3,zCa,zAc]
   subst hQ
   simp -implicitDefEqProofs (maxSteps:=5000000) only [go_sem,simprocAttr]
  have t3 : decide ((k : Int) + 1 < (S.snaps.length : Int)) = false:=decide_eq_false (by omega)
  have hx:=List.getElem?_eq_getElem (show k < S.snaps.length by omega)
  obtain ⟨x,hxx⟩ : ∃ x,x = S.snaps[k]:=⟨_,rfl⟩
  rw [← hxx] at hx
  obtain ⟨bb,cs,vc,vt,sb,ix,hc0,h1,h2,h3,ht,hle,hbs,hip0⟩:=g0.s.idx hx
  have hc:=T2.cells hc0
  have wtl:=hip0.len
  cases htb : x.tb with
  | nil =>
   rw [htb,List.length_nil,show ((0 : Nat) : Int) = 0 from rfl] at wtl
   have zz : ((0 : Int) == 0) = true:=rfl
   simp -implicitDefEqProofs (maxSteps:=5000000) only [go_sem,simprocAttr,itr,itq,zCc,zAe,kd.1,kd.2,ks.1,ks.2,kp.1,kp.2,e0,cs0,cg0,ef,er,e1,cs00,cg00,l1,lb,nn,e2,kd1.1,kd1.2,ks1.1,ks1.2,kp1.1,kp1.2,hJ1s,zBn,cnJ,r3',d0,d1,d2,csJ,w0,wsl,t1,t2,rm,y1,t3,ix,hc,h3,wtl,zz,zCa,zAc]
   subst hQ
   simp -implicitDefEqProofs (maxSteps:=5000000) only [go_sem,simprocAttr]
  | cons p l =>
  have tl0 : ((x.tb.length : Int) == 0) = false:=beq_eq_false_iff_ne.2 (by rw [htb,List.length_cons]; omega)
  obtain ⟨cb,hcb,rfl,hK⟩:=gc_sl gc (fun q=>hz (by rw [q]; rfl))
  obtain ⟨rr,hrr,gr⟩:=gc.ch.get hx
  obtain ⟨xc,xt,rfl,bc,pt⟩:=zRa gr
  have l3:=gc.ch.len3
  have nl:=gc.ch.len
  have ltb:=zBb hK
  rw [htb] at pt
  obtain ⟨y,ey,py,sy,cy1,cy2⟩:=isP_tail pt
  have hKJ:=B1.at hK
  have cK:=zAm hKJ
  have wr:=zGl (f:=2) (v:=y) hKJ l3 hrr (by omega) cy2
  obtain ⟨rs2,hrs2⟩ : ∃ rs2,rs2 = rows.set k [.int .i64 x.id,xc,y]:=⟨_,rfl⟩
  rw [show ([AV.int .i64 x.id,xc,xt]).set 2 y = [AV.int .i64 x.id,xc,y] from rfl,← hrs2] at wr
  obtain ⟨X,hX⟩ : ∃ X,X = J1.set cb (.rw rs2.flatten):=⟨_,rfl⟩
  rw [← hX] at wr
  have fX : Fr J1 X (· = cb):=by rw [hX]; exact Fr.set _ _ rfl
  have ixs : zA6 3 (.sl cb 0 3 S.snaps.length S.snaps.length false) (.int .i64 (k : Int)) = some (.ptr cb (k * 3)):=zFg cb 3 _ _ k false .i64 (by omega) (by omega)
  have rt : rows.flatten[k * 3 + 2]? = some xt:=by rw [zDl l3 hrr 2 (by omega)]; rfl
  obtain ⟨U,hU0⟩ : ∃ U : StS,U = { S with snaps:=S.snaps.set k { x with tb:=l } }:=⟨_,rfl⟩
  have AX : Adds K0 X:=fX.old (A1.trans B1) fun z hz q=>by have : z = cb:=q; omega
  have hx6 : X[K1.length]? = some (.rw [wd,.sl cb 0 3 S.snaps.length S.snaps.length false,.int .i64 U.next,.int .i64 U.kind,.int .i64 U.pid,wp]):=by rw [hU0]; exact fX.at x1 (by show ¬ K1.length = cb; omega)
  have xcb : X[cb]? = some (.rw rs2.flatten):=by rw [hX]; exact zBf _ _ _ (by omega)
  have nk : k < rows.length:=by omega
  have ap : ∀ r ∈ rows,∀ z ∈ r,∀ j,slb z = some j → j ≠ cb:=fun r hr z hz j hj q=>gc.ap r hr z hz j hj (by rw [q]; rfl)
  have chX : ChR X rs2 (S.snaps.set k { x with tb:=l }):=by
   refine ⟨by rw [hrs2,List.length_set,List.length_set]; exact nl,fun j r' s' i1 i2=>?_⟩
   rw [hrs2] at i1
   by_cases hj : k = j
   ·subst hj
    rw [List.getElem?_set_self nk] at i1
    rw [List.getElem?_set_self (by omega)] at i2
    injection i1 with i1; injection i2 with i2
    subst i1; subst i2
    exact ⟨xc,y,rfl,(B1.bs bc).fr fX fun z hz q=>ap _ (List.mem_of_getElem? hrr) xc (by simp) z hz q,(py.adds B1).fr fX fun z hz q=>ap _ (List.mem_of_getElem? hrr) xt (by simp) z (by rw [← sy]; exact hz) q⟩
   ·rw [List.getElem?_set_ne hj] at i1 i2
    exact ((gc.ch.el j r' s' i1 i2).fr (Fr.adds B1 (fun _=>False)) fun _ _ _ _ q=>q).fr fX fun z hz j' hj' q=>ap r' (List.mem_of_getElem? i1) z hz j' hj' q
  have st : StA X wd (.sl cb 0 3 S.snaps.length S.snaps.length false) wp U:=by
   rw [hU0]
   refine ⟨IS.frS gj.d fX (fun z hz q=>(dj cb rfl).1 (by rw [hz]; exact congrArg some q)),g1.ok,?_,gj.p.fr fX fun z hz q=>(dj cb rfl).2 (by rw [hz]; exact congrArg some q)⟩
   refine .inr ⟨cb,S.snaps.length,false,rs2,[],by rw [List.length_set],by rw [List.length_set]; exact Nat.le_refl _,by rw [List.append_nil]; exact zAm xcb,chX⟩
  have fx:=zCx fi.s hx
  have fU : FitS U:=by
   rw [hU0]
   refine ⟨⟨by show (S.snaps.set k _).length ≤ 100; rw [List.length_set]; exact fi.s.1,fun z hz=>?_⟩,fi.p⟩
   rcases List.mem_or_eq_of_mem_set hz with q | rfl
   ·exact fi.s.2 z q
   ·exact ⟨fx.u8,fx.lc,by have:=fx.lt; rw [htb,List.length_cons] at this; show l.length ≤ 1000; omega⟩
  have lU : U.dirty.length ≤ 80:=by rw [hU0]; exact lD
  have sA : S.snaps = S.snaps.take k ++ [x]:=by
   have:=List.take_append_drop k S.snaps
   rw [List.drop_eq_getElem_cons (show k < S.snaps.length by omega),← hxx,List.drop_eq_nil_of_le (by omega)] at this
   exact this.symm
  have sU : S.snaps.set k { x with tb:=l } = S.snaps.take k ++ [{ x with tb:=l }]:=by
   conv=>lhs; rw [sA]
   rw [List.set_append_right _ _ (by rw [List.length_take]; omega),show k - (S.snaps.take k).length = 0 by rw [List.length_take]; omega]
   rfl
  have hU : okT b s w a r U = true:=by
   unfold okT; rw [hg,hU0,sU,good_tb (fun z hz=>(fi.s.2 z hz).u8) hgd sA htb hk0]; rfl
  have ne : S ≠ U:=fun q=>by
   have:=congrArg (fun Z : StS=>Z.snaps[k]?) q
   rw [hU0] at this
   simp only [List.getElem?_set_self (show k < S.snaps.length by omega),hx] at this
   injection this with this
   have:=congrArg (fun z : SnS=>z.tb.length) this
   rw [htb] at this
   simp at this
  obtain ⟨bN,rfl⟩ : ∃ bN : Nat,b = bN:=⟨b.toNat,by omega⟩
  obtain ⟨nbe,nb1,nb2⟩:=zJ0 gg.b1
  obtain ⟨nb,hnb⟩ : ∃ nb,nb = Bt.newN (bN : Int):=⟨_,rfl⟩
  rw [← hnb] at nbe nb1 nb2
  have pr:=(G.sn.one x (List.mem_of_getElem? hx)).tb.rng p (by rw [htb]; simp)
  obtain ⟨pq,hpq⟩ : ∃ pq : Nat,p.1 = pq:=⟨p.1.toNat,by omega⟩
  obtain ⟨m7,hm7⟩ : ∃ m,m = bN + 7:=⟨_,rfl⟩
  obtain ⟨s1,hs1⟩ : ∃ m,m = 4 + nb:=⟨_,rfl⟩
  obtain ⟨s2,hs2⟩ : ∃ m,m = 4 + nb + bN:=⟨_,rfl⟩
  obtain ⟨f1,hf1⟩ : ∃ m,m = 10 + n:=⟨_,rfl⟩
  obtain ⟨f2,hf2⟩ : ∃ m,m = k * s2:=⟨_,rfl⟩
  obtain ⟨f3,hf3⟩ : ∃ m,m = f1 + f2:=⟨_,rfl⟩
  obtain ⟨f4,hf4⟩ : ∃ m,m = f3 + 4:=⟨_,rfl⟩
  obtain ⟨f5,hf5⟩ : ∃ m,m = f4 + nb:=⟨_,rfl⟩
  obtain ⟨f,hf6⟩ : ∃ m,m = f5 + pq:=⟨_,rfl⟩
  obtain ⟨e,he7⟩ : ∃ m,m = f + 1:=⟨_,rfl⟩
  have ks8 : k * s2 ≤ 8 * s2:=Nat.mul_le_mul_right s2 (by omega)
  have kc : (k : Int) * (s2 : Int) = ((k * s2 : Nat) : Int):=by rw [Int.natCast_mul]
  have z1 : IntKind.i64.wrap ((bN : Int) + 7) = (m7 : Int):=by rw [zAl (by omega) (by omega)]; omega
  have z2 : ((m7 : Int)).tdiv 8 = (nb : Int):=by rw [Int.tdiv_eq_ediv_of_nonneg (by omega),nbe]; omega
  have z2' : IntKind.i64.wrap (nb : Int) = (nb : Int):=zAl (by omega) (by omega)
  have z3 : IntKind.i64.wrap (4 + (nb : Int)) = (s1 : Int):=by rw [zAl (by omega) (by omega)]; omega
  have z4 : IntKind.i64.wrap ((s1 : Int) + (bN : Int)) = (s2 : Int):=by rw [zAl (by omega) (by omega)]; omega
  have z5 : IntKind.i64.wrap (s * w) = (n : Int):=by rw [zAl (by omega) (by omega)]; exact hn
  have z6 : IntKind.i64.wrap (10 + (n : Int)) = (f1 : Int):=by rw [zAl (by omega) (by omega)]; omega
  have z7 : IntKind.i64.wrap ((k : Int) * (s2 : Int)) = (f2 : Int):=by rw [kc,zAl (by omega) (by omega)]; omega
  have z8 : IntKind.i64.wrap ((f1 : Int) + (f2 : Int)) = (f3 : Int):=by rw [zAl (by omega) (by omega)]; omega
  have z9 : IntKind.i64.wrap ((f3 : Int) + 4) = (f4 : Int):=by rw [zAl (by omega) (by omega)]; omega
  have za : IntKind.i64.wrap ((f4 : Int) + (nb : Int)) = (f5 : Int):=by rw [zAl (by omega) (by omega)]; omega
  have zb : IntKind.i64.wrap ((f5 : Int) + (pq : Int)) = (f : Int):=by rw [zAl (by omega) (by omega)]; omega
  have zc : IntKind.i64.wrap ((f : Int) + 1) = (e : Int):=by rw [zAl (by omega) (by omega)]; omega
  have al : zEe (encT (bN : Int) S) (encT (bN : Int) U) f e:=by
   have:=zQm (b:=(bN : Int)) (nb:=nb) (n:=n) hx (by omega) (fun z hz=>by rw [hnb]; exact (zMw G.sn gg.a1.2 z hz).lc) htb hD
   rw [← hU0] at this
   have e1 : 10 + n + k * (4 + nb + (bN : Int).toNat) + 4 + nb + p.1.toNat = f:=by rw [Int.toNat_natCast,hpq,Int.toNat_natCast,← hs2,← hf2]; omega
   rw [e1] at this
   rw [he7]; exact this
  have cgX:=(A0.trans AX).cells cg0
  have csX:=(A0.trans AX).cells cs0
  have hc':=(A0.trans AX).cells hc0
  have iip:=hip0.adds (A0.trans AX)
  rw [htb] at iip
  obtain ⟨tb,tcs,tsb,tix,tc,t1',t2',_,tle⟩:=iip.idx (i:=0) (p:=p) rfl
  rw [show ((0 : Nat) : Int) = 0 from rfl] at tix
  rw [hpq] at t1'
  obtain ⟨v2,K2,e3,l2,iB,lp⟩:=tl X _ _ _ U f e AX st fU lU hU ne al
  have cx:=zAm hx6
  simp -implicitDefEqProofs (maxSteps:=5000000) only [go_sem,simprocAttr,itr,itq,zQr,zAj,zCc,zAe,kd.1,kd.2,ks.1,ks.2,kp.1,kp.2,e0,cs0,cg0,ef,er,e1,cs00,cg00,l1,lb,nn,e2,kd1.1,kd1.2,ks1.1,ks1.2,kp1.1,kp1.2,hJ1s,zBn,cnJ,r3',d0,d1,d2,csJ,w0,wsl,t1,t2,rm,y1,t3,ix,hc,h3,wtl,tl0,c1,ixs,cK,rt,ey,cy1,zBa,wr,z1,z2,z2',z3,z4,z5,z6,z7,z8,z9,za,zb,zc,csX,hc',tix,tc,t1',cgX,cx,e3,l2]
  unfold LW14 at lp
  generalize (envL prog).loop (runC (envX prog XW) (l5x0 (envX prog XW))) = LL at lp ⊢
  refine zAq (fun r=>seqR (zAt 1 r) _) (lp _ _ _ _ _ _ _ _ _ _ _ _ _ _ _ _ _ _ _ _ _ _ _ _ _ _ _ _ _ _ _ _ _ _ _ _ _ _ _ _ _ _ _ _ _ _ _ _ _ _ _ _ _ _ _ _ _ _ _ _ _ _ _ _ _ _ _ _ _ _ _ _ _ _ _ _ _ _ _ _ _ _ _ _ _ _ _ _ _ _ _ _ _ _ _ _ _ _ _ _ _ _ _ _ _ _ _ _ _ _ _ _ _ _ _ _ _ _ _ _ _ _ _ _ _ _ _ _ _ _ _ _ _ _ _ _ _ _ _ _ _ _ _ _ _ _ _ _ _ _ _ _ _ _ _ _ _ _ _ _ _ _ _ _ _ _ _ _ _ _ _ _ _ _ _ _ _ _ _ _ _ _ _ _ _ _ _ _ _ _ _ _ _ _ _ _ _ _ _ _ _ _ _ _ _ _ _ _ _ _ _ _ _ _ _) ?_
  rintro e' t K' ⟨rfl,rfl,fv,rfl⟩
  simp -implicitDefEqProofs (maxSteps:=5000000) only [go_sem,simprocAttr,itr,itq,zCc,iB,zCa,zAc]
  subst hQ
  simp -implicitDefEqProofs (maxSteps:=5000000) only [go_sem,simprocAttr]
end Go.Proofs.Ythgflkfhjnbheaa.G14
