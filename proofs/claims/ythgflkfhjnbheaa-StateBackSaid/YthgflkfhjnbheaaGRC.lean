/- What the functions that the law reaches answer, for every argument. No condition but those in each statement. -/
import Derived.Test.YthgflkfhjnbheaaGRB
set_option linter.unusedSimpArgs false
set_option linter.unusedVariables false
set_option linter.unusedSectionVars false
set_option maxRecDepth 10000
section
namespace Go.Proofs.Ythgflkfhjnbheaa.G14
open Go Go.Proofs.Ythgflkfhjnbheaa.Eng
def markV (p : PrS) : Int:=if p.2 = 255 then 255 else u8w (p.2 + 1)
theorem zJg (z : List Int) (p : PrS) (l : List PrS) : zEx z (p :: l) = zEx (z.set p.1.toNat (markV p)) l:=rfl
def Mrk (n : Nat) (l : List PrS) : Prop:=∀ p ∈ l,(0 ≤ p.1 ∧ p.1 < (n : Int)) ∧ 0 ≤ p.2 ∧ p.2 ≤ 1000000
section
variable {H : zAc} {v : AV} {l : List PrS} {n : Nat} (g : IsP H v l) (ll : l.length ≤ 1000) (ok : Mrk n l) (hn : n ≤ 1000)
include g ll ok hn
set_option maxHeartbeats 8000000 in
theorem marksL (x0 x1 x2 x3 x4 x6 x8 x9 x32 : AV) : ∀ (m i : Nat) (K : zAc) (z : List Int) (j7 j13 j14 j15 j16 j17 j18 j19 j20 j21 j22 j23 j24 j25 j26 j27 j28 j29 j30 j31 : AV),Adds H K → K[H.length]? = some (.rw (u8s z)) → z.length = n → i + m = l.length →
  Outs (LP1 l27x0 [x0,x1,x2,x3,x4,.sl H.length 0 1 n n true,x6,j7,x8,x9,v,.int .i64 (l.length : Int),.int .i64 (i : Int),j13,j14,j15,j16,j17,j18,j19,j20,j21,j22,j23,j24,j25,j26,j27,j28,j29,j30,j31,x32] K) fun e t K'=>e = .exit 0 ∧ (Adds H K' ∧ K'[H.length]? = some (.rw (u8s (zEx z (l.drop i))))) ∧ ∃ fv : Nat → AV,t = [x0,x1,x2,x3,x4,.sl H.length 0 1 n n true,x6,(fv 7),x8,x9,v,.int .i64 (l.length : Int),(fv 12),(fv 13),(fv 14),(fv 15),(fv 16),(fv 17),(fv 18),(fv 19),(fv 20),(fv 21),(fv 22),(fv 23),(fv 24),(fv 25),(fv 26),(fv 27),(fv 28),(fv 29),(fv 30),(fv 31),x32]:=by
 intro m
 obtain ⟨L0,hL0⟩ : ∃ L,L = LP1 l27x0:=⟨_,rfl⟩
 have lo:=zAp hL0
 rw [← hL0]
 induction m with
 | zero =>
  intro i K z j7 j13 j14 j15 j16 j17 j18 j19 j20 j21 j22 j23 j24 j25 j26 j27 j28 j29 j30 j31 aK hb hz hi
  obtain rfl : i = l.length:=by omega
  have hd : decide ((l.length : Int) < (l.length : Int)) = false:=by simp
  rw [lo,List.drop_length]
  unfold l27x0
  simp -implicitDefEqProofs (maxSteps:=5000000) only [go_sem,simprocAttr,hd,zAg,zAb]
  exact ⟨⟨aK,hb⟩,exF rfl⟩
 | succ m ih =>
  intro i K z j7 j13 j14 j15 j16 j17 j18 j19 j20 j21 j22 j23 j24 j25 j26 j27 j28 j29 j30 j31 aK hb hz hi
  have hlt : i < l.length:=by omega
  have hd : decide ((i : Int) < (l.length : Int)) = true:=decide_eq_true (by omega)
  have e2 : IntKind.i64.wrap ((i : Int) + 1) = ((i + 1 : Nat) : Int):=by rw [zAk (by omega) (by omega)]; omega
  have hx:=List.getElem?_eq_getElem hlt
  have hm:=ok _ (List.getElem_mem hlt)
  rw [List.drop_eq_getElem_cons hlt,zJg]
  generalize l[i] = p at *
  obtain ⟨b2,c2,_,ix,hc0,r1,r2,ht,hle⟩:=g.idx hx
  unfold prC at ht
  have hc:=aK.cells hc0
  obtain ⟨k,hk⟩ : ∃ k : Nat,p.1 = k:=⟨p.1.toNat,by omega⟩
  have kn : k < n:=by omega
  obtain ⟨K1,hK1⟩ : ∃ K1,K1 = K ++ [ABlk.rw [.int .i64 p.1,.int .i64 p.2]]:=⟨_,rfl⟩
  have A1 : Adds K K1:=⟨_,hK1⟩
  have lH:=zA8 hb
  have cq : cellsOf K1 K.length = some [.int .i64 p.1,.int .i64 p.2]:=by rw [hK1]; unfold cellsOf; simp
  have hb1:=A1.at hb
  have ia:=zEh H.length 1 n n k true .i64 (by omega) kn
  rw [Nat.mul_one,← hk] at ia
  have w1 : IntKind.i64.wrap (p.2 + 1) = p.2 + 1:=zAk (by omega) (by omega)
  have wr : zA3 K1 H.length k [.int .u8 (u8w (p.2 + 1))] = some (K1.set H.length (.rw (u8s (z.set k (u8w (p.2 + 1)))))):=by
   rw [zA2 hb1,if_pos ⟨by rw [zCu,hz]; simp; omega,rfl⟩,zBw,zJv]
  have cq2 : cellsOf (K1.set H.length (.rw (u8s (z.set k (u8w (p.2 + 1)))))) K.length = some [.int .i64 p.1,.int .i64 p.2]:=by rw [zHh _ _ _ _ (by omega)]; exact cq
  have hb2 : (K1.set H.length (.rw (u8s (z.set k (u8w (p.2 + 1))))))[H.length]? = some (.rw (u8s (z.set k (u8w (p.2 + 1))))):=zBe _ _ _ (by have:=A1.len; omega)
  have aw : ∀ X,Adds H (K1.set H.length X):=fun X=>(Fr.set (F:=(· = H.length)) K1 X rfl).old (aK.trans A1) fun x hx h=>by omega
  have uw : IntKind.u8.wrap (p.2 + 1) = u8w (p.2 + 1):=rfl
  have tk : p.1.toNat = k:=by omega
  have hK1:=hK1.symm
  rw [lo,tk]
  unfold l27x0
  unfold markV
  by_cases h : p.2 = 255
  ·have he : (p.2 == 255) = true:=by simp [h]
   have wr2 : zA3 (K1.set H.length (.rw (u8s (z.set k (u8w (p.2 + 1)))))) H.length k [.int .u8 255] = some (K1.set H.length (.rw (u8s (z.set k 255)))):=by
    rw [zA2 hb2,if_pos ⟨by rw [zCu,List.length_set,hz]; simp; omega,rfl⟩,zBw,zJv,List.set_set,List.set_set]
   have key:=ih (i + 1) (K1.set H.length (.rw (u8s (z.set k 255)))) (z.set k 255)
   rw [if_pos h]
   simp -implicitDefEqProofs (maxSteps:=5000000) only [go_sem,simprocAttr,itr,itq,hd,ix,hc,ht,hle,hK1,cq,w1,uw,ia,zAx,wr,cq2,he,wr2,e2]
   exact key _ _ _ _ _ _ _ _ _ _ _ _ _ _ _ _ _ _ _ _ (aw _) (zBe _ _ _ (by have:=A1.len; omega)) (by rw [List.length_set]; exact hz) (by omega)
  ·have he : (p.2 == 255) = false:=by simp [h]
   have key:=ih (i + 1) (K1.set H.length (.rw (u8s (z.set k (u8w (p.2 + 1)))))) (z.set k (u8w (p.2 + 1)))
   rw [if_neg h]
   simp -implicitDefEqProofs (maxSteps:=5000000) only [go_sem,simprocAttr,itr,itq,hd,ix,hc,ht,hle,hK1,cq,w1,uw,ia,zAx,wr,cq2,he,e2]
   exact key _ _ _ _ _ _ _ _ _ _ _ _ _ _ _ _ _ _ _ _ (aw _) hb2 (by rw [List.length_set]; exact hz) (by omega)
theorem zSz (H : zAc) : zBy (ty 1 false 1 [AV.int .u8 0]) (.int .i64 (n : Int)) (.int .i64 (n : Int)) H = some (.sl H.length 0 1 n n true,H ++ [.rw (u8s (List.replicate n 0))]):=by
 rw [zIf 1 1 n false [.int .u8 0] (by omega) (by omega) (by unfold roomy; omega)]
 unfold u8s
 simp [List.map_replicate]
set_option maxHeartbeats 4000000 in
theorem marksC : ∃ w K,(envL prog).call 27 [v,.int .i64 (n : Int)] H = some (w,K) ∧ Adds H K ∧ BS K w (zCj n l):=by
 have wl:=g.len
 have mk:=zSz g ll ok hn H
 obtain ⟨H1,hH1⟩ : ∃ H1,H1 = H ++ [ABlk.rw (u8s (List.replicate n 0))]:=⟨_,rfl⟩
 have A1 : Adds H H1:=⟨_,hH1⟩
 have l0:=marksL g ll ok hn (m:=l.length) (i:=0) (K:=H1) (z:=List.replicate n 0)
 rw [show ((0 : Nat) : Int) = 0 from rfl,List.drop_zero] at l0
 have hH1':=hH1.symm
 have key : Outs (runC (envL prog) (b27 (envL prog)) ([v,.int .i64 (n : Int)] ++ List.replicate (33 - [v,AV.int .i64 (n : Int)].length) .undef) H) fun e' t K=>(Adds H K ∧ K[H.length]? = some (.rw (u8s (zEx (List.replicate n 0) l)))) ∧ fin [.tmp 4] (some (e',t,K)) = some (.sl H.length 0 1 n n true,K):=by
  unfold b27
  generalize hQ : (fun (e' : Ex) (t : T) (K : zAc)=>(Adds H K ∧ K[H.length]? = some (.rw (u8s (zEx (List.replicate n 0) l)))) ∧ fin [.tmp 4] (some (e',t,K)) = some (AV.sl H.length 0 1 n n true,K)) = Q
  simp -implicitDefEqProofs (maxSteps:=5000000) only [go_sem,simprocAttr,itr,itq,zAi,mk,hH1',wl]
  unfold LP1 at l0
  generalize (envL prog).loop (runC (envL prog) (l27x0 (envL prog))) = L0 at l0 ⊢
  refine zAq (fun r=>seqR (zAt 0 r) _) (l0 _ _ _ _ _ _ _ _ _ _ _ _ _ _ _ _ _ _ _ _ _ _ _ _ _ _ _ _ _ A1 (by rw [hH1]; simp) (by simp) (by omega)) ?_
  rintro e t K ⟨rfl,hK,fv,rfl⟩
  simp -implicitDefEqProofs (maxSteps:=5000000) only [go_sem,simprocAttr,zAb]
  subst hQ
  refine ⟨hK,?_⟩
  simp -implicitDefEqProofs (maxSteps:=5000000) only [go_sem,simprocAttr]
 obtain ⟨e',t,K,hr,⟨aK,hb⟩,hf⟩:=key
 refine ⟨.sl H.length 0 1 n n true,K,?_,aK,?_⟩
 ·rw [c27,hr,hf]; exact zA6 (by simp [AV.under])
 ·have:=BS.block (l:=n) (e:=true) hb
  rw [zGc,List.length_replicate] at this
  unfold zCj
  rw [Int.toNat_natCast]; exact this
set_option maxHeartbeats 8000000 in
theorem placesL (x0 x2 x3 x4 x8 x9 x10 x38 : AV) : ∀ (m i : Nat) (K : zAc) (z : List Int) (j7 j11 j12 j13 j14 j15 j16 j17 j18 j19 j20 j21 j22 j23 j24 j25 j26 j27 j28 j29 j30 j31 j32 j33 j34 j35 j36 j37 : AV),Adds H K → (q : Nat) → H.length ≤ q → K[q]? = some (.rw (u8s z)) → z.length = n → i + m = l.length →
  Outs (LP1 l30x0 [x0,v,x2,x3,x4,.sl q 0 1 n n true,.int .i64 (i : Int),j7,x8,x9,x10,j11,j12,j13,j14,j15,j16,j17,j18,j19,j20,j21,j22,j23,j24,j25,j26,j27,j28,j29,j30,j31,j32,j33,j34,j35,j36,j37,x38] K) fun e t K'=>e = .exit 0 ∧ (Adds H K' ∧ K'[q]? = some (.rw (u8s (zEx z (l.drop i))))) ∧ ∃ fv : Nat → AV,t = [x0,v,x2,x3,x4,.sl q 0 1 n n true,(fv 6),(fv 7),x8,x9,x10,(fv 11),(fv 12),(fv 13),(fv 14),(fv 15),(fv 16),(fv 17),(fv 18),(fv 19),(fv 20),(fv 21),(fv 22),(fv 23),(fv 24),(fv 25),(fv 26),(fv 27),(fv 28),(fv 29),(fv 30),(fv 31),(fv 32),(fv 33),(fv 34),(fv 35),(fv 36),(fv 37),x38]:=by
 intro m
 obtain ⟨L0,hL0⟩ : ∃ L,L = LP1 l30x0:=⟨_,rfl⟩
 have lo:=zAp hL0
 have wl:=g.len
 rw [← hL0]
 induction m with
 | zero =>
  intro i K z j7 j11 j12 j13 j14 j15 j16 j17 j18 j19 j20 j21 j22 j23 j24 j25 j26 j27 j28 j29 j30 j31 j32 j33 j34 j35 j36 j37 aK q hq hb hz hi
  obtain rfl : i = l.length:=by omega
  have hd : decide ((l.length : Int) < (l.length : Int)) = false:=by simp
  rw [lo,List.drop_length]
  unfold l30x0
  simp -implicitDefEqProofs (maxSteps:=5000000) only [go_sem,simprocAttr,itr,itq,wl,hd,zAg,zAb]
  exact ⟨⟨aK,hb⟩,exF rfl⟩
 | succ m ih =>
  intro i K z j7 j11 j12 j13 j14 j15 j16 j17 j18 j19 j20 j21 j22 j23 j24 j25 j26 j27 j28 j29 j30 j31 j32 j33 j34 j35 j36 j37 aK q hq hb hz hi
  have hlt : i < l.length:=by omega
  have hd : decide ((i : Int) < (l.length : Int)) = true:=decide_eq_true (by omega)
  have e2 : IntKind.i64.wrap ((i : Int) + 1) = ((i + 1 : Nat) : Int):=by rw [zAk (by omega) (by omega)]; omega
  have hx:=List.getElem?_eq_getElem hlt
  have hm:=ok _ (List.getElem_mem hlt)
  rw [List.drop_eq_getElem_cons hlt,zJg]
  generalize l[i] = p at *
  obtain ⟨b2,c2,_,ix,hc0,r1,r2,ht,hle⟩:=g.idx hx
  have hc:=aK.cells hc0
  obtain ⟨k,hk⟩ : ∃ k : Nat,p.1 = k:=⟨p.1.toNat,by omega⟩
  have kn : k < n:=by omega
  have ia:=zEh q 1 n n k true .i64 (by omega) kn
  rw [Nat.mul_one,← hk] at ia
  have w1 : IntKind.i64.wrap (p.2 + 1) = p.2 + 1:=zAk (by omega) (by omega)
  have aw : ∀ X,Adds H (K.set q X):=fun X=>(Fr.set (F:=(· = q)) K X rfl).old aK fun x hx h=>by omega
  have uw : IntKind.u8.wrap (p.2 + 1) = u8w (p.2 + 1):=rfl
  have u5 : IntKind.u8.wrap 255 = 255:=by decide
  have tk : p.1.toNat = k:=by omega
  have wr : ∀ y,zA3 K q k [.int .u8 y] = some (K.set q (.rw (u8s (z.set k y)))):=fun y=>by
   rw [zA2 hb,if_pos ⟨by rw [zCu,hz]; simp; omega,rfl⟩,zBw,zJv]
  rw [lo,tk]
  unfold l30x0
  unfold markV
  by_cases h : p.2 = 255
  ·have he : (p.2 == 255) = true:=by simp [h]
   have key:=ih (i + 1) (K.set q (.rw (u8s (z.set k 255)))) (z.set k 255)
   rw [if_pos h]
   simp -implicitDefEqProofs (maxSteps:=5000000) only [go_sem,simprocAttr,itr,itq,wl,hd,ix,hc,r1,r2,w1,u5,ia,zAx,wr,he,e2]
   exact key _ _ _ _ _ _ _ _ _ _ _ _ _ _ _ _ _ _ _ _ _ _ _ _ _ _ _ _ (aw _) q hq (zBe _ _ _ (zA8 hb)) (by rw [List.length_set]; exact hz) (by omega)
  ·have he : (p.2 == 255) = false:=by simp [h]
   have key:=ih (i + 1) (K.set q (.rw (u8s (z.set k (u8w (p.2 + 1)))))) (z.set k (u8w (p.2 + 1)))
   rw [if_neg h]
   simp -implicitDefEqProofs (maxSteps:=5000000) only [go_sem,simprocAttr,itr,itq,wl,hd,ix,hc,r1,r2,w1,uw,ia,zAx,wr,he,e2]
   exact key _ _ _ _ _ _ _ _ _ _ _ _ _ _ _ _ _ _ _ _ _ _ _ _ _ _ _ _ (aw _) q hq (zBe _ _ _ (zA8 hb)) (by rw [List.length_set]; exact hz) (by omega)
set_option maxHeartbeats 4000000 in
theorem zSj (s w a r : Int) : ∃ u K,(envL prog).call 30 [.agg [.int .i64 (n : Int),.int .i64 s,.int .i64 w,.int .i64 a,.int .i64 r],v] H = some (u,K) ∧ Adds H K ∧ BS K u (zCj n l):=by
 obtain ⟨H0,hH0⟩ : ∃ H0,H0 = H ++ [ABlk.rw [.int .i64 (n : Int),.int .i64 s,.int .i64 w,.int .i64 a,.int .i64 r]]:=⟨_,rfl⟩
 have A0 : Adds H H0:=⟨_,hH0⟩
 have c0 : cellsOf H0 H.length = some [.int .i64 (n : Int),.int .i64 s,.int .i64 w,.int .i64 a,.int .i64 r]:=by rw [hH0]; unfold cellsOf; simp
 have mk:=zSz g ll ok hn H0
 obtain ⟨H1,hH1⟩ : ∃ H1,H1 = H0 ++ [ABlk.rw (u8s (List.replicate n 0))]:=⟨_,rfl⟩
 have A1 : Adds H0 H1:=⟨_,hH1⟩
 have l0:=placesL g ll ok hn (m:=l.length) (i:=0) (K:=H1) (z:=List.replicate n 0)
 rw [show ((0 : Nat) : Int) = 0 from rfl,List.drop_zero] at l0
 have hH1':=hH1.symm
 have hH0':=hH0.symm
 have lh : H0.length = H.length + 1:=by rw [hH0]; simp
 have key : Outs (runC (envL prog) (b30 (envL prog)) ([.agg [.int .i64 (n : Int),.int .i64 s,.int .i64 w,.int .i64 a,.int .i64 r],v] ++ List.replicate (39 - [AV.agg [.int .i64 (n : Int),.int .i64 s,.int .i64 w,.int .i64 a,.int .i64 r],v].length) .undef) H) fun e' t K=>(Adds H K ∧ K[H0.length]? = some (.rw (u8s (zEx (List.replicate n 0) l)))) ∧ fin [.tmp 4] (some (e',t,K)) = some (.sl H0.length 0 1 n n true,K):=by
  unfold b30
  generalize hQ : (fun (e' : Ex) (t : T) (K : zAc)=>(Adds H K ∧ K[H0.length]? = some (.rw (u8s (zEx (List.replicate n 0) l)))) ∧ fin [.tmp 4] (some (e',t,K)) = some (AV.sl H0.length 0 1 n n true,K)) = Q
  simp -implicitDefEqProofs (maxSteps:=5000000) only [go_sem,simprocAttr,itr,itq,zAi,hH0',c0,mk,hH1']
  unfold LP1 at l0
  generalize (envL prog).loop (runC (envL prog) (l30x0 (envL prog))) = L0 at l0 ⊢
  refine zAq (fun r=>seqR (zAt 0 r) _) (l0 _ _ _ _ _ _ _ _ _ _ _ _ _ _ _ _ _ _ _ _ _ _ _ _ _ _ _ _ _ _ _ _ _ _ _ _ (A0.trans A1) H0.length (by omega) (by rw [hH1]; simp) (by simp) (by omega)) ?_
  rintro e t K ⟨rfl,hK,fv,rfl⟩
  simp -implicitDefEqProofs (maxSteps:=5000000) only [go_sem,simprocAttr,zAb]
  subst hQ
  refine ⟨hK,?_⟩
  simp -implicitDefEqProofs (maxSteps:=5000000) only [go_sem,simprocAttr]
 obtain ⟨e',t,K,hr,⟨aK,hb⟩,hf⟩:=key
 refine ⟨.sl H0.length 0 1 n n true,K,?_,aK,?_⟩
 ·rw [c30,hr,hf]; exact zA6 (by simp [AV.under]; omega)
 ·have:=BS.block (l:=n) (e:=true) hb
  rw [zGc,List.length_replicate] at this
  unfold zCj
  rw [Int.toNat_natCast]; exact this
end
end Go.Proofs.Ythgflkfhjnbheaa.G14
end
section
namespace Go.Proofs.Ythgflkfhjnbheaa.G14
open Go Go.Proofs.Ythgflkfhjnbheaa.Eng
theorem zUb {K : zAc} {a : Nat} (vs : List (AV × List Int)) (ha : cellsOf K a = some (vs.map (·.1))) (hv : ∀ x ∈ vs,BS K x.1 x.2) (hl : (vs.map (·.2)).flatten.length ≤ 1000000) (hn : vs.length ≤ 100) : ∃ l K',(envL prog).call 24 [.sl a 0 1 vs.length vs.length true] K = some (l,K') ∧ Adds K K' ∧ GB K' K.length l (vs.map (·.2)).flatten:=by
 obtain ⟨Xs,hXs⟩ : ∃ Xs : List (AV × Nat × List AV),Xs = vs.map fun x=>(x.1,x.2.length,u8s x.2):=⟨_,rfl⟩
 have lx : Xs.length = vs.length:=by rw [hXs,List.length_map]
 have et : totU Xs = (vs.map (·.2)).flatten.length:=by
  rw [hXs]; unfold totU
  rw [List.length_flatten,List.map_map,List.map_map]
  congr 1
 have ec : catU Xs = u8s (vs.map (·.2)).flatten:=by
  rw [hXs]; unfold catU u8s
  rw [List.map_map,List.map_flatten,List.map_map]
  rfl
 obtain ⟨l,K',ho,e⟩:=concatU (H:=K) (a:=a) (Xs:=Xs) (by rw [ha,hXs,List.map_map]; rfl) (fun x hx=>by
  rw [hXs] at hx
  obtain ⟨y,hy,rfl⟩:=List.mem_map.1 hx
  exact (hv y hy).src) (by rw [et]; omega) (by omega)
 rw [lx] at e
 refine ⟨l,K',e,?_⟩
 rcases ho with ⟨h0,rfl,rfl⟩ | ⟨h0,rfl,rfl⟩
 ·refine ⟨Adds.refl _,.inl ⟨List.eq_nil_of_length_eq_zero (by rw [← et]; exact h0),rfl⟩⟩
 ·refine ⟨⟨_,rfl⟩,.inr ⟨fun h=>h0 (by rw [et,h]; rfl),K.length,Nat.le_refl _,by rw [et],by rw [ec]; simp⟩⟩
theorem GB.low {H : zAc} {B B' : Nat} {l : AV} {zs : List Int} (g : GB H B l zs) (h : B' ≤ B) : GB H B' l zs:=by
 rcases g with h | ⟨h0,b,hb,h2⟩
 ·exact .inl h
 ·exact .inr ⟨h0,b,by omega,h2⟩
section
variable {b s w a r : Int} {n : Nat} {H : zAc} {vd vs vp : AV} {S : StS} (g : StA H vd vs vp S) (fi : FitS S) (hn : n ≤ 1000) {q p3 : Nat} (hq : cellsOf H q = some [.int .i64 (n : Int),.int .i64 s,.int .i64 w,.int .i64 a,.int .i64 r]) (h3 : cellsOf H p3 = some [vd,vs,.int .i64 S.next,.int .i64 S.kind,.int .i64 S.pid,vp])
include g fi hn hq h3
set_option maxHeartbeats 4000000 in
theorem encL0 (lD : S.dirty.length ≤ 10000) (rD : ∀ d ∈ S.dirty,-1 ≤ d ∧ d ≤ 1000000) (x0 x1 x2 x3 x4 x5 x7 x9 x10 x11 x12 x13 x14 x15 x16 x17 x18 x19 x20 x21 x22 x23 x24 x25 x26 x27 x28 x29 x30 x31 x32 x33 x34 x35 x49 x50 x51 x52 x53 x54 x55 x56 x57 x58 x59 x60 x61 x62 x63 x64 x65 x66 x67 x68 x69 x70 x71 x72 x73 x74 x75 x76 x77 x78 x79 x80 x81 x82 x83 x84 x85 x86 x87 x88 : AV) : ∀ (m i : Nat) (K : zAc) (v : AV) (zs : List Int) (j8 j39 j40 j41 j42 j43 j44 j45 j46 j47 j48 : AV),Adds H K → GB K H.length v zs → zs.length + m ≤ 1000000 → i + m = S.dirty.length →
  Outs (LP1 l9x0 [x0,x1,x2,x3,x4,x5,v,x7,j8,x9,x10,x11,x12,x13,x14,x15,x16,x17,x18,x19,x20,x21,x22,x23,x24,x25,x26,x27,x28,x29,x30,x31,x32,x33,x34,x35,vd,.int .i64 (S.dirty.length : Int),.int .i64 (i : Int),j39,j40,j41,j42,j43,j44,j45,j46,j47,j48,x49,x50,x51,x52,x53,x54,x55,x56,x57,x58,x59,x60,x61,x62,x63,x64,x65,x66,x67,x68,x69,x70,x71,x72,x73,x74,x75,x76,x77,x78,x79,x80,x81,x82,x83,x84,x85,x86,x87,x88] K) fun e t K'=>e = .exit 0 ∧ Adds H K' ∧ ∃ fv : Nat → AV,t = [x0,x1,x2,x3,x4,x5,(fv 6),x7,(fv 8),x9,x10,x11,x12,x13,x14,x15,x16,x17,x18,x19,x20,x21,x22,x23,x24,x25,x26,x27,x28,x29,x30,x31,x32,x33,x34,x35,vd,.int .i64 (S.dirty.length : Int),(fv 38),(fv 39),(fv 40),(fv 41),(fv 42),(fv 43),(fv 44),(fv 45),(fv 46),(fv 47),(fv 48),x49,x50,x51,x52,x53,x54,x55,x56,x57,x58,x59,x60,x61,x62,x63,x64,x65,x66,x67,x68,x69,x70,x71,x72,x73,x74,x75,x76,x77,x78,x79,x80,x81,x82,x83,x84,x85,x86,x87,x88] ∧ GB K' H.length (fv 6) (zs ++ (S.dirty.drop i).map fun d=>u8w (d + 1)):=by
 intro m
 obtain ⟨L0,hL0⟩ : ∃ L,L = LP1 l9x0:=⟨_,rfl⟩
 have lo:=zAp hL0
 rw [← hL0]
 induction m with
 | zero =>
  intro i K v zs j8 j39 j40 j41 j42 j43 j44 j45 j46 j47 j48 aK gv hz hi
  obtain rfl : i = S.dirty.length:=by omega
  have hd : decide ((S.dirty.length : Int) < (S.dirty.length : Int)) = false:=by simp
  rw [lo,List.drop_length,List.map_nil,List.append_nil]
  unfold l9x0
  simp -implicitDefEqProofs (maxSteps:=5000000) only [go_sem,simprocAttr,hd,zAg,zAb]
  exact ⟨aK,exF2 rfl gv⟩
 | succ m ih =>
  intro i K v zs j8 j39 j40 j41 j42 j43 j44 j45 j46 j47 j48 aK gv hz hi
  have hlt : i < S.dirty.length:=by omega
  have hd : decide ((i : Int) < (S.dirty.length : Int)) = true:=decide_eq_true (by omega)
  have e2 : IntKind.i64.wrap ((i : Int) + 1) = ((i + 1 : Nat) : Int):=by rw [zAk (by omega) (by omega)]; omega
  have hx:=List.getElem?_eq_getElem hlt
  have rx:=rD _ (List.getElem_mem hlt)
  rw [List.drop_eq_getElem_cons hlt,List.map_cons]
  generalize S.dirty[i] = d at *
  obtain ⟨ad,ix,ld⟩:=(aK.is g.d).idx hx .i64
  have w1 : IntKind.i64.wrap (d + 1) = d + 1:=zAk (by omega) (by omega)
  have uw : IntKind.u8.wrap (d + 1) = u8w (d + 1):=rfl
  obtain ⟨K1,hK1⟩ : ∃ K1,K1 = K ++ [ABlk.rw [.int .u8 (u8w (d + 1))]]:=⟨_,rfl⟩
  have A1 : Adds K K1:=⟨_,hK1⟩
  have src : Src 1 K1 (.sl K.length 0 1 1 1 true) [u8w (d + 1)].length (u8s [u8w (d + 1)]):=Src.block (by rw [hK1]; unfold cellsOf; simp [u8s]) rfl rfl
  obtain ⟨v',K2,a2,g2,_,_,ea⟩:=GB.more (d:=ty 1 false 1 [.int .u8 0]) rfl rfl (P:=H) (H:=K1) (aK.trans A1) (GB.fr (Fr.adds A1 (fun _=>False)) gv fun _ _ h=>h) src (by simp; omega)
  have hK1:=hK1.symm
  have key:=ih (i + 1) K2 v' (zs ++ [u8w (d + 1)])
  rw [List.append_assoc,List.singleton_append] at key
  rw [lo]
  unfold l9x0
  simp -implicitDefEqProofs (maxSteps:=5000000) only [go_sem,simprocAttr,itr,itq,hd,ix,ld,w1,uw,hK1,ea,e2]
  exact key _ _ _ _ _ _ _ _ _ _ _ a2 g2 (by simp; omega) (by omega)
set_option maxHeartbeats 16000000 in
theorem encL1 (ok : ∀ x ∈ S.snaps,Mrk n x.tb) (x0 x1 x4 x5 x7 x8 x11 x12 x13 x14 x15 x16 x17 x18 x19 x20 x21 x22 x23 x24 x25 x26 x27 x28 x29 x30 x31 x32 x33 x34 x35 x36 x37 x38 x39 x40 x41 x42 x43 x44 x45 x46 x47 x48 x81 x82 x83 x84 x85 x86 x87 x88 : AV) : ∀ (m i : Nat) (K : zAc) (v : AV) (zs : List Int) (j9 j10 j50 j51 j52 j53 j54 j55 j56 j57 j58 j59 j60 j61 j62 j63 j64 j65 j66 j67 j68 j69 j70 j71 j72 j73 j74 j75 j76 j77 j78 j79 j80 : AV),Adds H K → GB K H.length v zs → zs.length + 3000 * m ≤ 500000 → i + m = 8 →
  Outs (LP1 l9x1 [x0,x1,.ptr q 0,.ptr p3 0,x4,x5,v,x7,x8,j9,j10,x11,x12,x13,x14,x15,x16,x17,x18,x19,x20,x21,x22,x23,x24,x25,x26,x27,x28,x29,x30,x31,x32,x33,x34,x35,x36,x37,x38,x39,x40,x41,x42,x43,x44,x45,x46,x47,x48,.int .i64 (i : Int),j50,j51,j52,j53,j54,j55,j56,j57,j58,j59,j60,j61,j62,j63,j64,j65,j66,j67,j68,j69,j70,j71,j72,j73,j74,j75,j76,j77,j78,j79,j80,x81,x82,x83,x84,x85,x86,x87,x88] K) fun e t K'=>e = .exit 2 ∧ Adds H K' ∧ ∃ fv : Nat → AV,t = [x0,x1,.ptr q 0,.ptr p3 0,x4,x5,(fv 6),x7,x8,(fv 9),(fv 10),x11,x12,x13,x14,x15,x16,x17,x18,x19,x20,x21,x22,x23,x24,x25,x26,x27,x28,x29,x30,x31,x32,x33,x34,x35,x36,x37,x38,x39,x40,x41,x42,x43,x44,x45,x46,x47,x48,(fv 49),(fv 50),(fv 51),(fv 52),(fv 53),(fv 54),(fv 55),(fv 56),(fv 57),(fv 58),(fv 59),(fv 60),(fv 61),(fv 62),(fv 63),(fv 64),(fv 65),(fv 66),(fv 67),(fv 68),(fv 69),(fv 70),(fv 71),(fv 72),(fv 73),(fv 74),(fv 75),(fv 76),(fv 77),(fv 78),(fv 79),(fv 80),x81,x82,x83,x84,x85,x86,x87,x88] ∧ GB K' H.length (fv 6) (zs ++ zBt n m (S.snaps.drop i)):=by
 intro m
 obtain ⟨L0,hL0⟩ : ∃ L,L = LP1 l9x1:=⟨_,rfl⟩
 have lo:=zAp hL0
 have fl:=fi.s.1
 have wl:=g.s.len
 rw [← hL0]
 induction m with
 | zero =>
  intro i K v zs j9 j10 j50 j51 j52 j53 j54 j55 j56 j57 j58 j59 j60 j61 j62 j63 j64 j65 j66 j67 j68 j69 j70 j71 j72 j73 j74 j75 j76 j77 j78 j79 j80 aK gv hz hi
  obtain rfl : i = 8:=by omega
  have hd : decide (((8 : Nat) : Int) < 8) = false:=rfl
  rw [lo,show zBt n 0 (S.snaps.drop 8) = [] by unfold zBt; rfl,List.append_nil]
  unfold l9x1
  simp -implicitDefEqProofs (maxSteps:=5000000) only [go_sem,simprocAttr,hd,zAg,zAb]
  exact ⟨aK,exF2 rfl gv⟩
 | succ m ih =>
  intro i K v zs j9 j10 j50 j51 j52 j53 j54 j55 j56 j57 j58 j59 j60 j61 j62 j63 j64 j65 j66 j67 j68 j69 j70 j71 j72 j73 j74 j75 j76 j77 j78 j79 j80 aK gv hz hi
  have hd : decide ((i : Int) < 8) = true:=decide_eq_true (by omega)
  have e2 : IntKind.i64.wrap ((i : Int) + 1) = ((i + 1 : Nat) : Int):=by rw [zAk (by omega) (by omega)]; omega
  obtain ⟨vn,K1,A1,bn,en⟩:=Bt.newA (n : Int) K
  have cn:=bn.cell
  have cg:=(aK.trans A1).cells hq
  have cg0:=aK.cells hq
  have slot : ∀ (x : SnS) (vc vt : AV) (K2 : zAc),Adds K1 K2 → cellsOf K2 K1.length = some [.int .i64 x.id,vc,vt] → BS K2 vc x.ch → IsP K2 vt x.tb → Mrk n x.tb → x.ch.length ≤ 1000 → x.tb.length ≤ 1000 → ∃ vu vm w K3 K4 K6,(envL prog).call 25 [.int .u64 (IntKind.u64.wrap x.id),.int .i64 4] K2 = some (vu,K3) ∧ Adds K2 K3 ∧ (envL prog).call 27 [vt,.int .i64 (n : Int)] K3 = some (vm,K4) ∧ Adds K3 K4 ∧ (zA0 vu = some [vu] ∧ vu.isCell = true) ∧ (zA0 vc = some [vc] ∧ vc.isCell = true) ∧ (zA0 vt = some [vt] ∧ vt.isCell = true) ∧ (zA0 vm = some [vm] ∧ vm.isCell = true) ∧ (zA0 v = some [v] ∧ v.isCell = true) ∧ (envL prog).call 24 [.sl K4.length 0 1 4 4 true] (K4 ++ [.rw [v,vu,vc,vm]]) = some (w,K6) ∧ Adds H K6 ∧ GB K6 H.length w (zs ++ zC3 n x):=by
   intro x vc vt K2 A2 hp bc pt mk lc lt
   obtain ⟨vu,K3,A3,g3,e3⟩:=Pg.putC (IntKind.u64.wrap x.id) (k:=4) (by omega) (by omega) K2
   obtain ⟨vm,K4,e4,A4,b4⟩:=marksC (pt.adds A3) lt mk hn
   obtain ⟨K5,hK5⟩ : ∃ K5,K5 = K4 ++ [ABlk.rw [v,vu,vc,vm]]:=⟨_,rfl⟩
   have A5 : Adds K4 K5:=⟨_,hK5⟩
   have B0 : BS K5 v zs:=(((((A1.trans A2).trans A3).trans A4).trans A5)).bs gv.bs
   have B1 : BS K5 vu (putS 4 (IntKind.u64.wrap x.id)):=(A4.trans A5).bs g3.bs
   have B2 : BS K5 vc x.ch:=((A3.trans A4).trans A5).bs bc
   have B3 : BS K5 vm (zCj n x.tb):=A5.bs b4
   have ef : ([(v,zs),(vu,putS 4 (IntKind.u64.wrap x.id)),(vc,x.ch),(vm,zCj n x.tb)].map (·.2)).flatten = zs ++ zC3 n x:=by unfold zC3; simp
   obtain ⟨w,K6,e6,A6,g6⟩:=zUb (K:=K5) (a:=K4.length) [(v,zs),(vu,putS 4 (IntKind.u64.wrap x.id)),(vc,x.ch),(vm,zCj n x.tb)] (by rw [hK5]; unfold cellsOf; simp) (fun y hy=>by
    simp only [List.mem_cons,List.not_mem_nil,or_false] at hy
    rcases hy with rfl | rfl | rfl | rfl
    ·exact B0
    ·exact B1
    ·exact B2
    ·exact B3) (by rw [ef]; unfold zC3; simp only [List.length_append,zA5,zCi]; omega) (by simp)
   rw [ef] at g6
   have AA:=(((((aK.trans A1).trans A2).trans A3).trans A4).trans A5)
   rw [hK5] at e6
   exact ⟨vu,vm,w,K3,K4,K6,e3,A3,e4,A4,g3.cells,bc.cell,pt.cell,b4.cell,gv.cells,e6,AA.trans A6,GB.low g6 AA.len⟩
  rw [lo]
  unfold l9x1
  by_cases hlt : i < S.snaps.length
  ·have dl : decide ((i : Int) < (S.snaps.length : Int)) = true:=decide_eq_true (by omega)
   have hx:=List.getElem?_eq_getElem hlt
   have ft:=zCl fi.s hx
   have ox:=ok _ (List.getElem_mem hlt)
   rw [List.drop_eq_getElem_cons hlt,zBt]
   generalize S.snaps[i] = x at *
   obtain ⟨bb,cs,vc,vt,sb,ix,hc0,h1,h2,h3',ht,hle,hbs,hip⟩:=g.s.idx hx
   obtain ⟨K2,hK2⟩ : ∃ K2,K2 = K1 ++ [ABlk.rw [.int .i64 x.id,vc,vt]]:=⟨_,rfl⟩
   have A2 : Adds K1 K2:=⟨_,hK2⟩
   have AH:=(aK.trans A1).trans A2
   obtain ⟨vu,vm,w',K3,K4,K6,e3,A3,e4,A4,cu,cc,ct,cm,cv,e6,A6,g6⟩:=slot x vc vt K2 A2 (by rw [hK2]; unfold cellsOf; simp) (AH.bs hbs) (hip.adds AH) ox ft.lc ft.lt
   have c3:=AH.cells h3
   have c30:=(aK.trans A1).cells h3
   have c31 : ∀ X,cellsOf (K1 ++ [X]) p3 = some [vd,vs,.int .i64 S.next,.int .i64 S.kind,.int .i64 S.pid,vp]:=fun X=>zBp c30
   have hcx : ∀ X,cellsOf (K1 ++ [X]) bb = some cs:=fun X=>zBp ((aK.trans A1).cells hc0)
   have cg2:=AH.cells hq
   have cx : cellsOf K2 K1.length = some [.int .i64 x.id,vc,vt]:=by rw [hK2]; unfold cellsOf; simp
   have cg3:=A3.cells cg2
   have cg4:=A4.cells cg3
   have cx3:=A3.cells cx
   have cx4:=A4.cells cx3
   have hK2:=hK2.symm
   have key:=ih (i + 1) K6 w' (zs ++ zC3 n x)
   rw [List.append_assoc] at key
   simp -implicitDefEqProofs (maxSteps:=5000000) only [go_sem,simprocAttr,itr,itq,hd,cg0,en,cn.1,cn.2,c31,wl,dl,ix,hcx,ht,hle,zAe,cc.1,cc.2,ct.1,ct.2,hK2,cx,cg2,cg3,cg4,cx3,cx4,e3,e4,cu.1,cu.2,cm.1,cm.2,cv.1,cv.2,e6,e2]
   exact key _ _ _ _ _ _ _ _ _ _ _ _ _ _ _ _ _ _ _ _ _ _ _ _ _ _ _ _ _ _ _ _ _ A6 g6 (by unfold zC3; simp only [List.length_append,zA5,zCi]; have:=ft.lc; omega) (by omega)
  ·have dl : decide ((i : Int) < (S.snaps.length : Int)) = false:=decide_eq_false (by omega)
   have hdr : S.snaps.drop i = []:=List.drop_eq_nil_of_le (by omega)
   have hdr2 : S.snaps.drop (i + 1) = []:=List.drop_eq_nil_of_le (by omega)
   have lnw:=Bt.newN_le (n : Int)
   rw [hdr,zBt]
   obtain ⟨K2,hK2⟩ : ∃ K2,K2 = K1 ++ [ABlk.rw [.int .i64 0,vn,.nilSl]]:=⟨_,rfl⟩
   have A2 : Adds K1 K2:=⟨_,hK2⟩
   have AH:=(aK.trans A1).trans A2
   obtain ⟨vu,vm,w',K3,K4,K6,e3,A3,e4,A4,cu,cc,ct,cm,cv,e6,A6,g6⟩:=slot (zFb n) vn .nilSl K2 A2 (by rw [hK2]; unfold cellsOf; simp; rfl) (A2.bs bn) (.inl ⟨rfl,rfl⟩) (fun p hp=>by cases hp) (by unfold zFb; simp; omega) (by unfold zFb; simp)
   have c3:=AH.cells h3
   have cg2:=AH.cells hq
   have cx : cellsOf K2 K1.length = some [.int .i64 0,vn,.nilSl]:=by rw [hK2]; unfold cellsOf; simp
   rw [show (zFb (n : Int)).id = 0 from rfl] at e3
   have cg3:=A3.cells cg2
   have cg4:=A4.cells cg3
   have cx3:=A3.cells cx
   have cx4:=A4.cells cx3
   have hK2:=hK2.symm
   have key:=ih (i + 1) K6 w' (zs ++ zC3 n (zFb n))
   rw [List.append_assoc,hdr2] at key
   simp -implicitDefEqProofs (maxSteps:=5000000) only [go_sem,simprocAttr,itr,itq,hd,cg0,en,cn.1,cn.2,wl,dl,zAe,hK2,c3,cx,cg2,cg3,cg4,cx3,cx4,e3,e4,cu.1,cu.2,cm.1,cm.2,cv.1,cv.2,e6,e2]
   exact key _ _ _ _ _ _ _ _ _ _ _ _ _ _ _ _ _ _ _ _ _ _ _ _ _ _ _ _ _ _ _ _ _ A6 g6 (by unfold zC3 zFb; simp only [List.length_append,zA5,zCi,List.length_replicate]; omega) (by omega)
end
end Go.Proofs.Ythgflkfhjnbheaa.G14
end
section
namespace Go.Proofs.Ythgflkfhjnbheaa.G14
open Go Go.Proofs.Ythgflkfhjnbheaa.Eng
theorem zOr {n : Nat} {a : Int} (ha : a ≤ 200) {L : List SnS} (G : GoodC n a L) : ∀ x ∈ L,Mrk n x.tb:=fun x hx p hp=>by
 have:=(G.one x hx).tb.rng p hp
 omega
theorem zL0 {n : Nat} {m a : Int} {S : StS} (G : GoodT n m a S) : Mrk n S.pairs:=fun p hp=>by
 have h1:=G.pr p hp
 obtain ⟨h2,h3⟩:=G.pm p hp
 omega
section
variable {b s w a r : Int} {H : zAc} {vd vs vp : AV} {S : StS} (g : StA H vd vs vp S) (fi : FitS S) (lD : S.dirty.length ≤ 9223372036854775807)
include g fi lD
set_option maxHeartbeats 4000000 in
theorem encBad (hg : (Gm.goodB b s w a r && zCp b s w a S) = false) : (envL prog).call 9 [.agg [.int .i64 b,.int .i64 s,.int .i64 w,.int .i64 a,.int .i64 r],.agg [vd,vs,.int .i64 S.next,.int .i64 S.kind,.int .i64 S.pid,vp]] H = some (.tup [.nilSl,.int .i64 11],H):=by
 have cd:=IS.cell g.d
 have cc:=g.s.cell
 have cp:=g.p.cell
 obtain ⟨H1,hH1⟩ : ∃ H1,H1 = H ++ [ABlk.rw [.int .i64 b,.int .i64 s,.int .i64 w,.int .i64 a,.int .i64 r],.rw [vd,vs,.int .i64 S.next,.int .i64 S.kind,.int .i64 S.pid,vp]]:=⟨_,rfl⟩
 have A1 : Adds H H1:=⟨_,hH1⟩
 have c0 : cellsOf H1 H.length = some [.int .i64 b,.int .i64 s,.int .i64 w,.int .i64 a,.int .i64 r]:=by rw [hH1]; unfold cellsOf; simp
 have c1 : cellsOf H1 (H.length + 1) = some [vd,vs,.int .i64 S.next,.int .i64 S.kind,.int .i64 S.pid,vp]:=by rw [hH1]; unfold cellsOf; simp
 have eg:=zOh (b:=b) (s:=s) (w:=w) (a:=a) (r:=r) (g.adds A1) fi lD
 rw [hg] at eg
 have tr : trim H (some (.tup [.nilSl,.int .i64 11],H1)) = some (.tup [.nilSl,.int .i64 11],H):=A1.trimS rfl
 have hH1:=hH1.symm
 rw [c9]
 unfold b9
 simp -implicitDefEqProofs (maxSteps:=5000000) only [go_sem,simprocAttr,itr,itq,zAe,cd.1,cd.2,cc.1,cc.2,cp.1,cp.2,hH1,c0,c1,eg,tr]
set_option maxHeartbeats 16000000 in
theorem encC (hg : (Gm.goodB b s w a r && zCp b s w a S) = true) : ∃ v K,(envL prog).call 9 [.agg [.int .i64 b,.int .i64 s,.int .i64 w,.int .i64 a,.int .i64 r],.agg [vd,vs,.int .i64 S.next,.int .i64 S.kind,.int .i64 S.pid,vp]] H = some (.tup [v,.int .i64 0],K) ∧ Adds H K ∧ GB K H.length v (encT b S):=by
 have hg2:=hg
 rw [Bool.and_eq_true] at hg2
 have gg:=zDb hg2.1
 have G:=zDm gg.b1 gg.a1.2 (fun x hx=>(fi.s.2 x hx).u8) hg2.2
 obtain ⟨n,rfl⟩ : ∃ n : Nat,b = n:=⟨b.toNat,by have:=gg.b1; omega⟩
 have hn : n ≤ 1000:=by have:=gg.b1; omega
 obtain ⟨sw,hsw,sw1,sw2⟩:=gg.sw
 have ldD : S.dirty.length ≤ 32:=by have:=G.dl; omega
 have cd:=IS.cell g.d
 have cc:=g.s.cell
 have cp:=g.p.cell
 obtain ⟨H1,hH1⟩ : ∃ H1,H1 = H ++ [ABlk.rw [.int .i64 n,.int .i64 s,.int .i64 w,.int .i64 a,.int .i64 r],.rw [vd,vs,.int .i64 S.next,.int .i64 S.kind,.int .i64 S.pid,vp]]:=⟨_,rfl⟩
 have A1 : Adds H H1:=⟨_,hH1⟩
 have c0 : cellsOf H1 H.length = some [.int .i64 n,.int .i64 s,.int .i64 w,.int .i64 a,.int .i64 r]:=by rw [hH1]; unfold cellsOf; simp
 have c1 : cellsOf H1 (H.length + 1) = some [vd,vs,.int .i64 S.next,.int .i64 S.kind,.int .i64 S.pid,vp]:=by rw [hH1]; unfold cellsOf; simp
 have g1:=g.adds A1
 have eg:=zOh (b:=n) (s:=s) (w:=w) (a:=a) (r:=r) g1 fi lD
 rw [hg] at eg
 have ws:=g1.s.len
 have wd:=g1.d.len
 obtain ⟨H2,hH2⟩ : ∃ H2,H2 = H1 ++ [ABlk.rw [.int .u8 (u8w S.snaps.length),.int .u8 (u8w S.kind)]]:=⟨_,rfl⟩
 have A2 : Adds H1 H2:=⟨_,hH2⟩
 obtain ⟨v1,K3,A3,g3,e3⟩:=Pg.putC (IntKind.u64.wrap S.next) (k:=4) (by omega) (by omega) H2
 obtain ⟨v2,K4,A4,g4,e4⟩:=Pg.putC (IntKind.u64.wrap S.pid) (k:=4) (by omega) (by omega) K3
 rw [show ((4 : Nat) : Int) = 4 from rfl] at e3 e4
 obtain ⟨K5,hK5⟩ : ∃ K5,K5 = K4 ++ [ABlk.rw [v1,.sl H1.length 0 1 2 2 true,v2]]:=⟨_,rfl⟩
 have A5 : Adds K4 K5:=⟨_,hK5⟩
 have bk : BS H2 (.sl H1.length 0 1 2 2 true) [u8w S.snaps.length,u8w S.kind]:=BS.block (zs:=[u8w S.snaps.length,u8w S.kind]) (by rw [hH2]; simp [u8s])
 obtain ⟨v6,K6,e6,A6,g6⟩:=zUb (K:=K5) (a:=K4.length) [(v1,putS 4 (IntKind.u64.wrap S.next)),(.sl H1.length 0 1 2 2 true,[u8w S.snaps.length,u8w S.kind]),(v2,putS 4 (IntKind.u64.wrap S.pid))] (by rw [hK5]; unfold cellsOf; simp) (fun y hy=>by
  simp only [List.mem_cons,List.not_mem_nil,or_false] at hy
  rcases hy with rfl | rfl | rfl
  ·exact (A4.trans A5).bs g3.bs
  ·exact ((A3.trans A4).trans A5).bs bk
  ·exact A5.bs g4.bs) (by simp [zA5]) (by simp)
 have ef : ([(v1,putS 4 (IntKind.u64.wrap S.next)),(AV.sl H1.length 0 1 2 2 true,[u8w S.snaps.length,u8w S.kind]),(v2,putS 4 (IntKind.u64.wrap S.pid))].map (·.2)).flatten = putS 4 (IntKind.u64.wrap S.next) ++ ([u8w S.snaps.length,u8w S.kind] ++ putS 4 (IntKind.u64.wrap S.pid)):=by simp
 rw [ef] at g6
 rw [hK5] at e6
 have e6 : (envL prog).call 24 [.sl K4.length 0 1 3 3 true] (K4 ++ [ABlk.rw [v1,.sl H1.length 0 1 2 2 true,v2]]) = some (v6,K6):=e6
 have B6:=(((A2.trans A3).trans A4).trans A5).trans A6
 have g6 : GB K6 H1.length v6 _:=GB.low g6 (((A2.trans A3).trans A4).trans A5).len
 have l0:=encL0 g1 fi hn c0 c1 (by omega) (fun d hd=>by have:=G.dr d hd; omega) (m:=S.dirty.length) (i:=0) (K:=K6) (v:=v6)
 have l1:=fun K v=>encL1 g1 fi hn c0 c1 (zOr gg.a1.2 G.sn) (m:=8) (i:=0) (K:=K) (v:=v)
 rw [show ((0 : Nat) : Int) = 0 from rfl,List.drop_zero] at l0
 simp only [show ((0 : Nat) : Int) = 0 from rfl,List.drop_zero] at l1
 have d1 : ∀ {K},Adds H1 K → cellsOf K (H.length + 1) = some [vd,vs,.int .i64 S.next,.int .i64 S.kind,.int .i64 S.pid,vp]:=fun a=>a.cells c1
 have d0 : ∀ {K},Adds H1 K → cellsOf K H.length = some [.int .i64 n,.int .i64 s,.int .i64 w,.int .i64 a,.int .i64 r]:=fun a=>a.cells c0
 have d13:=d1 (A2.trans A3)
 have d14:=d1 ((A2.trans A3).trans A4)
 have d16:=d1 B6
 have d12:=d1 A2
 have u1 : IntKind.u8.wrap (S.snaps.length : Int) = u8w S.snaps.length:=rfl
 have u2 : IntKind.u8.wrap S.kind = u8w S.kind:=rfl
 have cv1:=g3.cells
 have cv2:=g4.cells
 have hH1':=hH1.symm
 have hH2':=hH2.symm
 have key : Outs (runC (envL prog) (b9 (envL prog)) ([.agg [.int .i64 n,.int .i64 s,.int .i64 w,.int .i64 a,.int .i64 r],.agg [vd,vs,.int .i64 S.next,.int .i64 S.kind,.int .i64 S.pid,vp]] ++ List.replicate (89 - [AV.agg [.int .i64 n,.int .i64 s,.int .i64 w,.int .i64 a,.int .i64 r],.agg [vd,vs,.int .i64 S.next,.int .i64 S.kind,.int .i64 S.pid,vp]].length) .undef) H) fun e' t K=>∃ v,Adds H K ∧ GB K H.length v (encT n S) ∧ fin [.tmp 4,.tmp 5] (some (e',t,K)) = some (.tup [v,.int .i64 0],K):=by
  unfold b9
  generalize hQ : (fun (e' : Ex) (t : T) (K : zAc)=>∃ v,Adds H K ∧ GB K H.length v (encT n S) ∧ fin [.tmp 4,.tmp 5] (some (e',t,K)) = some (AV.tup [v,.int .i64 0],K)) = Q
  simp -implicitDefEqProofs (maxSteps:=5000000) only [go_sem,simprocAttr,itr,itq,zAi,zAe,cd.1,cd.2,cc.1,cc.2,cp.1,cp.2,hH1',c0,c1,eg,ws,u1,u2,hH2',d12,e3,d13,e4,d14,cv1.1,cv1.2,cv2.1,cv2.2,e6,d16,wd]
  unfold LP1 at l0
  generalize (envL prog).loop (runC (envL prog) (l9x0 (envL prog))) = L0 at l0 ⊢
  refine zAq (fun r=>seqR (zAt 0 r) _) (l0 _ _ _ _ _ _ _ _ _ _ _ _ _ _ _ _ _ _ _ _ _ _ _ _ _ _ _ _ _ _ _ _ _ _ _ _ _ _ _ _ _ _ _ _ _ _ _ _ _ _ _ _ _ _ _ _ _ _ _ _ _ _ _ _ _ _ _ _ _ _ _ _ _ _ _ _ _ _ _ _ _ _ _ _ _ _ B6 g6 (by simp [zA5]; omega) (by omega)) ?_
  rintro e t K7 ⟨rfl,A7,fv,rfl,g7⟩
  have l1:=l1 K7 (fv 6)
  simp -implicitDefEqProofs (maxSteps:=5000000) only [go_sem,simprocAttr,itr,itq,zAi]
  unfold LP1 at l1
  generalize (envL prog).loop (runC (envL prog) (l9x1 (envL prog))) = L1 at l1 ⊢
  refine zAq (fun r=>seqR (zAt 2 r) _) (l1 _ _ _ _ _ _ _ _ _ _ _ _ _ _ _ _ _ _ _ _ _ _ _ _ _ _ _ _ _ _ _ _ _ _ _ _ _ _ _ _ _ _ _ _ _ _ _ _ _ _ _ _ _ _ _ _ _ _ _ _ _ _ _ _ _ _ _ _ _ _ _ _ _ _ _ _ _ _ _ _ _ _ _ _ _ _ A7 g7 (by simp only [List.length_append,zA5,List.length_cons,List.length_nil,List.length_map]; omega) (by first | trivial | omega)) ?_
  rintro e t K8 ⟨rfl,A8,fw,rfl,g8⟩
  obtain ⟨vm,K9,e9,A9,b9⟩:=marksC ((g1.adds A8).p) fi.p (zL0 G) hn
  have d18:=d1 A8
  have d08:=d0 A8
  have g9 : GB K9 H1.length (fw 6) _:=GB.fr (Fr.adds A9 (fun _=>False)) g8 fun _ _ h=>h
  have el:=zE7 G gg.a1.2
  obtain ⟨vz,KZ,AZ,gz,_,_,ez⟩:=GB.more (d:=ty 1 false 1 [.int .u8 0]) rfl rfl (P:=H1) (H:=K9) (A8.trans A9) g9 b9.src (by
   have:=Bt.newN_le (n : Int)
   have q : (putS 4 (IntKind.u64.wrap S.next) ++ ([u8w S.snaps.length,u8w S.kind] ++ putS 4 (IntKind.u64.wrap S.pid)) ++ S.dirty.map (fun d=>u8w (d + 1)) ++ zBt n 8 S.snaps ++ zCj n S.pairs) = encT n S:=by unfold encT; simp only [List.append_assoc]
   rw [← List.length_append,q,el]; omega)
  have q : (putS 4 (IntKind.u64.wrap S.next) ++ ([u8w S.snaps.length,u8w S.kind] ++ putS 4 (IntKind.u64.wrap S.pid)) ++ S.dirty.map (fun d=>u8w (d + 1)) ++ zBt n 8 S.snaps ++ zCj n S.pairs) = encT n S:=by unfold encT; simp only [List.append_assoc]
  rw [q] at gz
  simp -implicitDefEqProofs (maxSteps:=5000000) only [go_sem,simprocAttr,itr,itq,d18,d08,e9,ez,zAb]
  subst hQ
  refine ⟨vz,A1.trans AZ,GB.low gz A1.len,?_⟩
  simp -implicitDefEqProofs (maxSteps:=5000000) only [go_sem,simprocAttr]
 obtain ⟨e',t,K,hr,v,aK,gz,hf⟩:=key
 refine ⟨v,K,?_,aK,gz⟩
 rw [c9,hr,hf]
 have hu:=gz.under (fun e=>by have:=congrArg List.length e; rw [zE7 G gg.a1.2] at this; simp at this)
 exact zA6 (by simp [AV.under,zBc,hu])
end
end Go.Proofs.Ythgflkfhjnbheaa.G14
end
section
namespace Go.Proofs.Ythgflkfhjnbheaa.G14
open Go Go.Proofs.Ythgflkfhjnbheaa.Eng
theorem GB.lt {H : zAc} {B : Nat} {l : AV} {zs : List Int} (g : GB H B l zs) : ∀ b,slb l = some b → B ≤ b ∧ b < H.length:=by
 rcases g with ⟨rfl,rfl⟩ | ⟨_,b,hb,rfl,h⟩
 ·intro b h; cases h
 ·intro b' h2; injection h2 with h2; subst h2; exact ⟨hb,zA8 h⟩
theorem GB.over {H : zAc} {B n : Nat} {l : AV} {zs : List Int} (g : GB H B l zs) (h : l.under n = false) : ∀ b,slb l = some b → n ≤ b:=by
 rcases g with ⟨rfl,rfl⟩ | ⟨_,b,hb,rfl,_⟩
 ·intro b h; cases h
 ·intro b' h2; injection h2 with h2; subst h2
  simp [AV.under] at h; exact h
theorem app_ex {H K : zAc} (A : Adds H K) {b m : Nat} {y : AV} {zs ys : List Int} (hb : K[b]? = some (.rw (u8s zs))) (s : Src 1 K y ys.length (u8s ys)) (h0 : ys ≠ []) (hm : zs.length = m) (hl : zs.length + ys.length ≤ 1000000) : ∃ v' K',app (ty 1 false 1 [.int .u8 0]) (.sl b 0 1 m m true) y K = some (v',K') ∧ Adds K K' ∧ GB K' H.length v' (zs ++ ys):=by
 have hp:=List.length_pos_iff.2 h0
 refine ⟨.sl K.length 0 1 (m + ys.length) (m + ys.length) false,K ++ [.rw (u8s zs ++ u8s ys)],?_,⟨_,rfl⟩,.inr ⟨by simp [h0],K.length,A.len,by rw [List.length_append,hm],by simp [u8s]⟩⟩
 unfold app
 rw [s.sl]
 simp only [Option.bind_some,show (ty 1 false 1 [AV.int .u8 0]).size = 1 from rfl,s.cells]
 unfold zB6
 simp only [show (ty 1 false 1 [AV.int .u8 0]).size = 1 from rfl,show (ty 1 false 1 [AV.int .u8 0]).bytes = 1 from rfl]
 have rd:=zNc hb (off:=0) (n:=m * 1) (by rw [zCu]; omega)
 rw [List.drop_zero,List.take_of_length_le (by rw [zCu]; omega)] at rd
 rw [if_neg (by simp),if_neg (by omega),if_neg (by omega),if_pos ⟨by omega,by unfold roomy; omega⟩,rd]
 rfl
section
variable {b s w a r : Int} {n : Nat} {H : zAc} {vd vs vp : AV} {S : StS} (g : StA H vd vs vp S) (fi : FitS S) (hn : n ≤ 1000) {q p3 : Nat} (hq : cellsOf H q = some [.int .i64 (n : Int),.int .i64 s,.int .i64 w,.int .i64 a,.int .i64 r]) (h3 : cellsOf H p3 = some [vd,vs,.int .i64 S.next,.int .i64 S.kind,.int .i64 S.pid,vp])
include g fi hn hq h3
set_option maxHeartbeats 4000000 in
theorem rencL0 (lD : S.dirty.length ≤ 10000) (rD : ∀ d ∈ S.dirty,-1 ≤ d ∧ d ≤ 1000000) (x0 x1 x2 x4 x5 x8 x9 x10 x11 x12 x13 x14 x15 x16 x17 x18 x19 x20 x21 x22 x23 x24 x25 x26 x27 x28 x29 x30 x31 x32 x33 x34 x52 x53 x54 x55 x56 x57 x58 x59 x60 x61 x62 x63 x64 x65 x66 x67 x68 x69 x70 x71 x72 x73 x74 x75 x76 x77 x78 x79 x80 x81 x82 x83 x84 x85 x86 x87 x88 x89 x90 x91 : AV) : ∀ (m i : Nat) (K : zAc) (v : AV) (zs : List Int) (j35 j36 j37 j38 j39 j40 j41 j42 j43 j44 j45 j46 j47 j48 j49 j50 j51 : AV),Adds H K → GB K H.length v zs → zs.length + m ≤ 1000000 → i + m = S.dirty.length →
  Outs (LP1 l10x0 [x0,x1,x2,.ptr p3 0,x4,x5,v,.int .i64 (i : Int),x8,x9,x10,x11,x12,x13,x14,x15,x16,x17,x18,x19,x20,x21,x22,x23,x24,x25,x26,x27,x28,x29,x30,x31,x32,x33,x34,j35,j36,j37,j38,j39,j40,j41,j42,j43,j44,j45,j46,j47,j48,j49,j50,j51,x52,x53,x54,x55,x56,x57,x58,x59,x60,x61,x62,x63,x64,x65,x66,x67,x68,x69,x70,x71,x72,x73,x74,x75,x76,x77,x78,x79,x80,x81,x82,x83,x84,x85,x86,x87,x88,x89,x90,x91] K) fun e t K'=>e = .exit 0 ∧ Adds H K' ∧ ∃ fv : Nat → AV,t = [x0,x1,x2,.ptr p3 0,x4,x5,(fv 6),(fv 7),x8,x9,x10,x11,x12,x13,x14,x15,x16,x17,x18,x19,x20,x21,x22,x23,x24,x25,x26,x27,x28,x29,x30,x31,x32,x33,x34,(fv 35),(fv 36),(fv 37),(fv 38),(fv 39),(fv 40),(fv 41),(fv 42),(fv 43),(fv 44),(fv 45),(fv 46),(fv 47),(fv 48),(fv 49),(fv 50),(fv 51),x52,x53,x54,x55,x56,x57,x58,x59,x60,x61,x62,x63,x64,x65,x66,x67,x68,x69,x70,x71,x72,x73,x74,x75,x76,x77,x78,x79,x80,x81,x82,x83,x84,x85,x86,x87,x88,x89,x90,x91] ∧ GB K' H.length (fv 6) (zs ++ (S.dirty.drop i).map fun d=>u8w (d + 1)):=by
 intro m
 obtain ⟨L0,hL0⟩ : ∃ L,L = LP1 l10x0:=⟨_,rfl⟩
 have lo:=zAp hL0
 have wl:=g.d.len
 rw [← hL0]
 induction m with
 | zero =>
  intro i K v zs j35 j36 j37 j38 j39 j40 j41 j42 j43 j44 j45 j46 j47 j48 j49 j50 j51 aK gv hz hi
  obtain rfl : i = S.dirty.length:=by omega
  have hd : decide ((S.dirty.length : Int) < (S.dirty.length : Int)) = false:=by simp
  have c3:=aK.cells h3
  rw [lo,List.drop_length,List.map_nil,List.append_nil]
  unfold l10x0
  simp -implicitDefEqProofs (maxSteps:=5000000) only [go_sem,simprocAttr,itr,itq,c3,wl,hd,zAg,zAb]
  exact ⟨aK,exF2 rfl gv⟩
 | succ m ih =>
  intro i K v zs j35 j36 j37 j38 j39 j40 j41 j42 j43 j44 j45 j46 j47 j48 j49 j50 j51 aK gv hz hi
  have hlt : i < S.dirty.length:=by omega
  have hd : decide ((i : Int) < (S.dirty.length : Int)) = true:=decide_eq_true (by omega)
  have e2 : IntKind.i64.wrap ((i : Int) + 1) = ((i + 1 : Nat) : Int):=by rw [zAk (by omega) (by omega)]; omega
  have hx:=List.getElem?_eq_getElem hlt
  have rx:=rD _ (List.getElem_mem hlt)
  rw [List.drop_eq_getElem_cons hlt,List.map_cons]
  generalize S.dirty[i] = d at *
  obtain ⟨ad,ix,ld⟩:=(aK.is g.d).idx hx .i64
  have w1 : IntKind.i64.wrap (d + 1) = d + 1:=zAk (by omega) (by omega)
  have uw : IntKind.u8.wrap (d + 1) = u8w (d + 1):=rfl
  have c3:=aK.cells h3
  obtain ⟨K1,hK1⟩ : ∃ K1,K1 = K ++ [ABlk.rw [.int .u8 (u8w (d + 1))]]:=⟨_,rfl⟩
  have A1 : Adds K K1:=⟨_,hK1⟩
  have src : Src 1 K1 (.sl K.length 0 1 1 1 true) [u8w (d + 1)].length (u8s [u8w (d + 1)]):=Src.block (by rw [hK1]; unfold cellsOf; simp [u8s]) rfl rfl
  obtain ⟨v',K2,a2,g2,_,_,ea⟩:=GB.more (d:=ty 1 false 1 [.int .u8 0]) rfl rfl (P:=H) (H:=K1) (aK.trans A1) (GB.fr (Fr.adds A1 (fun _=>False)) gv fun _ _ h=>h) src (by simp; omega)
  have hK1:=hK1.symm
  have key:=ih (i + 1) K2 v' (zs ++ [u8w (d + 1)])
  rw [List.append_assoc,List.singleton_append] at key
  rw [lo]
  unfold l10x0
  simp -implicitDefEqProofs (maxSteps:=5000000) only [go_sem,simprocAttr,itr,itq,c3,wl,hd,ix,ld,w1,uw,hK1,ea,e2]
  exact key _ _ _ _ _ _ _ _ _ _ _ _ _ _ _ _ _ a2 g2 (by simp; omega) (by omega)
omit g fi h3 in
theorem rslot {K K1 K2 : zAc} {v vc vt : AV} {zs : List Int} (x : SnS) (aK : Adds H K) (A1 : Adds K K1) (A2 : Adds K1 K2) (gv : GB K H.length v zs) (lz : zs.length ≤ 400000) (hp : cellsOf K2 K1.length = some [.int .i64 x.id,vc,vt]) (bc : BS K2 vc x.ch) (oc : ∀ b,slb vc = some b → b < H.length ∨ K.length ≤ b ∧ b < K1.length) (pt : IsP H vt x.tb) (mk : Mrk n x.tb) (lc : x.ch.length ≤ 1000) (lt : x.tb.length ≤ 1000) :
  ∃ v1 v2 v3 vm K3 K4 K5 K6 K7,(envL prog).call 28 [.int .u64 (IntKind.u64.wrap x.id),.int .i64 4] K2 = some (.sl K2.length 0 1 4 4 true,K3) ∧ app (ty 1 false 1 [.int .u8 0]) v (.sl K2.length 0 1 4 4 true) K3 = some (v1,K4) ∧ app (ty 1 false 1 [.int .u8 0]) v1 vc K4 = some (v2,K5) ∧ (envL prog).call 30 [.agg [.int .i64 (n : Int),.int .i64 s,.int .i64 w,.int .i64 a,.int .i64 r],vt] K5 = some (vm,K6) ∧ app (ty 1 false 1 [.int .u8 0]) v2 vm K6 = some (v3,K7) ∧
   cellsOf K3 K1.length = some [.int .i64 x.id,vc,vt] ∧ cellsOf K4 K1.length = some [.int .i64 x.id,vc,vt] ∧ cellsOf K5 K1.length = some [.int .i64 x.id,vc,vt] ∧ Adds H K5 ∧ Adds H K7 ∧ GB K7 H.length v3 (zs ++ zC3 n x):=by
 have e3:=Pg.rputC (IntKind.u64.wrap x.id) (k:=4) (by omega) (by omega) K2
 rw [show ((4 : Nat) : Int) = 4 from rfl] at e3
 obtain ⟨K3,hK3⟩ : ∃ K3,K3 = K2 ++ [ABlk.rw (u8s (putS 4 (IntKind.u64.wrap x.id)))]:=⟨_,rfl⟩
 have A3 : Adds K2 K3:=⟨_,hK3⟩
 rw [← hK3] at e3
 have aH2:=(aK.trans A1).trans A2
 have ltv:=GB.lt gv
 have l1:=A1.len
 have l2:=A2.len
 have l3:=A3.len
 have b3 : BS K3 (.sl K2.length 0 1 4 4 true) (putS 4 (IntKind.u64.wrap x.id)):=by
  have:=BS.block (H:=K3) (b:=K2.length) (zs:=putS 4 (IntKind.u64.wrap x.id)) (l:=4) (e:=true) (by rw [hK3]; simp)
  rwa [zA5] at this
 have gv3 : GB K3 H.length v zs:=GB.fr (Fr.adds ((A1.trans A2).trans A3) (fun _=>False)) gv fun _ _ h=>h
 have hp0:=zCc hp
 obtain ⟨v1,K4,a4,g4,fr4,u4,e4⟩:=GB.more (d:=ty 1 false 1 [.int .u8 0]) rfl rfl (P:=H) (H:=K3) (aH2.trans A3) gv3 b3.src (by rw [zA5]; omega)
 have o4:=GB.over g4 (u4 (fun e=>by have:=congrArg List.length e; rw [zA5] at this; simp at this))
 have bc4 : BS K4 vc x.ch:=(A3.bs bc).fr fr4 fun z hz h=>by
  have:=ltv z h
  rcases oc z hz with o | o <;> omega
 have c3:=A3.cells hp
 have c4 : cellsOf K4 K1.length = some [.int .i64 x.id,vc,vt]:=fr4.cells c3 fun h=>by have:=ltv _ h; omega
 obtain ⟨v2,K5,a5,g5,fr5,_,e5⟩:=GB.more (d:=ty 1 false 1 [.int .u8 0]) rfl rfl (P:=H) (H:=K4) a4 g4 bc4.src (by rw [List.length_append,zA5]; omega)
 have c5 : cellsOf K5 K1.length = some [.int .i64 x.id,vc,vt]:=fr5.cells c4 fun h=>by have:=o4 _ h; omega
 obtain ⟨vm,K6,e6,A6,b6⟩:=zSj (pt.adds a5) lt mk hn s w a r
 have g6 : GB K6 H.length v2 _:=GB.fr (Fr.adds A6 (fun _=>False)) g5 fun _ _ h=>h
 obtain ⟨v3,K7,a7,g7,_,_,e7⟩:=GB.more (d:=ty 1 false 1 [.int .u8 0]) rfl rfl (P:=H) (H:=K6) (a5.trans A6) g6 b6.src (by simp only [List.length_append,zA5,zCi]; omega)
 refine ⟨v1,v2,v3,vm,K3,K4,K5,K6,K7,e3,e4,e5,e6,e7,c3,c4,c5,a5,a7,?_⟩
 unfold zC3
 simpa only [List.append_assoc] using g7
set_option maxHeartbeats 16000000 in
theorem rencL1 (ok : ∀ x ∈ S.snaps,Mrk n x.tb) (x0 x1 x4 x5 x7 x10 x11 x12 x13 x14 x15 x16 x17 x18 x19 x20 x21 x22 x23 x24 x25 x26 x27 x28 x29 x30 x31 x32 x33 x34 x35 x36 x37 x38 x39 x40 x41 x42 x43 x44 x45 x46 x47 x48 x49 x50 x51 x85 x86 x87 x88 x89 x90 x91 : AV) : ∀ (m i : Nat) (K : zAc) (v : AV) (zs : List Int) (j9 j52 j53 j54 j55 j56 j57 j58 j59 j60 j61 j62 j63 j64 j65 j66 j67 j68 j69 j70 j71 j72 j73 j74 j75 j76 j77 j78 j79 j80 j81 j82 j83 j84 : AV),Adds H K → GB K H.length v zs → zs.length + 3000 * m ≤ 300000 → i + m = 8 →
  Outs (LP1 l10x1 [x0,x1,.ptr q 0,.ptr p3 0,x4,x5,v,x7,.int .i64 (i : Int),j9,x10,x11,x12,x13,x14,x15,x16,x17,x18,x19,x20,x21,x22,x23,x24,x25,x26,x27,x28,x29,x30,x31,x32,x33,x34,x35,x36,x37,x38,x39,x40,x41,x42,x43,x44,x45,x46,x47,x48,x49,x50,x51,j52,j53,j54,j55,j56,j57,j58,j59,j60,j61,j62,j63,j64,j65,j66,j67,j68,j69,j70,j71,j72,j73,j74,j75,j76,j77,j78,j79,j80,j81,j82,j83,j84,x85,x86,x87,x88,x89,x90,x91] K) fun e t K'=>e = .exit 2 ∧ Adds H K' ∧ ∃ fv : Nat → AV,t = [x0,x1,.ptr q 0,.ptr p3 0,x4,x5,(fv 6),x7,(fv 8),(fv 9),x10,x11,x12,x13,x14,x15,x16,x17,x18,x19,x20,x21,x22,x23,x24,x25,x26,x27,x28,x29,x30,x31,x32,x33,x34,x35,x36,x37,x38,x39,x40,x41,x42,x43,x44,x45,x46,x47,x48,x49,x50,x51,(fv 52),(fv 53),(fv 54),(fv 55),(fv 56),(fv 57),(fv 58),(fv 59),(fv 60),(fv 61),(fv 62),(fv 63),(fv 64),(fv 65),(fv 66),(fv 67),(fv 68),(fv 69),(fv 70),(fv 71),(fv 72),(fv 73),(fv 74),(fv 75),(fv 76),(fv 77),(fv 78),(fv 79),(fv 80),(fv 81),(fv 82),(fv 83),(fv 84),x85,x86,x87,x88,x89,x90,x91] ∧ GB K' H.length (fv 6) (zs ++ zBt n m (S.snaps.drop i)):=by
 intro m
 obtain ⟨L0,hL0⟩ : ∃ L,L = LP1 l10x1:=⟨_,rfl⟩
 have lo:=zAp hL0
 have fl:=fi.s.1
 have wl:=g.s.len
 rw [← hL0]
 induction m with
 | zero =>
  intro i K v zs j9 j52 j53 j54 j55 j56 j57 j58 j59 j60 j61 j62 j63 j64 j65 j66 j67 j68 j69 j70 j71 j72 j73 j74 j75 j76 j77 j78 j79 j80 j81 j82 j83 j84 aK gv hz hi
  obtain rfl : i = 8:=by omega
  have hd : decide (((8 : Nat) : Int) < 8) = false:=rfl
  rw [lo,show zBt n 0 (S.snaps.drop 8) = [] by unfold zBt; rfl,List.append_nil]
  unfold l10x1
  simp -implicitDefEqProofs (maxSteps:=5000000) only [go_sem,simprocAttr,hd,zAg,zAb]
  exact ⟨aK,exF2 rfl gv⟩
 | succ m ih =>
  intro i K v zs j9 j52 j53 j54 j55 j56 j57 j58 j59 j60 j61 j62 j63 j64 j65 j66 j67 j68 j69 j70 j71 j72 j73 j74 j75 j76 j77 j78 j79 j80 j81 j82 j83 j84 aK gv hz hi
  have hd : decide ((i : Int) < 8) = true:=decide_eq_true (by omega)
  have e2 : IntKind.i64.wrap ((i : Int) + 1) = ((i + 1 : Nat) : Int):=by rw [zAk (by omega) (by omega)]; omega
  obtain ⟨vn,G,on,en⟩:=Bt.newR (n : Int) K
  have bn:=on.bs
  obtain ⟨K1,hKG⟩ : ∃ K1,K1 = K ++ G:=⟨_,rfl⟩
  have A1 : Adds K K1:=⟨_,hKG⟩
  rw [← hKG] at en bn
  have cn:=bn.cell
  have cg0:=aK.cells hq
  have ovn : ∀ b,slb vn = some b → b < H.length ∨ K.length ≤ b ∧ b < K1.length:=fun b hb=>by
   have h2:=bn.lt b hb
   rcases on with ⟨rfl,_,_⟩ | ⟨rfl,_⟩
   ·cases hb
   ·injection hb with hb; exact .inr ⟨by omega,h2⟩
  rw [lo]
  unfold l10x1
  by_cases hlt : i < S.snaps.length
  ·have dl : decide ((i : Int) < (S.snaps.length : Int)) = true:=decide_eq_true (by omega)
   have hx:=List.getElem?_eq_getElem hlt
   have ft:=zCl fi.s hx
   have ox:=ok _ (List.getElem_mem hlt)
   rw [List.drop_eq_getElem_cons hlt,zBt]
   generalize S.snaps[i] = x at *
   obtain ⟨bb,cs,vc,vt,sb,ix,hc0,h1,h2,h3',ht,hle,hbs,hip⟩:=g.s.idx hx
   have cc:=hbs.cell
   have ct:=hip.cell
   obtain ⟨K2,hK2⟩ : ∃ K2,K2 = K1 ++ [ABlk.rw [.int .i64 x.id,vc,vt]]:=⟨_,rfl⟩
   have A2 : Adds K1 K2:=⟨_,hK2⟩
   have AH:=(aK.trans A1).trans A2
   have cx : cellsOf K2 K1.length = some [.int .i64 x.id,vc,vt]:=by rw [hK2]; unfold cellsOf; simp
   obtain ⟨v1,v2,v3,vm,K3,K4,K5,K6,K7,e3,e4,e5,e6,e7,cx3,cx4,cx5,a5,a7,g7⟩:=rslot hn hq (s:=s) (w:=w) (a:=a) (r:=r) x aK A1 A2 gv (by omega) cx (AH.bs hbs) (fun b hb=>.inl (hbs.lt b hb)) hip ox ft.lc ft.lt
   have c30:=(aK.trans A1).cells h3
   have c31 : ∀ X,cellsOf (K1 ++ [X]) p3 = some [vd,vs,.int .i64 S.next,.int .i64 S.kind,.int .i64 S.pid,vp]:=fun X=>zBp c30
   have hcx : ∀ X,cellsOf (K1 ++ [X]) bb = some cs:=fun X=>zBp ((aK.trans A1).cells hc0)
   have cg5:=a5.cells hq
   have hK2:=hK2.symm
   have key:=ih (i + 1) K7 v3 (zs ++ zC3 n x)
   rw [List.append_assoc] at key
   simp -implicitDefEqProofs (maxSteps:=5000000) only [go_sem,simprocAttr,itr,itq,hd,cg0,en,cn.1,cn.2,c31,wl,dl,ix,hcx,ht,hle,zAe,cc.1,cc.2,ct.1,ct.2,hK2,cx,e3,cx3,cx4,cx5,e4,e5,cg5,e6,e7,e2]
   exact key _ _ _ _ _ _ _ _ _ _ _ _ _ _ _ _ _ _ _ _ _ _ _ _ _ _ _ _ _ _ _ _ _ _ a7 g7 (by unfold zC3; simp only [List.length_append,zA5,zCi]; have:=ft.lc; omega) (by omega)
  ·have dl : decide ((i : Int) < (S.snaps.length : Int)) = false:=decide_eq_false (by omega)
   have hdr : S.snaps.drop i = []:=List.drop_eq_nil_of_le (by omega)
   have hdr2 : S.snaps.drop (i + 1) = []:=List.drop_eq_nil_of_le (by omega)
   have lnw:=Bt.newN_le (n : Int)
   rw [hdr,zBt]
   obtain ⟨K2,hK2⟩ : ∃ K2,K2 = K1 ++ [ABlk.rw [.int .i64 0,vn,.nilSl]]:=⟨_,rfl⟩
   have A2 : Adds K1 K2:=⟨_,hK2⟩
   have AH:=(aK.trans A1).trans A2
   have cx : cellsOf K2 K1.length = some [.int .i64 0,vn,.nilSl]:=by rw [hK2]; unfold cellsOf; simp
   obtain ⟨v1,v2,v3,vm,K3,K4,K5,K6,K7,e3,e4,e5,e6,e7,cx3,cx4,cx5,a5,a7,g7⟩:=rslot hn hq (s:=s) (w:=w) (a:=a) (r:=r) (zFb n) aK A1 A2 gv (by omega) cx (A2.bs bn) ovn (.inl ⟨rfl,rfl⟩) (fun p hp=>by cases hp) (by unfold zFb; simp; omega) (by unfold zFb; simp)
   rw [show (zFb (n : Int)).id = 0 from rfl] at e3 cx3 cx4 cx5
   have c3:=AH.cells h3
   have cg5:=a5.cells hq
   have hK2:=hK2.symm
   have key:=ih (i + 1) K7 v3 (zs ++ zC3 n (zFb n))
   rw [List.append_assoc,hdr2] at key
   simp -implicitDefEqProofs (maxSteps:=5000000) only [go_sem,simprocAttr,itr,itq,hd,cg0,en,cn.1,cn.2,wl,dl,zAe,hK2,c3,cx,e3,cx3,cx4,cx5,e4,e5,cg5,e6,e7,e2]
   exact key _ _ _ _ _ _ _ _ _ _ _ _ _ _ _ _ _ _ _ _ _ _ _ _ _ _ _ _ _ _ _ _ _ _ a7 g7 (by unfold zC3 zFb; simp only [List.length_append,zA5,zCi,List.length_replicate]; omega) (by omega)
end
end Go.Proofs.Ythgflkfhjnbheaa.G14
end
section
namespace Go.Proofs.Ythgflkfhjnbheaa.G14
open Go Go.Proofs.Ythgflkfhjnbheaa.Eng
section
variable {b s w a r : Int} {H : zAc} {vd vs vp : AV} {S : StS} (g : StA H vd vs vp S) (fi : FitS S) (lD : S.dirty.length ≤ 9223372036854775807)
include g fi lD
set_option maxHeartbeats 4000000 in
theorem zSe (hg : (Gm.goodB b s w a r && zCp b s w a S) = false) : (envL prog).call 10 [.agg [.int .i64 b,.int .i64 s,.int .i64 w,.int .i64 a,.int .i64 r],.agg [vd,vs,.int .i64 S.next,.int .i64 S.kind,.int .i64 S.pid,vp]] H = some (.tup [.nilSl,.int .i64 11],H):=by
 have cd:=IS.cell g.d
 have cc:=g.s.cell
 have cp:=g.p.cell
 obtain ⟨H1,hH1⟩ : ∃ H1,H1 = H ++ [ABlk.rw [.int .i64 b,.int .i64 s,.int .i64 w,.int .i64 a,.int .i64 r],.rw [vd,vs,.int .i64 S.next,.int .i64 S.kind,.int .i64 S.pid,vp]]:=⟨_,rfl⟩
 have A1 : Adds H H1:=⟨_,hH1⟩
 have c0 : cellsOf H1 H.length = some [.int .i64 b,.int .i64 s,.int .i64 w,.int .i64 a,.int .i64 r]:=by rw [hH1]; unfold cellsOf; simp
 have c1 : cellsOf H1 (H.length + 1) = some [vd,vs,.int .i64 S.next,.int .i64 S.kind,.int .i64 S.pid,vp]:=by rw [hH1]; unfold cellsOf; simp
 have eg:=zNb (b:=b) (s:=s) (w:=w) (a:=a) (r:=r) (g.adds A1) fi lD
 rw [hg] at eg
 have tr : trim H (some (.tup [.nilSl,.int .i64 11],H1)) = some (.tup [.nilSl,.int .i64 11],H):=A1.trimS rfl
 have hH1:=hH1.symm
 rw [c10]
 unfold b10
 simp -implicitDefEqProofs (maxSteps:=5000000) only [go_sem,simprocAttr,itr,itq,zAe,cd.1,cd.2,cc.1,cc.2,cp.1,cp.2,hH1,c0,c1,eg,tr]
set_option maxHeartbeats 16000000 in
theorem rencC (hg : (Gm.goodB b s w a r && zCp b s w a S) = true) : ∃ v K,(envL prog).call 10 [.agg [.int .i64 b,.int .i64 s,.int .i64 w,.int .i64 a,.int .i64 r],.agg [vd,vs,.int .i64 S.next,.int .i64 S.kind,.int .i64 S.pid,vp]] H = some (.tup [v,.int .i64 0],K) ∧ Adds H K ∧ GB K H.length v (encT b S):=by
 have hg2:=hg
 rw [Bool.and_eq_true] at hg2
 have gg:=zDb hg2.1
 have G:=zDm gg.b1 gg.a1.2 (fun x hx=>(fi.s.2 x hx).u8) hg2.2
 obtain ⟨n,rfl⟩ : ∃ n : Nat,b = n:=⟨b.toNat,by have:=gg.b1; omega⟩
 have hn : n ≤ 1000:=by have:=gg.b1; omega
 obtain ⟨sw,hsw,sw1,sw2⟩:=gg.sw
 have ldD : S.dirty.length ≤ 32:=by have:=G.dl; omega
 have cd:=IS.cell g.d
 have cc:=g.s.cell
 have cp:=g.p.cell
 obtain ⟨H1,hH1⟩ : ∃ H1,H1 = H ++ [ABlk.rw [.int .i64 n,.int .i64 s,.int .i64 w,.int .i64 a,.int .i64 r],.rw [vd,vs,.int .i64 S.next,.int .i64 S.kind,.int .i64 S.pid,vp]]:=⟨_,rfl⟩
 have A1 : Adds H H1:=⟨_,hH1⟩
 have c0 : cellsOf H1 H.length = some [.int .i64 n,.int .i64 s,.int .i64 w,.int .i64 a,.int .i64 r]:=by rw [hH1]; unfold cellsOf; simp
 have c1 : cellsOf H1 (H.length + 1) = some [vd,vs,.int .i64 S.next,.int .i64 S.kind,.int .i64 S.pid,vp]:=by rw [hH1]; unfold cellsOf; simp
 have g1:=g.adds A1
 have eg:=zNb (b:=n) (s:=s) (w:=w) (a:=a) (r:=r) g1 fi lD
 rw [hg] at eg
 have ws:=g1.s.len
 obtain ⟨H2,hH2⟩ : ∃ H2,H2 = H1 ++ [ABlk.rw [.int .u8 (u8w S.snaps.length),.int .u8 (u8w S.kind)]]:=⟨_,rfl⟩
 have A2 : Adds H1 H2:=⟨_,hH2⟩
 have bk : BS H2 (.sl H1.length 0 1 2 2 true) [u8w S.snaps.length,u8w S.kind]:=BS.block (zs:=[u8w S.snaps.length,u8w S.kind]) (by rw [hH2]; simp [u8s])
 have e3:=Pg.rputC (IntKind.u64.wrap S.next) (k:=4) (by omega) (by omega) H2
 rw [show ((4 : Nat) : Int) = 4 from rfl] at e3
 obtain ⟨K3,hK3⟩ : ∃ K3,K3 = H2 ++ [ABlk.rw (u8s (putS 4 (IntKind.u64.wrap S.next)))]:=⟨_,rfl⟩
 have A3 : Adds H2 K3:=⟨_,hK3⟩
 rw [← hK3] at e3
 obtain ⟨v4,K4,e4,A4,g4⟩:=app_ex (H:=H1) (A2.trans A3) (b:=H2.length) (m:=4) (zs:=putS 4 (IntKind.u64.wrap S.next)) (by rw [hK3]; simp) (A3.bs bk).src (by simp) (zA5 _ _) (by rw [zA5]; simp)
 have e5:=Pg.rputC (IntKind.u64.wrap S.pid) (k:=4) (by omega) (by omega) K4
 rw [show ((4 : Nat) : Int) = 4 from rfl] at e5
 obtain ⟨K5,hK5⟩ : ∃ K5,K5 = K4 ++ [ABlk.rw (u8s (putS 4 (IntKind.u64.wrap S.pid)))]:=⟨_,rfl⟩
 have A5 : Adds K4 K5:=⟨_,hK5⟩
 rw [← hK5] at e5
 have b5 : BS K5 (.sl K4.length 0 1 4 4 true) (putS 4 (IntKind.u64.wrap S.pid)):=by
  have:=BS.block (H:=K5) (b:=K4.length) (zs:=putS 4 (IntKind.u64.wrap S.pid)) (l:=4) (e:=true) (by rw [hK5]; simp)
  rwa [zA5] at this
 have A14:=(A2.trans A3).trans A4
 have g5 : GB K5 H1.length v4 _:=GB.fr (Fr.adds A5 (fun _=>False)) g4 fun _ _ h=>h
 obtain ⟨v6,K6,B6,g6,_,_,e6⟩:=GB.more (d:=ty 1 false 1 [.int .u8 0]) rfl rfl (P:=H1) (H:=K5) (A14.trans A5) g5 b5.src (by simp only [List.length_append,zA5,List.length_cons,List.length_nil]; omega)
 rw [List.append_assoc] at g6
 have l0:=rencL0 g1 fi hn c0 c1 (by omega) (fun d hd=>by have:=G.dr d hd; omega) (m:=S.dirty.length) (i:=0) (K:=K6) (v:=v6)
 have l1:=fun K v=>rencL1 g1 fi hn c0 c1 (zOr gg.a1.2 G.sn) (m:=8) (i:=0) (K:=K) (v:=v)
 rw [show ((0 : Nat) : Int) = 0 from rfl,List.drop_zero] at l0
 simp only [show ((0 : Nat) : Int) = 0 from rfl,List.drop_zero] at l1
 have d1 : ∀ {K},Adds H1 K → cellsOf K (H.length + 1) = some [vd,vs,.int .i64 S.next,.int .i64 S.kind,.int .i64 S.pid,vp]:=fun a=>a.cells c1
 have d0 : ∀ {K},Adds H1 K → cellsOf K H.length = some [.int .i64 n,.int .i64 s,.int .i64 w,.int .i64 a,.int .i64 r]:=fun a=>a.cells c0
 have d13:=d1 (A2.trans A3)
 have d14:=d1 A14
 have d16:=d1 B6
 have d12:=d1 A2
 have u1 : IntKind.u8.wrap (S.snaps.length : Int) = u8w S.snaps.length:=rfl
 have u2 : IntKind.u8.wrap S.kind = u8w S.kind:=rfl
 have hH1':=hH1.symm
 have hH2':=hH2.symm
 have key : Outs (runC (envL prog) (b10 (envL prog)) ([.agg [.int .i64 n,.int .i64 s,.int .i64 w,.int .i64 a,.int .i64 r],.agg [vd,vs,.int .i64 S.next,.int .i64 S.kind,.int .i64 S.pid,vp]] ++ List.replicate (92 - [AV.agg [.int .i64 n,.int .i64 s,.int .i64 w,.int .i64 a,.int .i64 r],.agg [vd,vs,.int .i64 S.next,.int .i64 S.kind,.int .i64 S.pid,vp]].length) .undef) H) fun e' t K=>∃ v,Adds H K ∧ GB K H.length v (encT n S) ∧ fin [.tmp 4,.tmp 5] (some (e',t,K)) = some (.tup [v,.int .i64 0],K):=by
  unfold b10
  generalize hQ : (fun (e' : Ex) (t : T) (K : zAc)=>∃ v,Adds H K ∧ GB K H.length v (encT n S) ∧ fin [.tmp 4,.tmp 5] (some (e',t,K)) = some (AV.tup [v,.int .i64 0],K)) = Q
  simp -implicitDefEqProofs (maxSteps:=5000000) only [go_sem,simprocAttr,itr,itq,zAi,zAe,cd.1,cd.2,cc.1,cc.2,cp.1,cp.2,hH1',c0,c1,eg,ws,u1,u2,hH2',d12,e3,d13,e4,d14,e5,e6]
  unfold LP1 at l0
  generalize (envL prog).loop (runC (envL prog) (l10x0 (envL prog))) = L0 at l0 ⊢
  refine zAq (fun r=>seqR (zAt 0 r) _) (l0 _ _ _ _ _ _ _ _ _ _ _ _ _ _ _ _ _ _ _ _ _ _ _ _ _ _ _ _ _ _ _ _ _ _ _ _ _ _ _ _ _ _ _ _ _ _ _ _ _ _ _ _ _ _ _ _ _ _ _ _ _ _ _ _ _ _ _ _ _ _ _ _ _ _ _ _ _ _ _ _ _ _ _ _ _ _ _ _ _ _ B6 g6 (by simp only [List.length_append,zA5,List.length_cons,List.length_nil]; omega) (by omega)) ?_
  rintro e t K7 ⟨rfl,A7,fv,rfl,g7⟩
  have l1:=l1 K7 (fv 6)
  simp -implicitDefEqProofs (maxSteps:=5000000) only [go_sem,simprocAttr,itr,itq,zAi]
  unfold LP1 at l1
  generalize (envL prog).loop (runC (envL prog) (l10x1 (envL prog))) = L1 at l1 ⊢
  refine zAq (fun r=>seqR (zAt 2 r) _) (l1 _ _ _ _ _ _ _ _ _ _ _ _ _ _ _ _ _ _ _ _ _ _ _ _ _ _ _ _ _ _ _ _ _ _ _ _ _ _ _ _ _ _ _ _ _ _ _ _ _ _ _ _ _ _ _ _ _ _ _ _ _ _ _ _ _ _ _ _ _ _ _ _ _ _ _ _ _ _ _ _ _ _ _ _ _ _ _ _ _ A7 g7 (by simp only [List.length_append,zA5,List.length_cons,List.length_nil,List.length_map]; omega) (by first | trivial | omega)) ?_
  rintro e t K8 ⟨rfl,A8,fw,rfl,g8⟩
  obtain ⟨vm,K9,e9,A9,b9⟩:=zSj ((g1.adds A8).p) fi.p (zL0 G) hn s w a r
  have d18:=d1 A8
  have d08:=d0 A8
  have g9 : GB K9 H1.length (fw 6) _:=GB.fr (Fr.adds A9 (fun _=>False)) g8 fun _ _ h=>h
  have el:=zE7 G gg.a1.2
  have q : (putS 4 (IntKind.u64.wrap S.next) ++ ([u8w S.snaps.length,u8w S.kind] ++ putS 4 (IntKind.u64.wrap S.pid)) ++ S.dirty.map (fun d=>u8w (d + 1)) ++ zBt n 8 S.snaps ++ zCj n S.pairs) = encT n S:=by unfold encT; simp only [List.append_assoc]
  obtain ⟨vz,KZ,AZ,gz,_,_,ez⟩:=GB.more (d:=ty 1 false 1 [.int .u8 0]) rfl rfl (P:=H1) (H:=K9) (A8.trans A9) g9 b9.src (by
   have:=Bt.newN_le (n : Int)
   rw [← List.length_append,q,el]; omega)
  rw [q] at gz
  simp -implicitDefEqProofs (maxSteps:=5000000) only [go_sem,simprocAttr,itr,itq,d18,d08,e9,ez,zAb]
  subst hQ
  refine ⟨vz,A1.trans AZ,GB.low gz A1.len,?_⟩
  simp -implicitDefEqProofs (maxSteps:=5000000) only [go_sem,simprocAttr]
 obtain ⟨e',t,K,hr,v,aK,gz,hf⟩:=key
 refine ⟨v,K,?_,aK,gz⟩
 rw [c10,hr,hf]
 have hu:=gz.under (fun e=>by have:=congrArg List.length e; rw [zE7 G gg.a1.2] at this; simp at this)
 exact zA6 (by simp [AV.under,zBc,hu])
end
end Go.Proofs.Ythgflkfhjnbheaa.G14
end
section
namespace Go.Proofs.Ythgflkfhjnbheaa.G14
open Go Go.Proofs.Ythgflkfhjnbheaa.Eng
noncomputable abbrev rdV (B k N : Nat) : AV:=.sl B k 1 (N - k) (N - k) false
structure RdS (K : zAc) (p B k : Nat) (zs : List Int) : Prop where
 pt : K[p]? = some (.rw [rdV B k zs.length])
 bt : K[B]? = some (.rw (u8s zs))
 ne : p ≠ B
theorem RdS.adds {K K' : zAc} {p B k : Nat} {zs : List Int} (r : RdS K p B k zs) (a : Adds K K') : RdS K' p B k zs:=⟨a.at r.pt,a.at r.bt,r.ne⟩
theorem RdS.next {K : zAc} {p B k m : Nat} {zs : List Int} (r : RdS K p B k zs) : RdS (K.set p (.rw [rdV B m zs.length])) p B m zs:=⟨zBe _ _ _ (zA8 r.pt),by rw [zAn _ _ _ _ fun e=>r.ne e.symm]; exact r.bt,r.ne⟩
theorem RdS.piece {K : zAc} {p B k m c : Nat} {zs : List Int} (r : RdS K p B k zs) (h : k + m ≤ zs.length) : BS K (.sl B k 1 m c false) ((zs.drop k).take m):=by
 have hl : ((zs.drop k).take m).length = m:=by rw [List.length_take,List.length_drop]; omega
 refine .inr ⟨B,k,c,false,u8s zs,by rw [hl],zAl r.bt,fun i z hz=>?_,by rw [hl,zCu]; omega⟩
 rw [List.getElem?_take] at hz
 split at hz
 ·rw [List.getElem?_drop] at hz
  unfold u8s
  rw [List.getElem?_map,hz]; rfl
 ·cases hz
theorem zSn {K : zAc} {w : AV} {G : zAc} {ys : List Int} (o : Bt.Own K w G ys) (h : ys ≠ []) : w = .sl (K.length + 1) 0 1 ys.length ys.length false ∧ G = [.rw [],.rw (u8s ys)]:=by
 rcases o with ⟨h0,_⟩ | ⟨_,h⟩
 ·exact absurd h0 h
 ·exact h
section
variable {K : zAc} {p B k m : Nat} {zs : List Int} (r : RdS K p B k zs) (h : k + m ≤ zs.length) (hm : 1 ≤ m) (hz : zs.length ≤ 100000)
include r h hm hz
theorem takeC : ∃ w G,w = .sl (K.length + 1) 0 1 m m false ∧ G = [ABlk.rw [],.rw (u8s ((zs.drop k).take m))] ∧ (envL prog).call 36 [.ptr p 0,.int .i64 (m : Int)] K = some (.tup [w,.bool true],(K ++ G).set p (.rw [rdV B (k + m) zs.length])):=by
 have hl : ((zs.drop k).take m).length = m:=by rw [List.length_take,List.length_drop]; omega
 have cp:=zAl r.pt
 have lp:=zA8 r.pt
 have el : (envL prog).call 68 [.ptr p 0] K = some (.int .i64 ((zs.length - k : Nat) : Int),K):=by
  rw [c68]
  unfold b68
  simp -implicitDefEqProofs (maxSteps:=5000000) only [go_sem,simprocAttr,itr,itq,cp]
 have d0 : decide ((m : Int) < 0) = false:=decide_eq_false (by omega)
 have d1 : decide ((m : Int) > ((zs.length - k : Nat) : Int)) = false:=decide_eq_false (by omega)
 have s1:=sl_to (sz:=1) (b:=B) (off:=k) (len:=zs.length - k) (cp:=zs.length - k) (ex:=false) (u:=m) (by omega)
 have s2:=zRs (sz:=1) (b:=B) (off:=k) (len:=zs.length - k) (cp:=zs.length - k) (ex:=false) (i:=m) (by omega) (by omega)
 obtain ⟨w,G,o,ec⟩:=Bt.cloneC (r.piece (c:=zs.length - k) h) (by rw [hl]; omega)
 obtain ⟨hw,hG⟩:=zSn o (fun e=>by have:=congrArg List.length e; rw [hl] at this; simp at this; omega)
 rw [hl] at hw
 have hb : (K ++ G)[p]? = some (.rw [rdV B k zs.length]):=by rw [List.getElem?_append_left lp]; exact r.pt
 have cpG:=zAl hb
 have er : AV.sl B (k + m * 1) 1 (zs.length - k - m) (zs.length - k - m) false = rdV B (k + m) zs.length:=by rw [Nat.mul_one,Nat.sub_sub]
 rw [er] at s2
 have wr : zA3 (K ++ G) p 0 [rdV B (k + m) zs.length] = some ((K ++ G).set p (.rw [rdV B (k + m) zs.length])):=by
  rw [zA2 hb,if_pos ⟨by simp,rfl⟩]; rfl
 have cr : zA0 (rdV B (k + m) zs.length) = some [rdV B (k + m) zs.length]:=rfl
 refine ⟨w,G,hw,hG,?_⟩
 have tr : ∀ X,trim K (some (AV.tup [w,.bool true],X)) = some (.tup [w,.bool true],X):=fun X=>zA6 (by rw [hw]; simp [AV.under,zBc])
 generalize rdV B (k + m) zs.length = nv at *
 rw [c36]
 unfold b36
 simp -implicitDefEqProofs (maxSteps:=5000000) only [go_sem,simprocAttr,itr,itq,el,d0,d1,cp,s1,ec,cpG,s2,zAx,cr,wr,tr]
theorem set_take {X : ABlk} {G : zAc} : ((K ++ G).set p X).take K.length = K.set p X:=by
 have lp:=zA8 r.pt
 rw [List.set_append_left _ _ lp,List.take_append_of_le_length (by simp),List.take_of_length_le (by simp)]
theorem numC (h8 : m ≤ 8) (hu : IsU8 zs) : (envL prog).call 34 [.ptr p 0,.int .i64 (m : Int)] K = some (.tup [.int .u64 (getS ((zs.drop k).take m)),.bool true],K.set p (.rw [rdV B (k + m) zs.length])):=by
 obtain ⟨w,G,hw,hG,et⟩:=takeC r h hm hz
 have hl : ((zs.drop k).take m).length = m:=by rw [List.length_take,List.length_drop]; omega
 have lp:=zA8 r.pt
 obtain ⟨K1,hK1⟩ : ∃ K1,K1 = (K ++ G).set p (.rw [rdV B (k + m) zs.length]):=⟨_,rfl⟩
 have bw : BS K1 w ((zs.drop k).take m):=by
  have:=BS.block (H:=K1) (b:=K.length + 1) (zs:=(zs.drop k).take m) (l:=m) (e:=false) (by rw [hK1,zAn _ _ _ _ (by omega),hG]; simp)
  rw [hl] at this
  rw [hw]; exact this
 have eg:=Pg.getC bw (fun y hy=>hu y (List.mem_of_mem_drop (List.mem_of_mem_take hy))) (by omega) (fun b o s n l e he=>by rw [hw] at he; injection he; omega)
 rw [← hK1] at et
 have tr : trim K (some (AV.tup [.int .u64 (getS ((zs.drop k).take m)),.bool true],K1)) = some (.tup [.int .u64 (getS ((zs.drop k).take m)),.bool true],K.set p (.rw [rdV B (k + m) zs.length])):=by
  rw [zRe (by rw [hK1]; simp) rfl (fun b k' hb hk=>?_)]
  ·rw [hK1,set_take r h hm hz]
  ·rw [hK1] at hk
   by_cases e : b = p
   ·subst e
    rw [zBe _ _ _ (by simp; omega)] at hk
    injection hk with hk
    refine .inr fun x hx=>?_
    rw [← hk] at hx
    simp only [ABlk.vals,List.mem_cons,List.not_mem_nil,or_false] at hx
    subst hx
    simp [AV.under]; exact zA8 r.bt
   ·rw [zAn _ _ _ _ e,List.getElem?_append_left hb] at hk
    exact .inl hk
 rw [c34]
 unfold b34
 simp -implicitDefEqProofs (maxSteps:=5000000) only [go_sem,simprocAttr,itr,itq,et,eg,tr]
theorem zQi (h8 : m ≤ 7) (hu : IsU8 zs) {c : Nat} (hc : cellsOf K c = some [.ptr p 0]) : (envL prog).call 33 [.int .i64 (m : Int),.ptr c 0] K = some (.int .i64 (getS ((zs.drop k).take m)),K.set p (.rw [rdV B (k + m) zs.length])):=by
 have en:=numC r h hm hz (by omega) hu
 have gl:=zEy (zs:=(zs.drop k).take m) fun y hy=>hu y (List.mem_of_mem_drop (List.mem_of_mem_take hy))
 have hl : ((zs.drop k).take m).length = m:=by rw [List.length_take,List.length_drop]; omega
 rw [hl] at gl
 have pw : (256 : Int) ^ m ≤ 256 ^ 7:=by
  have:=Nat.pow_le_pow_right (show 0 < 256 by omega) h8
  exact_mod_cast this
 have w : IntKind.i64.wrap (getS ((zs.drop k).take m)) = getS ((zs.drop k).take m):=zAk (by omega) (by omega)
 rw [c33]
 unfold b33
 simp -implicitDefEqProofs (maxSteps:=5000000) only [go_sem,simprocAttr,itr,itq,hc,en,w]
theorem dec2C {c : Nat} (hc : cellsOf K c = some [.ptr p 0]) : (envL prog).call 35 [.int .i64 (m : Int),.ptr c 0] K = some (.sl (K.length + 1) 0 1 m m false,(K ++ [ABlk.rw [],.rw (u8s ((zs.drop k).take m))]).set p (.rw [rdV B (k + m) zs.length])):=by
 obtain ⟨w,G,hw,hG,et⟩:=takeC r h hm hz
 rw [hG,hw] at et
 have tr : ∀ X,trim K (some (AV.sl (K.length + 1) 0 1 m m false,X)) = some (.sl (K.length + 1) 0 1 m m false,X):=fun X=>zA6 (by simp [AV.under])
 rw [c35]
 unfold b35
 simp -implicitDefEqProofs (maxSteps:=5000000) only [go_sem,simprocAttr,itr,itq,hc,et,tr]
end
end Go.Proofs.Ythgflkfhjnbheaa.G14
end
section
namespace Go.Proofs.Ythgflkfhjnbheaa.G14
open Go Go.Proofs.Ythgflkfhjnbheaa.Eng
noncomputable abbrev PsL (s : LoopState) (t : T) : ABlk:=.loop ⟨s,.normal,t,[7],zIh,zIg⟩
structure PsY (H : zAc) (s : LoopState) (t : T) (l : List PrS) (K : zAc) : Prop where
 old : ∀ b,b < H.length → K[b]? = H[b]?
 len : H.length + 2 ≤ K.length
 out : ∃ v,K[H.length]? = some (.rw [v]) ∧ Gp K (H.length + 2) v l
 lp : K[H.length + 1]? = some (PsL s t)
set_option maxHeartbeats 4000000 in
theorem zSi {H K : zAc} {t : T} (ht : t.length = 13) (t2 : getT t 2 = .ptr H.length 0) {l : List PrS} (y : PsY H .ready t l K) (hl : l.length ≤ 1000) (x : PrS) :
  ∃ K',(envL prog).yield (H.length + 1) [.agg [.int .i64 x.1,.int .i64 x.2]] K = some (.bool true,K') ∧ PsY H .ready t (l ++ [x]) K':=by
 obtain ⟨v,hv,g⟩:=y.out
 have kl:=y.len
 obtain ⟨Kb,hKb⟩ : ∃ Kb,Kb = (K ++ [ABlk.rw [.int .i64 x.1,.int .i64 x.2]]).set (H.length + 1) (PsL .busy t):=⟨_,rfl⟩
 have lb : Kb.length = K.length + 1:=by rw [hKb]; exact zKz
 have fb : ∀ b,b < K.length → b ≠ H.length + 1 → Kb[b]? = K[b]?:=fun b hb hn=>by rw [hKb]; exact zN1 hb hn
 have b0 : Kb[H.length]? = some (.rw [v]):=by rw [fb _ (by omega) (by omega)]; exact hv
 have b1 : Kb[H.length + 1]? = some (PsL .busy t):=by rw [hKb]; exact zUq (by omega)
 have b6 : Kb[K.length]? = some (.rw [.int .i64 x.1,.int .i64 x.2]):=by rw [hKb]; exact zPi (by omega)
 have frb : Fr K Kb (fun b=>b = H.length + 1):=by rw [hKb]; exact zUr
 have ov:=g.out
 have gb : Gp Kb (H.length + 2) v l:=g.fr frb fun z hz h=>by have:=ov z hz; omega
 obtain ⟨Kc,hKc⟩ : ∃ Kc,Kc = Kb ++ [ABlk.rw [.int .i64 x.1,.int .i64 x.2]]:=⟨_,rfl⟩
 have Ac : Adds Kb Kc:=⟨_,hKc⟩
 have lc : Kc.length = K.length + 2:=by rw [hKc]; simp [lb]
 have gc : Gp Kc (H.length + 2) v l:=by rw [hKc]; exact gb.adds _
 have sy : zA4 2 [x].length (.sl Kb.length 0 2 1 1 true) Kc = some (flat [x]):=by
  show zA4 2 1 _ Kc = _
  have hcc : cellsOf Kc Kb.length = some [.int .i64 x.1,.int .i64 x.2]:=by rw [hKc]; unfold cellsOf; simp
  unfold zA4 zB0
  simp only [if_true,hcc,Option.bind_some]
  rfl
 obtain ⟨v',Kd,ea,gd,frd,sv,_⟩:=zL9 gc (y:=.sl Kb.length 0 2 1 1 true) (m:=[x]) (by omega) rfl sy (by unfold roomy; simp; omega)
 have sv:=sv (by simp)
 have ld:=frd.1
 have oc:=gc.out
 have d0 : Kd[H.length]? = some (.rw [v]):=frd.at (Ac.at b0) fun h=>by have:=oc _ h; omega
 have d1 : Kd[H.length + 1]? = some (PsL .busy t):=frd.at (Ac.at b1) fun h=>by have:=oc _ h; omega
 have cv:=gd.isP.cell
 have wr : zA3 Kd H.length 0 [v'] = some (Kd.set H.length (.rw [v'])):=by
  rw [zA2 d0,if_pos ⟨by simp,by simp [cv.2]⟩]; rfl
 have c0:=zAl b0
 have c6:=zAl b6
 have hKc':=hKc.symm
 have al : zA3 (K ++ [ABlk.rw [AV.int .i64 0,.int .i64 0]]) K.length 0 [.int .i64 x.1,.int .i64 x.2] = some (K ++ [ABlk.rw [.int .i64 x.1,.int .i64 x.2]]):=by
  rw [zC1,if_pos ⟨by simp,rfl⟩]; rfl
 obtain ⟨e,K2,K4,⟨rfl,rfl⟩,ey,h4⟩:=zLo (P:=prog) (l:=H.length + 1) (args:=[.agg [.int .i64 x.1,.int .i64 x.2]]) (K:=K) (eaq69x0 _) (ebq69x0 _) y.lp rfl (t1:=(t.set 7 (.agg [.int .i64 x.1,.int .i64 x.2])).set 5 (.ptr K.length 0)) (cs:=[.int .i64 x.1,.int .i64 x.2]) (by
   unfold aq69x0
   simp -implicitDefEqProofs (maxSteps:=5000000) only [go_sem,simprocAttr,zBm,zBg,ht,List.length_set,Nat.reduceLT,zAx,zAe,al])
  (R:=fun e K2=>e = .normal ∧ K2 = Kd.set H.length (.rw [v'])) (by
   rw [← hKb]
   unfold bq69x0
   simp -implicitDefEqProofs (maxSteps:=5000000) only [go_sem,simprocAttr,itr,itq,zBg,ht,t2,List.length_set,Nat.reduceLT,c0,c6,hKc',ea,zAx,cv.1,wr,zAb]) (by
   rintro e K2 ⟨_,rfl⟩
   rw [zAn _ _ _ _ (by omega)]; exact d1)
 have a0 : ∀ b,b < H.length → (Kd.set H.length (.rw [v']))[b]? = H[b]?:=fun b hb=>by
  rw [zAn _ _ _ _ (by omega),frd.2 b (by omega) (fun h=>by have:=oc _ h; omega),hKc,List.getElem?_append_left (by omega),fb b (by omega) (by omega)]
  exact y.old b hb
 rcases h4 with rfl | ⟨tt,_⟩
 ·refine ⟨_,ey,fun b hb=>?_,by simp; omega,⟨v',?_,?_⟩,?_⟩
  ·rw [zAn _ _ _ _ (by omega)]; exact a0 b hb
  ·rw [zAn _ _ _ _ (by omega)]; exact zBe _ _ _ (by omega)
  ·have od:=gd.out
   exact (gd.fr (Fr.set (F:=(· = H.length)) _ _ rfl) fun z hz h=>by have:=od z hz; omega).fr (Fr.set (F:=(· = H.length + 1)) _ _ rfl) fun z hz h=>by have:=od z hz; omega
  ·exact zBe _ _ _ (by simp; omega)
 ·exfalso
  have:=zRj tt (b:=H.length) (by omega) (vs:=[v']) (by rw [zAn _ _ _ _ (by omega)]; exact zBe _ _ _ (by omega)) (a:=v') (by simp) (fun k hk a ha z hz=>by
   rw [hv] at hk; injection hk with hk
   rw [← hk] at ha
   simp only [ABlk.vals,List.mem_cons,List.not_mem_nil,or_false] at ha
   subst ha
   exact (ov z hz).2) Kc.length sv
  omega
end Go.Proofs.Ythgflkfhjnbheaa.G14
end
section
namespace Go.Proofs.Ythgflkfhjnbheaa.G14
open Go Go.Proofs.Ythgflkfhjnbheaa.Eng
theorem zOc (x : List Int) (c : Int) : unmF 0 (x ++ [c]) = unmF 0 x ++ (if c = 0 then [] else [((x.length : Int),if c = 255 then 255 else c - 1)]):=by
 rw [zF1,Nat.zero_add]
 congr 1
 rw [unmF,unmF,List.append_nil]
theorem zJt : ∀ (x : List Int) (i : Nat),(unmF i x).length ≤ x.length
 | [],i=>by unfold unmF; simp
 | c :: x,i=>by
  have:=zJt x (i + 1)
  rw [unmF,List.length_append,List.length_cons]
  split <;> simp <;> omega
theorem PsY.adds {H K : zAc} {s : LoopState} {t : T} {l : List PrS} (y : PsY H s t l K) : Adds H K:=Adds.of_get (by have:=y.len; omega) y.old
section
variable {H : zAc} {w : AV} {z : List Int} (bw : BS H w z) (uz : IsU8 z) (lz : z.length ≤ 1000) {t : T} (ht : t.length = 13) (t2 : getT t 2 = .ptr H.length 0)
include bw uz lz ht t2
set_option maxHeartbeats 4000000 in
theorem psL (x1 x2 : AV) : ∀ (m i : Nat) (K : zAc) (j3 j4 j5 j9 j10 j11 j12 j13 j14 j15 j16 j17 j18 j19 j20 j21 j22 j23 j24 j25 j26 j27 j28 : AV),PsY H .ready t (unmF 0 (z.take i)) K → i + m = z.length →
  Outs (LP1 l70x0 [.yld (H.length + 1),x1,x2,j3,j4,j5,w,.int .i64 (z.length : Int),.int .i64 (i : Int),j9,j10,j11,j12,j13,j14,j15,j16,j17,j18,j19,j20,j21,j22,j23,j24,j25,j26,j27,j28] K) fun e t' K'=>e = .exit 0 ∧ PsY H .ready t (unmS z) K':=by
 intro m
 obtain ⟨L0,hL0⟩ : ∃ L,L = LP1 l70x0:=⟨_,rfl⟩
 have lo:=zAp hL0
 rw [← hL0]
 induction m with
 | zero =>
  intro i K j3 j4 j5 j9 j10 j11 j12 j13 j14 j15 j16 j17 j18 j19 j20 j21 j22 j23 j24 j25 j26 j27 j28 y hi
  obtain rfl : i = z.length:=by omega
  have hd : decide ((z.length : Int) < (z.length : Int)) = false:=by simp
  rw [List.take_length] at y
  rw [lo]
  unfold l70x0
  simp -implicitDefEqProofs (maxSteps:=5000000) only [go_sem,simprocAttr,hd,zAg,zAb]
  exact y
 | succ m ih =>
  intro i K j3 j4 j5 j9 j10 j11 j12 j13 j14 j15 j16 j17 j18 j19 j20 j21 j22 j23 j24 j25 j26 j27 j28 y hi
  have hlt : i < z.length:=by omega
  have hd : decide ((i : Int) < (z.length : Int)) = true:=decide_eq_true (by omega)
  have e2 : IntKind.i64.wrap ((i : Int) + 1) = ((i + 1 : Nat) : Int):=by rw [zAk (by omega) (by omega)]; omega
  have hx:=List.getElem?_eq_getElem hlt
  have ux:=uz _ (List.getElem_mem hlt)
  have tl : (z.take i).length = i:=by rw [List.length_take]; omega
  have tk : z.take (i + 1) = z.take i ++ [z[i]]:=by rw [List.take_add_one,hx]; rfl
  have key:=ih (i + 1)
  rw [tk,zOc,tl] at key
  generalize z[i] = c at *
  obtain ⟨ad,ix,ld⟩:=(y.adds.bs bw).idx hx .i64
  have w1 : IntKind.i64.wrap c = c:=zAk (by omega) (by omega)
  have w2 : IntKind.i64.wrap (c - 1) = c - 1:=zAk (by omega) (by omega)
  have ul:=zJt (z.take i) 0
  rw [lo]
  unfold l70x0
  by_cases c0 : c = 0
  ·have n0 : (c != 0) = false:=by simp [c0]
   have n5 : (c == 255) = false:=by simp [c0]
   rw [if_pos c0,List.append_nil] at key
   simp -implicitDefEqProofs (maxSteps:=5000000) only [go_sem,simprocAttr,itr,itq,hd,ix,ld,w1,w2,n0,n5,e2]
   exact key K _ _ _ _ _ _ _ _ _ _ _ _ _ _ _ _ _ _ _ _ _ _ _ y (by omega)
  have n0 : (c != 0) = true:=bne_iff_ne.2 c0
  rw [if_neg c0] at key
  by_cases c5 : c = 255
  ·have n5 : (c == 255) = true:=by simp [c5]
   rw [if_pos c5] at key
   obtain ⟨K1,ey,y1⟩:=zSi ht t2 y (by omega) ((i : Int),255)
   simp -implicitDefEqProofs (maxSteps:=5000000) only [go_sem,simprocAttr,itr,zC4,zEb,hd,ix,ld,w1,w2,n0,n5,ey,e2]
   exact key K1 _ _ _ _ _ _ _ _ _ _ _ _ _ _ _ _ _ _ _ _ _ _ _ y1 (by omega)
  ·have n5 : (c == 255) = false:=by simp [c5]
   rw [if_neg c5] at key
   obtain ⟨K1,ey,y1⟩:=zSi ht t2 y (by omega) ((i : Int),c - 1)
   simp -implicitDefEqProofs (maxSteps:=5000000) only [go_sem,simprocAttr,itr,zC4,zEb,hd,ix,ld,w1,w2,n0,n5,ey,e2]
   exact key K1 _ _ _ _ _ _ _ _ _ _ _ _ _ _ _ _ _ _ _ _ _ _ _ y1 (by omega)
theorem Gp.cut {K : zAc} {B n : Nat} {v : AV} {l : List PrS} (g : Gp K B v l) (h : ∀ b,slb v = some b → b < n) : Gp (K.take n) B v l:=by
 rcases g with g | ⟨h0,b,hb,rfl,q⟩ | ⟨h0,b,hb,rfl,q⟩
 ·exact .inl g
 ·exact .inr (.inl ⟨h0,b,hb,rfl,by rw [zIr (h b rfl)]; exact q⟩)
 ·exact .inr (.inr ⟨h0,b,hb,rfl,by rw [zIr (h b rfl)]; exact q⟩)
set_option maxHeartbeats 4000000 in
theorem psCall {c : Nat} (hc : cellsOf H c = some [w]) {K0 : zAc} (y0 : PsY H .ready t [] K0) (l0 : K0.length = H.length + 2) (v0 : ∀ k,K0[H.length]? = some k → ∀ a ∈ k.vals,∀ x,slb a = some x → x < K0.length) : ∃ K',(envL prog).call 70 [.yld (H.length + 1),.ptr c 0] K0 = some (.tup [],K') ∧ PsY H .ready t (unmS z) K':=by
 have wl:=bw.len
 have l1:=psL bw uz lz ht t2 (m:=z.length) (i:=0) (K:=K0)
 rw [show ((0 : Nat) : Int) = 0 from rfl,List.take_zero,show unmF 0 [] = [] by unfold unmF; rfl] at l1
 have c1:=y0.adds.cells hc
 have key : Outs (runC (envL prog) (b70 (envL prog)) ([.yld (H.length + 1),.ptr c 0] ++ List.replicate (29 - [AV.yld (H.length + 1),.ptr c 0].length) .undef) K0) fun e' t' K=>PsY H .ready t (unmS z) K ∧ fin [] (some (e',t',K)) = some (.tup [],K):=by
  unfold b70
  generalize hQ : (fun (e' : Ex) (t' : T) (K : zAc)=>PsY H .ready t (unmS z) K ∧ fin [] (some (e',t',K)) = some (AV.tup [],K)) = Q
  simp -implicitDefEqProofs (maxSteps:=5000000) only [go_sem,simprocAttr,itr,itq,zAi,c1,wl]
  unfold LP1 at l1
  generalize (envL prog).loop (runC (envL prog) (l70x0 (envL prog))) = LL at l1 ⊢
  refine zAq (fun r=>zAt 0 r) (l1 _ _ _ _ _ _ _ _ _ _ _ _ _ _ _ _ _ _ _ _ _ _ _ _ _ y0 (by omega)) ?_
  rintro e t' K ⟨rfl,y⟩
  simp -implicitDefEqProofs (maxSteps:=5000000) only [go_sem,simprocAttr,zAb]
  subst hQ
  refine ⟨y,?_⟩
  simp -implicitDefEqProofs (maxSteps:=5000000) only [go_sem,simprocAttr]
 obtain ⟨e',t',K,hr,y,hf⟩:=key
 obtain ⟨K4,et,h4⟩:=zJx K0 (.tup []) K
 refine ⟨K4,by rw [c70,hr,hf]; exact et,?_⟩
 rcases h4 with rfl | ⟨tt,rfl⟩
 ·exact y
 ·obtain ⟨v,hv,g⟩:=y.out
  have yl:=y.len
  refine ⟨fun b hb=>by rw [zIr (by omega)]; exact y.old b hb,by rw [List.length_take]; omega,⟨v,by rw [zIr (by omega)]; exact hv,Gp.cut bw uz lz ht t2 g (zRj tt (by omega) hv (by simp) v0)⟩,by rw [zIr (by omega)]; exact y.lp⟩
end
set_option maxHeartbeats 4000000 in
theorem zPc {H : zAc} {w : AV} {z : List Int} (bw : BS H w z) (uz : IsU8 z) (lz : z.length ≤ 1000) {c : Nat} (hc : cellsOf H c = some [w]) : ∃ v K,(envL prog).call 37 [.fn 70 [.ptr c 0]] H = some (v,K) ∧ Adds H K ∧ Gp K H.length v (unmS z):=by
 have hr : ∀ T : Eng.T,T.length = 13 → getT T 2 = .ptr H.length 0 → getT T 6 = .fn 70 [.ptr c 0] → Outs (runC (envL prog) (.range (X 6) [7] zIh zIg) T (H ++ [ABlk.rw [.nilSl]])) fun e t K=>e = .normal ∧ t = T ∧ PsY H .exhausted T (unmS z) K:=by
  intro T ht t2 tf
  obtain ⟨K0,hK0⟩ : ∃ K0,K0 = (H ++ [ABlk.rw [.nilSl]]) ++ [PsL .ready T]:=⟨_,rfl⟩
  have l0 : K0.length = H.length + 2:=by rw [hK0]; simp
  have y0 : PsY H .ready T [] K0:=⟨fun b hb=>by rw [hK0,List.append_assoc,List.getElem?_append_left hb],by omega,⟨.nilSl,by rw [hK0]; simp,.inl ⟨rfl,rfl⟩⟩,by rw [hK0]; simp⟩
  obtain ⟨K1,ec,y1⟩:=psCall bw uz lz ht t2 hc y0 l0 (fun k hk a ha x hx=>by
   have : K0[H.length]? = some (.rw [.nilSl]):=by rw [hK0]; simp
   rw [this] at hk; injection hk with hk
   rw [← hk] at ha
   simp only [ABlk.vals,List.mem_cons,List.not_mem_nil,or_false] at ha
   subst ha; cases hx)
  have lG : (H ++ [ABlk.rw [AV.nilSl]]).length = H.length + 1:=by simp
  have:=zLu (E:=envL prog) (f:=X 6) (ps:=[7]) (ka:=zIh) (kb:=zIg) (t:=T) (h:=H ++ [ABlk.rw [.nilSl]]) (K:=K1) (e:=.normal) (st:=.ready) (v:=.tup []) (by rw [X_ap,tf,lG,← hK0]; exact ec) (by rw [lG]; exact y1.lp) (by decide)
  rw [lG] at this
  obtain ⟨v,hv,g⟩:=y1.out
  have yl:=y1.len
  have og:=g.out
  exact ⟨_,_,_,this,rfl,rfl,fun b hb=>by rw [zAn _ _ _ _ (by omega)]; exact y1.old b hb,by rw [List.length_set]; exact yl,⟨v,by rw [zAn _ _ _ _ (by omega)]; exact hv,g.fr (Fr.set (F:=(· = H.length + 1)) _ _ rfl) fun x hx h=>by have:=og x hx; omega⟩,zBe _ _ _ (by omega)⟩
 have key : Outs (runC (envL prog) (b69 (envL prog)) ([.nilSl,.fn 70 [.ptr c 0]] ++ List.replicate (13 - [AV.nilSl,.fn 70 [.ptr c 0]].length) .undef) H) fun e' t K=>∃ v,Adds H K ∧ Gp K H.length v (unmS z) ∧ fin [.tmp 4] (some (e',t,K)) = some (v,K):=by
  unfold b69
  generalize hQ : (fun (e' : Ex) (t : T) (K : zAc)=>∃ v,Adds H K ∧ Gp K H.length v (unmS z) ∧ fin [.tmp 4] (some (e',t,K)) = some (v,K)) = Q
  simp -implicitDefEqProofs (maxSteps:=5000000) only [go_sem,simprocAttr,itr]
  refine zAq (fun r=>seqR (zAt 0 r) _) (hr _ rfl rfl rfl) ?_
  rintro e t K ⟨rfl,rfl,y⟩
  obtain ⟨v,hv,g⟩:=y.out
  have c0:=zAl hv
  simp -implicitDefEqProofs (maxSteps:=5000000) only [go_sem,simprocAttr,itr,itq,c0,zAb]
  subst hQ
  refine ⟨v,y.adds,g.low (by omega),?_⟩
  simp -implicitDefEqProofs (maxSteps:=5000000) only [go_sem,simprocAttr]
 obtain ⟨e',t,K,hr',v,aK,g,hf⟩:=key
 have og:=g.out
 have tr : ∃ K',trim H (some (v,K)) = some (v,K') ∧ Adds H K' ∧ Gp K' H.length v (unmS z):=by
  rcases zD7 (v:=v) aK with e | ⟨u,e⟩
  ·exact ⟨K,e,aK,g⟩
  ·refine ⟨H,e,Adds.refl H,?_⟩
   rcases g with g | ⟨_,b,hb,rfl,_⟩ | ⟨_,b,hb,rfl,_⟩
   ·exact .inl g
   ·have:=zB4 u rfl; omega
   ·have:=zB4 u rfl; omega
 obtain ⟨K',et,aK',g'⟩:=tr
 have ea : (envL prog).call 69 [.nilSl,.fn 70 [.ptr c 0]] H = some (v,K'):=by
  rw [c69,hr',hf]; exact et
 have tr2 : ∃ K2,trim H (some (v,K')) = some (v,K2) ∧ Adds H K2 ∧ Gp K2 H.length v (unmS z):=by
  rcases zD7 (v:=v) aK' with e | ⟨u,e⟩
  ·exact ⟨K',e,aK',g'⟩
  ·refine ⟨H,e,Adds.refl H,?_⟩
   rcases g' with g | ⟨_,b,hb,rfl,_⟩ | ⟨_,b,hb,rfl,_⟩
   ·exact .inl g
   ·have:=zB4 u rfl; omega
   ·have:=zB4 u rfl; omega
 obtain ⟨K2,et2,a2,g2⟩:=tr2
 refine ⟨v,K2,?_,a2,g2⟩
 rw [c37]
 unfold b37
 simp -implicitDefEqProofs (maxSteps:=5000000) only [go_sem,simprocAttr,itr,itq,ea,et2]
end Go.Proofs.Ythgflkfhjnbheaa.G14
end
section
namespace Go.Proofs.Ythgflkfhjnbheaa.G14
open Go Go.Proofs.Ythgflkfhjnbheaa.Eng
section
variable {H : zAc} {w : AV} {z : List Int} (bw : BS H w z) (uz : IsU8 z) (lz : z.length ≤ 1000)
include bw uz lz
set_option maxHeartbeats 4000000 in
theorem rpsL (x1 x2 x34 : AV) : ∀ (m i : Nat) (K : zAc) (v : AV) (j5 j6 j7 j8 j9 j10 j11 j12 j13 j14 j15 j16 j17 j18 j19 j20 j21 j22 j23 j24 j25 j26 j27 j28 j29 j30 j31 j32 j33 : AV),Adds H K → Gp K H.length v (unmF 0 (z.take i)) → i + m = z.length →
  Outs (LP1 l43x0 [w,x1,x2,v,.int .i64 (i : Int),j5,j6,j7,j8,j9,j10,j11,j12,j13,j14,j15,j16,j17,j18,j19,j20,j21,j22,j23,j24,j25,j26,j27,j28,j29,j30,j31,j32,j33,x34] K) fun e t K'=>e = .exit 0 ∧ Adds H K' ∧ ∃ fv : Nat → AV,t = [w,x1,x2,(fv 3),(fv 4),(fv 5),(fv 6),(fv 7),(fv 8),(fv 9),(fv 10),(fv 11),(fv 12),(fv 13),(fv 14),(fv 15),(fv 16),(fv 17),(fv 18),(fv 19),(fv 20),(fv 21),(fv 22),(fv 23),(fv 24),(fv 25),(fv 26),(fv 27),(fv 28),(fv 29),(fv 30),(fv 31),(fv 32),(fv 33),x34] ∧ Gp K' H.length (fv 3) (unmS z):=by
 intro m
 obtain ⟨L0,hL0⟩ : ∃ L,L = LP1 l43x0:=⟨_,rfl⟩
 have lo:=zAp hL0
 have wl:=bw.len
 rw [← hL0]
 induction m with
 | zero =>
  intro i K v j5 j6 j7 j8 j9 j10 j11 j12 j13 j14 j15 j16 j17 j18 j19 j20 j21 j22 j23 j24 j25 j26 j27 j28 j29 j30 j31 j32 j33 aK g hi
  obtain rfl : i = z.length:=by omega
  have hd : decide ((z.length : Int) < (z.length : Int)) = false:=by simp
  rw [List.take_length] at g
  rw [lo]
  unfold l43x0
  simp -implicitDefEqProofs (maxSteps:=5000000) only [go_sem,simprocAttr,itr,itq,wl,hd,zAg,zAb]
  exact ⟨aK,exF2 rfl g⟩
 | succ m ih =>
  intro i K v j5 j6 j7 j8 j9 j10 j11 j12 j13 j14 j15 j16 j17 j18 j19 j20 j21 j22 j23 j24 j25 j26 j27 j28 j29 j30 j31 j32 j33 aK g hi
  have hlt : i < z.length:=by omega
  have hd : decide ((i : Int) < (z.length : Int)) = true:=decide_eq_true (by omega)
  have e2 : IntKind.i64.wrap ((i : Int) + 1) = ((i + 1 : Nat) : Int):=by rw [zAk (by omega) (by omega)]; omega
  have hx:=List.getElem?_eq_getElem hlt
  have ux:=uz _ (List.getElem_mem hlt)
  have tl : (z.take i).length = i:=by rw [List.length_take]; omega
  have tk : z.take (i + 1) = z.take i ++ [z[i]]:=by rw [List.take_add_one,hx]; rfl
  have key:=ih (i + 1)
  rw [tk,zOc,tl] at key
  generalize z[i] = c at *
  obtain ⟨ad,ix,ld⟩:=(aK.bs bw).idx hx .i64
  have w1 : IntKind.i64.wrap c = c:=zAk (by omega) (by omega)
  have w2 : IntKind.i64.wrap (c - 1) = c - 1:=zAk (by omega) (by omega)
  have ul:=zJt (z.take i) 0
  have aH:=aK.len
  have more : ∀ q : Int,∃ v' K',app (ty 2 true 16 [.int .i64 0,.int .i64 0]) v (.sl K.length 0 2 1 1 true) (K ++ [ABlk.rw [.int .i64 (i : Int),.int .i64 q]]) = some (v',K') ∧ Adds H K' ∧ Gp K' H.length v' (unmF 0 (z.take i) ++ [((i : Int),q)]):=by
   intro q
   obtain ⟨K1,hK1⟩ : ∃ K1,K1 = K ++ [ABlk.rw [.int .i64 (i : Int),.int .i64 q]]:=⟨_,rfl⟩
   have g1 : Gp K1 H.length v (unmF 0 (z.take i)):=by rw [hK1]; exact g.adds _
   have hcc : cellsOf K1 K.length = some [.int .i64 (i : Int),.int .i64 q]:=by rw [hK1]; unfold cellsOf; simp
   have sy : zA4 2 [((i : Int),q)].length (.sl K.length 0 2 1 1 true) K1 = some (flat [((i : Int),q)]):=by
    show zA4 2 1 _ K1 = _
    unfold zA4 zB0
    simp only [if_true,hcc,Option.bind_some]
    rfl
   obtain ⟨v',K',ea,g',fr,_,_⟩:=zL9 g1 (y:=.sl K.length 0 2 1 1 true) (m:=[((i : Int),q)]) (by rw [hK1]; simp; omega) rfl sy (by unfold roomy; simp; omega)
   rw [← hK1]
   exact ⟨v',K',ea,fr.old (aK.trans ⟨_,hK1⟩) fun b hb h=>by have:=(g1.out b h).1; omega,g'⟩
  rw [lo]
  unfold l43x0
  by_cases c0 : c = 0
  ·have n0 : decide (c > 0) = false:=decide_eq_false (by omega)
   have n5 : (c == 255) = false:=by simp [c0]
   rw [if_pos c0,List.append_nil] at key
   simp -implicitDefEqProofs (maxSteps:=5000000) only [go_sem,simprocAttr,itr,itq,wl,hd,ix,ld,w1,w2,n0,n5,e2]
   exact key K v _ _ _ _ _ _ _ _ _ _ _ _ _ _ _ _ _ _ _ _ _ _ _ _ _ _ _ _ _ aK g (by omega)
  have n0 : decide (c > 0) = true:=decide_eq_true (by omega)
  rw [if_neg c0] at key
  by_cases c5 : c = 255
  ·have n5 : (c == 255) = true:=by simp [c5]
   rw [if_pos c5] at key
   obtain ⟨v',K',ea,a',g'⟩:=more 255
   simp -implicitDefEqProofs (maxSteps:=5000000) only [go_sem,simprocAttr,itr,itq,wl,hd,ix,ld,w1,w2,n0,n5,ea,e2]
   exact key K' v' _ _ _ _ _ _ _ _ _ _ _ _ _ _ _ _ _ _ _ _ _ _ _ _ _ _ _ _ _ a' g' (by omega)
  ·have n5 : (c == 255) = false:=by simp [c5]
   rw [if_neg c5] at key
   obtain ⟨v',K',ea,a',g'⟩:=more (c - 1)
   simp -implicitDefEqProofs (maxSteps:=5000000) only [go_sem,simprocAttr,itr,itq,wl,hd,ix,ld,w1,w2,n0,n5,ea,e2]
   exact key K' v' _ _ _ _ _ _ _ _ _ _ _ _ _ _ _ _ _ _ _ _ _ _ _ _ _ _ _ _ _ a' g' (by omega)
theorem zSa : ∃ v K,(envL prog).call 43 [w] H = some (v,K) ∧ Adds H K ∧ Gp K H.length v (unmS z):=by
 have l1:=rpsL bw uz lz (m:=z.length) (i:=0) (K:=H) (v:=.nilSl)
 rw [show ((0 : Nat) : Int) = 0 from rfl,List.take_zero,show unmF 0 [] = [] by unfold unmF; rfl] at l1
 have key : Outs (runC (envL prog) (b43 (envL prog)) ([w] ++ List.replicate (35 - [w].length) .undef) H) fun e' t K=>∃ v,Adds H K ∧ Gp K H.length v (unmS z) ∧ fin [.tmp 2] (some (e',t,K)) = some (v,K):=by
  unfold b43
  generalize hQ : (fun (e' : Ex) (t : T) (K : zAc)=>∃ v,Adds H K ∧ Gp K H.length v (unmS z) ∧ fin [.tmp 2] (some (e',t,K)) = some (v,K)) = Q
  simp -implicitDefEqProofs (maxSteps:=5000000) only [go_sem,simprocAttr,itr,itq,zAi]
  unfold LP1 at l1
  generalize (envL prog).loop (runC (envL prog) (l43x0 (envL prog))) = LL at l1 ⊢
  refine zAq (fun r=>seqR (zAt 0 r) _) (l1 _ _ _ _ _ _ _ _ _ _ _ _ _ _ _ _ _ _ _ _ _ _ _ _ _ _ _ _ _ _ _ _ (Adds.refl H) (.inl ⟨rfl,rfl⟩) (by omega)) ?_
  rintro e t K ⟨rfl,aK,fv,rfl,g⟩
  simp -implicitDefEqProofs (maxSteps:=5000000) only [go_sem,simprocAttr,itr,itq,zAb]
  subst hQ
  refine ⟨fv 3,aK,g,?_⟩
  simp -implicitDefEqProofs (maxSteps:=5000000) only [go_sem,simprocAttr]
 obtain ⟨e',t',K,hr,v,aK,g,hf⟩:=key
 have tr : ∃ K',trim H (some (v,K)) = some (v,K') ∧ Adds H K' ∧ Gp K' H.length v (unmS z):=by
  rcases zD7 (v:=v) aK with e | ⟨u,e⟩
  ·exact ⟨K,e,aK,g⟩
  ·refine ⟨H,e,Adds.refl H,?_⟩
   rcases g with g | ⟨_,b,hb,rfl,_⟩ | ⟨_,b,hb,rfl,_⟩
   ·exact .inl g
   ·have:=zB4 u rfl; omega
   ·have:=zB4 u rfl; omega
 obtain ⟨K',et,aK',g'⟩:=tr
 exact ⟨v,K',by rw [c43,hr,hf]; exact et,aK',g'⟩
end
end Go.Proofs.Ythgflkfhjnbheaa.G14
end
section
namespace Go.Proofs.Ythgflkfhjnbheaa.G14
open Go Go.Proofs.Ythgflkfhjnbheaa.Eng
theorem Fr.rd {K K' : zAc} {F : Nat → Prop} {p B k : Nat} {zs : List Int} (r : RdS K p B k zs) (a : Fr K K' F) (h1 : ¬ F p) (h2 : ¬ F B) : RdS K' p B k zs:=⟨a.at r.pt h1,a.at r.bt h2,r.ne⟩
theorem zNp {zs : List Int} {k : Nat} {c : Int} (h : zs[k]? = some c) (uc : 0 ≤ c) : getS ((zs.drop k).take 1) = c:=by
 have : (zs.drop k).take 1 = [c]:=by
  have lt:=(List.getElem?_eq_some_iff.1 h).1
  rw [List.drop_eq_getElem_cons lt,List.take_succ_cons,List.take_zero]
  rw [List.getElem?_eq_getElem lt] at h
  injection h with h; rw [h]
 rw [this]
 simp [getS]
section
variable {zs : List Int} (uz : IsU8 zs) (lz : zs.length ≤ 100000) {H : zAc} {p B c sb : Nat} {nx kd pd : Int} (hc : cellsOf H c = some [.ptr p 0]) (ap : p ≠ sb ∧ B ≠ sb ∧ c ≠ p ∧ c ≠ sb) (lt : p < H.length ∧ B < H.length ∧ sb < H.length)
include uz lz hc ap lt
set_option maxHeartbeats 8000000 in
theorem decL0 {k0 n : Nat} (hk : k0 + n ≤ zs.length) (x0 x1 x2 x3 x4 x5 x6 x8 x10 x11 x12 x13 x14 x15 x16 x17 x18 x19 x20 x21 x22 x23 x24 x25 x26 x27 x28 x29 x30 x31 x32 x33 x34 x35 x36 x37 x38 x39 x40 x41 x42 x43 x44 x45 x46 x47 x60 x61 x62 x63 x64 x65 x66 x67 x68 x69 x70 x71 x72 x73 x74 x75 x76 x77 x78 x79 x80 x81 x82 x83 x84 x85 x86 x87 x88 x89 x90 x91 x92 x93 x94 x95 x96 x97 x98 x99 x100 x101 x102 x103 x104 x105 x106 x107 x108 x109 x110 x111 : AV) : ∀ (m i : Nat) (K : zAc) (vd : AV) (j50 j51 j52 j53 j54 j55 j56 j57 j58 j59 : AV),Fr H K (fun b=>b = p ∨ b = sb) → RdS K p B (k0 + i) zs → K[sb]? = some (.rw [vd,.nilSl,.int .i64 nx,.int .i64 kd,.int .i64 pd,.nilSl]) → FS K H.length vd (((zs.drop k0).take i).map (· - 1)) → i + m = n →
  Outs (LP1 l11x0 [x0,x1,x2,x3,x4,x5,x6,.fn 33 [.ptr c 0],x8,.ptr sb 0,x10,x11,x12,x13,x14,x15,x16,x17,x18,x19,x20,x21,x22,x23,x24,x25,x26,x27,x28,x29,x30,x31,x32,x33,x34,x35,x36,x37,x38,x39,x40,x41,x42,x43,x44,x45,x46,x47,.int .i64 (n : Int),.int .i64 (i : Int),j50,j51,j52,j53,j54,j55,j56,j57,j58,j59,x60,x61,x62,x63,x64,x65,x66,x67,x68,x69,x70,x71,x72,x73,x74,x75,x76,x77,x78,x79,x80,x81,x82,x83,x84,x85,x86,x87,x88,x89,x90,x91,x92,x93,x94,x95,x96,x97,x98,x99,x100,x101,x102,x103,x104,x105,x106,x107,x108,x109,x110,x111] K) fun e t K'=>e = .exit 1 ∧ (∃ vd,Fr H K' (fun b=>b = p ∨ b = sb) ∧ RdS K' p B (k0 + n) zs ∧ K'[sb]? = some (.rw [vd,.nilSl,.int .i64 nx,.int .i64 kd,.int .i64 pd,.nilSl]) ∧ FS K' H.length vd (((zs.drop k0).take n).map (· - 1))) ∧ ∃ fv : Nat → AV,t = [x0,x1,x2,x3,x4,x5,x6,.fn 33 [.ptr c 0],x8,.ptr sb 0,x10,x11,x12,x13,x14,x15,x16,x17,x18,x19,x20,x21,x22,x23,x24,x25,x26,x27,x28,x29,x30,x31,x32,x33,x34,x35,x36,x37,x38,x39,x40,x41,x42,x43,x44,x45,x46,x47,.int .i64 (n : Int),(fv 49),(fv 50),(fv 51),(fv 52),(fv 53),(fv 54),(fv 55),(fv 56),(fv 57),(fv 58),(fv 59),x60,x61,x62,x63,x64,x65,x66,x67,x68,x69,x70,x71,x72,x73,x74,x75,x76,x77,x78,x79,x80,x81,x82,x83,x84,x85,x86,x87,x88,x89,x90,x91,x92,x93,x94,x95,x96,x97,x98,x99,x100,x101,x102,x103,x104,x105,x106,x107,x108,x109,x110,x111]:=by
 intro m
 obtain ⟨L0,hL0⟩ : ∃ L,L = LP1 l11x0:=⟨_,rfl⟩
 have lo:=zAp hL0
 rw [← hL0]
 induction m with
 | zero =>
  intro i K vd j50 j51 j52 j53 j54 j55 j56 j57 j58 j59 fK r hs g hi
  obtain rfl : i = n:=by omega
  have hd : decide ((i : Int) < (i : Int)) = false:=by simp
  rw [lo]
  unfold l11x0
  simp -implicitDefEqProofs (maxSteps:=5000000) only [go_sem,simprocAttr,hd,zAg,zAb]
  exact ⟨⟨vd,fK,r,hs,g⟩,exF rfl⟩
 | succ m ih =>
  intro i K vd j50 j51 j52 j53 j54 j55 j56 j57 j58 j59 fK r hs g hi
  have hd : decide ((i : Int) < (n : Int)) = true:=decide_eq_true (by omega)
  have e2 : IntKind.i64.wrap ((i : Int) + 1) = ((i + 1 : Nat) : Int):=by rw [zAk (by omega) (by omega)]; omega
  have hx:=List.getElem?_eq_getElem (show k0 + i < zs.length by omega)
  have ux:=uz _ (List.getElem_mem (show k0 + i < zs.length by omega))
  have kl:=fK.1
  have cc:=fK.cells hc (by rintro (h | h) <;> omega)
  have ed:=zQi r (m:=1) (by omega) (by omega) lz (by omega) uz cc
  rw [zNp hx ux.1,show ((1 : Nat) : Int) = 1 from rfl] at ed
  have tk : ((zs.drop k0).take (i + 1)).map (· - 1) = ((zs.drop k0).take i).map (· - 1) ++ [zs[k0 + i] - 1]:=by
   rw [List.take_add_one,List.getElem?_drop,hx,List.map_append]; rfl
  have key:=ih (i + 1)
  rw [tk] at key
  generalize zs[k0 + i] = x at *
  have w1 : IntKind.i64.wrap (x - 1) = x - 1:=zAk (by omega) (by omega)
  obtain ⟨K1,hK1⟩ : ∃ K1,K1 = K.set p (.rw [rdV B (k0 + i + 1) zs.length]):=⟨_,rfl⟩
  have r1 : RdS K1 p B (k0 + i + 1) zs:=by rw [hK1]; exact r.next
  rw [← hK1] at ed
  have l1 : K1.length = K.length:=by rw [hK1]; simp
  have hs1 : K1[sb]? = some (.rw [vd,.nilSl,.int .i64 nx,.int .i64 kd,.int .i64 pd,.nilSl]):=by rw [hK1,zAn _ _ _ _ (by omega)]; exact hs
  have f1 : Fr K K1 (fun b=>b = p):=by rw [hK1]; exact Fr.set _ _ rfl
  have og:=FS.out g
  have g1 : FS K1 H.length vd (((zs.drop k0).take i).map (· - 1)):=g.frT f1 fun b hb h=>by have:=og b hb; omega
  obtain ⟨K2,hK2⟩ : ∃ K2,K2 = K1 ++ [ABlk.rw [.int .i64 (x - 1)]]:=⟨_,rfl⟩
  have A2 : Adds K1 K2:=⟨_,hK2⟩
  have g2 : FS K2 H.length vd (((zs.drop k0).take i).map (· - 1)):=g1.frT (Fr.adds A2 (fun _=>False)) fun _ _ h=>h
  obtain ⟨v',K3,ep,g3,f3,sb3,l3⟩:=FS.push g2 (s:=K1.length) (z:=x - 1) (by rw [hK2]; unfold cellsOf; simp) (by simp; omega) (by have:=A2.len; omega)
  have o2:=FS.out g2
  have hs3 : K3[sb]? = some (.rw [vd,.nilSl,.int .i64 nx,.int .i64 kd,.int .i64 pd,.nilSl]):=f3.at (A2.at hs1) fun h=>by have:=(o2 sb h).1; omega
  have r3 : RdS K3 p B (k0 + i + 1) zs:=Fr.rd (r1.adds A2) f3 (fun h=>by have:=(o2 _ h).1; omega) (fun h=>by have:=(o2 _ h).1; omega)
  have cv:=FS.cell g3
  have wr : zA3 K3 sb 0 [v'] = some (K3.set sb (.rw [v',.nilSl,.int .i64 nx,.int .i64 kd,.int .i64 pd,.nilSl])):=by
   rw [zA2 hs3,if_pos ⟨by simp,by simp [cv.2]⟩]; rfl
  have l2:=A2.len
  have fz : Fr H (K3.set sb (.rw [v',.nilSl,.int .i64 nx,.int .i64 kd,.int .i64 pd,.nilSl])) (fun b=>b = p ∨ b = sb):=by
   refine ⟨by simp; omega,fun z hz hn=>?_⟩
   rw [zAn _ _ _ _ (fun h=>hn (.inr h)),f3.2 z (by omega) (fun h=>by have:=(o2 z h).1; omega),hK2,List.getElem?_append_left (by omega),f1.2 z (by omega) (fun h=>hn (.inl h))]
   exact fK.2 z hz hn
  have o3:=FS.out g3
  have cs0:=zAl hs
  have cs1:=zAl hs1
  have cs2:=zAl (A2.at hs1)
  have cs3:=zAl hs3
  have hK2:=hK2.symm
  rw [lo]
  unfold l11x0
  simp -implicitDefEqProofs (maxSteps:=5000000) only [go_sem,simprocAttr,itr,itq,zGq,hd,cs0,cs1,cs2,cs3,ed,w1,hK2,ep,zAx,cv.1,wr,e2]
  exact key (K3.set sb (.rw [v',.nilSl,.int .i64 nx,.int .i64 kd,.int .i64 pd,.nilSl])) v' _ _ _ _ _ _ _ _ _ _ fz (Fr.rd r3 (Fr.set (F:=(· = sb)) _ _ rfl) (by omega) (by omega)) (zBe _ _ _ (by omega)) (g3.frT (Fr.set (F:=(· = sb)) _ _ rfl) fun b hb h=>by have:=(o3 b hb).1; omega) (by omega)
end
end Go.Proofs.Ythgflkfhjnbheaa.G14
end
section
namespace Go.Proofs.Ythgflkfhjnbheaa.G14
open Go Go.Proofs.Ythgflkfhjnbheaa.Eng
theorem zSm (w : AV) (hw : zA0 w = some [w] ∧ w.isCell = true) (H : zAc) : (envL prog).call 38 [w] H = some (.fn 70 [.ptr H.length 0],H ++ [.rw [w]]):=by
 rw [c38]
 unfold b38
 simp -implicitDefEqProofs (maxSteps:=5000000) only [go_sem,simprocAttr,hw.1,hw.2]
 exact zA6 (by simp [AV.under,zBc])
section
variable {zs : List Int} (uz : IsU8 zs) (lz : zs.length ≤ 100000) {p B c k nb b : Nat}
include uz lz
theorem decSlot {K : zAc} (r : RdS K p B k zs) (hc : cellsOf K c = some [.ptr p 0]) (cp : c ≠ p) (h : k + (4 + nb + b) ≤ zs.length) (hnb : Bt.newN (b : Int) = nb) (n1 : 1 ≤ nb) (b1 : 1 ≤ b) (b2 : b ≤ 1000) : ∃ vn vt Kb Kc Kd Ke Kg,
  (envL prog).call 33 [.int .i64 4,.ptr c 0] (K ++ [ABlk.rw [.int .i64 0,.nilSl,.nilSl]]) = some (.int .i64 (getS ((zs.drop k).take 4)),Kb) ∧
  (envL prog).call 26 [.int .i64 (b : Int)] Kb = some (vn,Kc) ∧ zD3 vn = some (.int .i64 (nb : Int)) ∧
  (envL prog).call 35 [.int .i64 (nb : Int),.ptr c 0] Kc = some (.sl (Kc.length + 1) 0 1 nb nb false,Kd) ∧
  (envL prog).call 35 [.int .i64 (b : Int),.ptr c 0] Kd = some (.sl (Kd.length + 1) 0 1 b b false,Ke) ∧
  (envL prog).call 38 [.sl (Kd.length + 1) 0 1 b b false] Ke = some (.fn 70 [.ptr Ke.length 0],Ke ++ [ABlk.rw [.sl (Kd.length + 1) 0 1 b b false]]) ∧
  (envL prog).call 37 [.fn 70 [.ptr Ke.length 0]] (Ke ++ [ABlk.rw [.sl (Kd.length + 1) 0 1 b b false]]) = some (vt,Kg) ∧
  zA3 Kg K.length 0 [.int .i64 (getS ((zs.drop k).take 4)),.sl (Kc.length + 1) 0 1 nb nb false,vt] = some (Kg.set K.length (.rw [.int .i64 (getS ((zs.drop k).take 4)),.sl (Kc.length + 1) 0 1 nb nb false,vt])) ∧
  (zA0 vt = some [vt] ∧ vt.isCell = true) ∧
  Fr K Kb (· = p) ∧ Fr K Kc (· = p) ∧ Fr K Kd (· = p) ∧ Fr K Ke (· = p) ∧ Fr K Kg (· = p) ∧
  Fr K (Kg.set K.length (.rw [.int .i64 (getS ((zs.drop k).take 4)),.sl (Kc.length + 1) 0 1 nb nb false,vt])) (· = p) ∧
  RdS (Kg.set K.length (.rw [.int .i64 (getS ((zs.drop k).take 4)),.sl (Kc.length + 1) 0 1 nb nb false,vt])) p B (k + (4 + nb + b)) zs ∧
  SnR (Kg.set K.length (.rw [.int .i64 (getS ((zs.drop k).take 4)),.sl (Kc.length + 1) 0 1 nb nb false,vt])) [.int .i64 (getS ((zs.drop k).take 4)),.sl (Kc.length + 1) 0 1 nb nb false,vt] (snOf nb b (zs.drop k)) ∧
  K.length < Kg.length ∧ (∀ x ∈ [AV.int .i64 (getS ((zs.drop k).take 4)),.sl (Kc.length + 1) 0 1 nb nb false,vt],∀ z,slb x = some z → K.length < z):=by
 have lp:=zA8 r.pt
 have lB:=zA8 r.bt
 have lc:=zCc hc
 obtain ⟨Ka,hKa⟩ : ∃ Ka,Ka = K ++ [ABlk.rw [.int .i64 0,.nilSl,.nilSl]]:=⟨_,rfl⟩
 have Aa : Adds K Ka:=⟨_,hKa⟩
 have la : Ka.length = K.length + 1:=by rw [hKa]; simp
 have e1:=zQi (r.adds Aa) (m:=4) (by omega) (by omega) lz (by omega) uz (Aa.cells hc)
 rw [show ((4 : Nat) : Int) = 4 from rfl] at e1
 obtain ⟨Kb,hKb⟩ : ∃ Kb,Kb = Ka.set p (.rw [rdV B (k + 4) zs.length]):=⟨_,rfl⟩
 rw [← hKb] at e1
 have rb : RdS Kb p B (k + 4) zs:=by rw [hKb]; exact (r.adds Aa).next
 have fb : Fr K Kb (· = p):=by rw [hKb]; exact (Fr.adds Aa _).trans (Fr.set (F:=(· = p)) _ _ rfl) fun _ _ h=>h
 have lb : Kb.length = K.length + 1:=by rw [hKb]; simp [la]
 obtain ⟨vn,G,on,e2⟩:=Bt.newC (b : Int) Kb
 obtain ⟨Kc,hKc⟩ : ∃ Kc,Kc = Kb ++ G:=⟨_,rfl⟩
 have Ac : Adds Kb Kc:=⟨_,hKc⟩
 have bn:=on.bs.len
 rw [List.length_replicate,hnb] at bn
 rw [← hKc] at e2
 have fc : Fr K Kc (· = p):=fb.trans (Fr.adds Ac _) fun _ _ h=>h
 have lcb:=Ac.len
 have e3:=dec2C (rb.adds Ac) (m:=nb) (by omega) n1 lz (fc.cells hc cp)
 obtain ⟨Kd,hKd⟩ : ∃ Kd,Kd = (Kc ++ [ABlk.rw [],.rw (u8s ((zs.drop (k + 4)).take nb))]).set p (.rw [rdV B (k + 4 + nb) zs.length]):=⟨_,rfl⟩
 rw [← hKd] at e3
 have rd : RdS Kd p B (k + 4 + nb) zs:=by rw [hKd]; exact ((rb.adds Ac).adds ⟨_,rfl⟩).next
 have fcd : Fr Kc Kd (· = p):=by rw [hKd]; exact (Fr.adds ⟨_,rfl⟩ _).trans (Fr.set (F:=(· = p)) _ _ rfl) fun _ _ h=>h
 have fd : Fr K Kd (· = p):=fc.trans fcd fun _ _ h=>h
 have ld : Kd.length = Kc.length + 2:=by rw [hKd]; simp
 have hch : Kd[Kc.length + 1]? = some (.rw (u8s ((zs.drop (k + 4)).take nb))):=by rw [hKd,zAn _ _ _ _ (by omega)]; simp
 have e4:=dec2C rd (m:=b) (by omega) b1 lz (fd.cells hc cp)
 obtain ⟨Ke,hKe⟩ : ∃ Ke,Ke = (Kd ++ [ABlk.rw [],.rw (u8s ((zs.drop (k + 4 + nb)).take b))]).set p (.rw [rdV B (k + 4 + nb + b) zs.length]):=⟨_,rfl⟩
 rw [← hKe] at e4
 have re : RdS Ke p B (k + 4 + nb + b) zs:=by rw [hKe]; exact (rd.adds ⟨_,rfl⟩).next
 have fde : Fr Kd Ke (· = p):=by rw [hKe]; exact (Fr.adds ⟨_,rfl⟩ _).trans (Fr.set (F:=(· = p)) _ _ rfl) fun _ _ h=>h
 have fe : Fr K Ke (· = p):=fd.trans fde fun _ _ h=>h
 have le : Ke.length = Kd.length + 2:=by rw [hKe]; simp
 have htb : Ke[Kd.length + 1]? = some (.rw (u8s ((zs.drop (k + 4 + nb)).take b))):=by rw [hKe,zAn _ _ _ _ (by omega)]; simp
 have e5:=zSm (.sl (Kd.length + 1) 0 1 b b false) ⟨rfl,rfl⟩ Ke
 obtain ⟨Kf,hKf⟩ : ∃ Kf,Kf = Ke ++ [ABlk.rw [.sl (Kd.length + 1) 0 1 b b false]]:=⟨_,rfl⟩
 have Af : Adds Ke Kf:=⟨_,hKf⟩
 have lf : Kf.length = Ke.length + 1:=by rw [hKf]; simp
 have ltb : ((zs.drop (k + 4 + nb)).take b).length = b:=by rw [List.length_take,List.length_drop]; omega
 have lch : ((zs.drop (k + 4)).take nb).length = nb:=by rw [List.length_take,List.length_drop]; omega
 have bt : BS Kf (.sl (Kd.length + 1) 0 1 b b false) ((zs.drop (k + 4 + nb)).take b):=by
  have:=BS.block (l:=b) (e:=false) (Af.at htb)
  rwa [ltb] at this
 obtain ⟨vt,Kg,e6,Ag,gt⟩:=zPc bt (fun y hy=>uz y (List.mem_of_mem_drop (List.mem_of_mem_take hy))) (by omega) (c:=Ke.length) (by rw [hKf]; unfold cellsOf; simp)
 have fg : Fr K Kg (· = p):=fe.trans (Fr.adds (Af.trans Ag) _) fun _ _ h=>h
 have lg:=Ag.len
 have hq : Kg[K.length]? = some (.rw [.int .i64 0,.nilSl,.nilSl]):=by
  have q1 : Kb[K.length]? = some (.rw [.int .i64 0,.nilSl,.nilSl]):=by rw [hKb,zAn _ _ _ _ (by omega),hKa]; simp
  exact (Af.trans Ag).at (fde.at (fcd.at (Ac.at q1) (by omega)) (by omega))
 have ct:=gt.isP.cell
 have og:=gt.out
 have wr : zA3 Kg K.length 0 [.int .i64 (getS ((zs.drop k).take 4)),.sl (Kc.length + 1) 0 1 nb nb false,vt] = some (Kg.set K.length (.rw [.int .i64 (getS ((zs.drop k).take 4)),.sl (Kc.length + 1) 0 1 nb nb false,vt])):=by
  rw [zA2 hq,if_pos ⟨by simp,by simp only [List.all_cons,ct.2]; rfl⟩]; rfl
 have fz : Fr Kg (Kg.set K.length (.rw [.int .i64 (getS ((zs.drop k).take 4)),.sl (Kc.length + 1) 0 1 nb nb false,vt])) (· = K.length):=Fr.set _ _ rfl
 refine ⟨vn,vt,Kb,Kc,Kd,Ke,Kg,by rw [← hKa]; exact e1,e2,bn,e3,e4,e5,by rw [← hKf]; exact e6,wr,ct,fb,fc,fd,fe,fg,?_,?_,?_,by omega,?_⟩
 ·exact fg.trans fz fun x hx h=>by omega
 ·have:=Fr.rd (re.adds (Af.trans Ag)) fz (by omega) (by omega)
  rwa [show k + (4 + nb + b) = k + 4 + nb + b by omega]
 ·refine ⟨_,_,rfl,?_,?_⟩
  ·have : BS Kg (.sl (Kc.length + 1) 0 1 nb nb false) ((zs.drop (k + 4)).take nb):=by
    have:=BS.block (l:=nb) (e:=false) ((Af.trans Ag).at (fde.at hch (by omega)))
    rwa [lch] at this
   have:=this.fr fz fun x hx h=>by injection hx with hx; omega
   show BS _ _ (((zs.drop k).drop 4).take nb)
   rw [List.drop_drop]; exact this
  ·have:=gt.isP.fr fz fun x hx h=>by have:=og x hx; omega
   show IsP _ _ (unmS (((zs.drop k).drop (4 + nb)).take b))
   rw [List.drop_drop,show k + (4 + nb) = k + 4 + nb by omega]; exact this
 ·intro x hx z hz
  simp only [List.mem_cons,List.not_mem_nil,or_false] at hx
  rcases hx with rfl | rfl | rfl
  ·cases hz
  ·injection hz with hz; omega
  ·have:=og z hz; omega
end
end Go.Proofs.Ythgflkfhjnbheaa.G14
end
section
namespace Go.Proofs.Ythgflkfhjnbheaa.G14
open Go Go.Proofs.Ythgflkfhjnbheaa.Eng
theorem zEs (nb b : Nat) : ∀ (k : Nat) (z : List Int),(zDe nb b k z).length = k
 | 0,z=>by unfold zDe; rfl
 | k + 1,z=>by unfold zDe; rw [List.length_cons,zEs nb b k]
theorem zH2 (nb b : Nat) : ∀ (k : Nat) (z : List Int) (i : Nat),i < k → (zDe nb b k z)[i]? = some (snOf nb b (z.drop (i * (4 + nb + b))))
 | 0,z,i,h=>absurd h (by omega)
 | k + 1,z,0,h=>by unfold zDe; simp
 | k + 1,z,i + 1,h=>by
  unfold zDe
  rw [List.getElem?_cons_succ,zH2 nb b k _ i (by omega),List.drop_drop]
  congr 3
  rw [Nat.add_mul,Nat.one_mul]; omega
section
variable {zs : List Int} (uz : IsU8 zs) (lz : zs.length ≤ 100000) {H : zAc} {p B c sb q nb b k1 cnt : Nat} {s w a r nx kd pd : Int} {vd : AV} (hc : cellsOf H c = some [.ptr p 0]) (hq : cellsOf H q = some [.int .i64 (b : Int),.int .i64 s,.int .i64 w,.int .i64 a,.int .i64 r]) (ap : p ≠ sb ∧ B ≠ sb ∧ c ≠ p ∧ c ≠ sb ∧ q ≠ p ∧ q ≠ sb) (lt : p < H.length ∧ B < H.length ∧ sb < H.length) (hnb : Bt.newN (b : Int) = nb) (n1 : 1 ≤ nb) (b1 : 1 ≤ b) (b2 : b ≤ 1000) (cd : vd.isCell = true) (hk : k1 + 8 * (4 + nb + b) ≤ zs.length)
include uz lz hc hq ap lt hnb n1 b1 b2 cd hk
set_option maxHeartbeats 16000000 in
theorem decL1 (x0 x1 x3 x4 x5 x6 x13 x14 x15 x16 x17 x18 x19 x20 x21 x22 x23 x24 x25 x26 x27 x28 x29 x30 x31 x32 x33 x34 x35 x36 x37 x38 x39 x40 x41 x42 x43 x44 x45 x46 x47 x48 x49 x50 x51 x52 x53 x54 x55 x56 x57 x58 x59 x88 x89 x90 x91 x92 x93 x94 x95 x96 x97 x98 x99 x100 x101 x102 x103 x104 x105 x106 x107 x108 x109 x110 x111 : AV) : ∀ (m i : Nat) (K : zAc) (vs : AV) (rows : List (List AV)) (j11 j12 j61 j62 j63 j64 j65 j66 j67 j68 j69 j70 j71 j72 j73 j74 j75 j76 j77 j78 j79 j80 j81 j82 j83 j84 j85 j86 j87 : AV),Fr H K (fun x=>x = p ∨ x = sb) → RdS K p B (k1 + i * (4 + nb + b)) zs → K[sb]? = some (.rw [vd,vs,.int .i64 nx,.int .i64 kd,.int .i64 pd,.nilSl]) → Gc K H.length vs ((zDe nb b 8 (zs.drop k1)).take (min i cnt)) rows → (∀ r ∈ rows,∀ x ∈ r,∀ z,slb x = some z → H.length ≤ z) → i + m = 8 →
  Outs (LP1 l11x1 [x0,x1,.ptr q 0,x3,x4,x5,x6,.fn 33 [.ptr c 0],.fn 35 [.ptr c 0],.ptr sb 0,.int .i64 (cnt : Int),j11,j12,x13,x14,x15,x16,x17,x18,x19,x20,x21,x22,x23,x24,x25,x26,x27,x28,x29,x30,x31,x32,x33,x34,x35,x36,x37,x38,x39,x40,x41,x42,x43,x44,x45,x46,x47,x48,x49,x50,x51,x52,x53,x54,x55,x56,x57,x58,x59,.int .i64 (i : Int),j61,j62,j63,j64,j65,j66,j67,j68,j69,j70,j71,j72,j73,j74,j75,j76,j77,j78,j79,j80,j81,j82,j83,j84,j85,j86,j87,x88,x89,x90,x91,x92,x93,x94,x95,x96,x97,x98,x99,x100,x101,x102,x103,x104,x105,x106,x107,x108,x109,x110,x111] K) fun e t K'=>e = .exit 3 ∧ (∃ vs rows,Fr H K' (fun x=>x = p ∨ x = sb) ∧ RdS K' p B (k1 + 8 * (4 + nb + b)) zs ∧ K'[sb]? = some (.rw [vd,vs,.int .i64 nx,.int .i64 kd,.int .i64 pd,.nilSl]) ∧ Gc K' H.length vs ((zDe nb b 8 (zs.drop k1)).take (min 8 cnt)) rows ∧ (∀ r ∈ rows,∀ x ∈ r,∀ z,slb x = some z → H.length ≤ z)) ∧ ∃ fv : Nat → AV,t = [x0,x1,.ptr q 0,x3,x4,x5,x6,.fn 33 [.ptr c 0],.fn 35 [.ptr c 0],.ptr sb 0,.int .i64 (cnt : Int),(fv 11),(fv 12),x13,x14,x15,x16,x17,x18,x19,x20,x21,x22,x23,x24,x25,x26,x27,x28,x29,x30,x31,x32,x33,x34,x35,x36,x37,x38,x39,x40,x41,x42,x43,x44,x45,x46,x47,x48,x49,x50,x51,x52,x53,x54,x55,x56,x57,x58,x59,(fv 60),(fv 61),(fv 62),(fv 63),(fv 64),(fv 65),(fv 66),(fv 67),(fv 68),(fv 69),(fv 70),(fv 71),(fv 72),(fv 73),(fv 74),(fv 75),(fv 76),(fv 77),(fv 78),(fv 79),(fv 80),(fv 81),(fv 82),(fv 83),(fv 84),(fv 85),(fv 86),(fv 87),x88,x89,x90,x91,x92,x93,x94,x95,x96,x97,x98,x99,x100,x101,x102,x103,x104,x105,x106,x107,x108,x109,x110,x111]:=by
 intro m
 obtain ⟨L0,hL0⟩ : ∃ L,L = LP1 l11x1:=⟨_,rfl⟩
 have lo:=zAp hL0
 obtain ⟨a1,a2,a3,a4,a5,a6⟩:=ap
 obtain ⟨sz,hsz⟩ : ∃ sz,4 + nb + b = sz:=⟨_,rfl⟩
 rw [hsz] at hk
 simp only [hsz]
 rw [← hL0]
 induction m with
 | zero =>
  intro i K vs rows j11 j12 j61 j62 j63 j64 j65 j66 j67 j68 j69 j70 j71 j72 j73 j74 j75 j76 j77 j78 j79 j80 j81 j82 j83 j84 j85 j86 j87 fK rr hs g ro hi
  obtain rfl : i = 8:=by omega
  have hd : decide (((8 : Nat) : Int) < 8) = false:=rfl
  rw [lo]
  unfold l11x1
  simp -implicitDefEqProofs (maxSteps:=5000000) only [go_sem,simprocAttr,hd,zAg,zAb]
  exact ⟨⟨vs,rows,fK,rr,hs,g,ro⟩,exF rfl⟩
 | succ m ih =>
  intro i K vs rows j11 j12 j61 j62 j63 j64 j65 j66 j67 j68 j69 j70 j71 j72 j73 j74 j75 j76 j77 j78 j79 j80 j81 j82 j83 j84 j85 j86 j87 fK rr hs g ro hi
  have hd : decide ((i : Int) < 8) = true:=decide_eq_true (by omega)
  have e2 : IntKind.i64.wrap ((i : Int) + 1) = ((i + 1 : Nat) : Int):=by rw [zAk (by omega) (by omega)]; omega
  have kl:=fK.1
  have im : i * sz + sz ≤ 8 * sz:=by
   have:=Nat.mul_le_mul_right sz (show i + 1 ≤ 8 by omega)
   rw [Nat.add_mul,Nat.one_mul] at this; exact this
  have cc:=fK.cells hc (by rintro (h | h) <;> omega)
  obtain ⟨vn,vt,Kb,Kc,Kd,Ke,Kg,d1,d2,d3,d4,d5,d6,d7,wr,ct,fb,fc,fd,fe,fg,fh,rh,sr,lg,ox⟩:=decSlot uz lz rr cc a3 (by rw [hsz]; omega) hnb n1 b1 b2
  rw [hsz] at rh
  obtain ⟨x,hx⟩ : ∃ x,x = snOf nb b (zs.drop (k1 + i * sz)):=⟨_,rfl⟩
  rw [← hx] at sr
  have gx : (zDe nb b 8 (zs.drop k1))[i]? = some x:=by rw [zH2 nb b 8 _ i (by omega),List.drop_drop,hx,hsz]
  have nl:=zEs nb b 8 (zs.drop k1)
  generalize zDe nb b 8 (zs.drop k1) = SN at *
  generalize getS ((zs.drop (k1 + i * sz)).take 4) = id at *
  obtain ⟨Kh,hKh⟩ : ∃ Kh,Kh = Kg.set K.length (.rw [.int .i64 id,.sl (Kc.length + 1) 0 1 nb nb false,vt]):=⟨_,rfl⟩
  rw [← hKh] at wr fh rh sr
  have lh : Kh.length = Kg.length:=by rw [hKh]; simp
  have hxx : cellsOf Kh K.length = some [.int .i64 id,.sl (Kc.length + 1) 0 1 nb nb false,vt]:=by rw [hKh]; exact zAl (zBe _ _ _ lg)
  have cq : cellsOf K q = some [.int .i64 (b : Int),.int .i64 s,.int .i64 w,.int .i64 a,.int .i64 r]:=fK.cells hq (by rintro (h | h) <;> omega)
  have cqa : ∀ X,cellsOf (K ++ [X]) q = some [.int .i64 (b : Int),.int .i64 s,.int .i64 w,.int .i64 a,.int .i64 r]:=fun X=>zBp cq
  have cqb:=fb.cells cq a5
  have cqc:=fc.cells cq a5
  have cqd:=fd.cells cq a5
  have cqe:=fe.cells cq a5
  have cqg:=fg.cells cq a5
  have cqf : ∀ X,cellsOf (Ke ++ [X]) q = some [.int .i64 (b : Int),.int .i64 s,.int .i64 w,.int .i64 a,.int .i64 r]:=fun X=>zBp cqe
  have hsh : Kh[sb]? = some (.rw [vd,vs,.int .i64 nx,.int .i64 kd,.int .i64 pd,.nilSl]):=fh.at hs (by show ¬ sb = p; omega)
  have csh:=zAl hsh
  have og:=g.g.out
  have gh : Gc Kh H.length vs (SN.take (min i cnt)) rows:=g.frT fh (fun z hz h=>by have:=og z hz; omega) fun r hr y hy z hz h=>by have:=ro r hr y hy z hz; omega
  have ogh:=gh.g.out
  have eo : k1 + i * sz + sz = k1 + (i + 1) * sz:=by rw [Nat.add_mul,Nat.one_mul]; omega
  rw [eo] at rh
  have fHh : Fr H Kh (fun x=>x = p ∨ x = sb):=fK.trans fh fun z hz h=>.inl h
  have key:=ih (i + 1)
  rw [lo]
  unfold l11x1
  by_cases hlt : i < cnt
  ·have dl : decide ((i : Int) < (cnt : Int)) = true:=decide_eq_true (by omega)
   have tk : SN.take (min (i + 1) cnt) = SN.take (min i cnt) ++ [x]:=by
    rw [Nat.min_eq_left (by omega),Nat.min_eq_left (by omega),List.take_add_one,gx]; rfl
   rw [tk] at key
   obtain ⟨Ki,hKi⟩ : ∃ Ki,Ki = Kh ++ [ABlk.rw [.int .i64 id,.sl (Kc.length + 1) 0 1 nb nb false,vt]]:=⟨_,rfl⟩
   have Ai : Adds Kh Ki:=⟨_,hKi⟩
   have li : Ki.length = Kh.length + 1:=by rw [hKi]; simp
   have gi:=gh.adds Ai
   have ogi:=gi.g.out
   obtain ⟨v',Kj,ea,gj,fj,sj,lj,cj1,cj2⟩:=Gc.push (d:=ty 3 true 56 [.int .i64 0,.nilSl,.nilSl]) rfl (by decide) (by decide) gi (s:=Kh.length) (r:=[.int .i64 id,.sl (Kc.length + 1) 0 1 nb nb false,vt]) (x:=x) (by rw [hKi]; unfold cellsOf; simp) (sr.fr (Fr.adds Ai (fun _=>False)) fun _ _ _ _ h=>h) (fun y hy z hz h=>by
    have h1:=ox y hy z hz
    have h2:=(og z h).2
    omega) (by rw [List.length_take]; omega) (by omega)
   have hsj : Kj[sb]? = some (.rw [vd,vs,.int .i64 nx,.int .i64 kd,.int .i64 pd,.nilSl]):=fj.at (Ai.at hsh) fun h=>by have:=(og sb h).1; omega
   have wr2 : zA3 Kj sb 1 [v'] = some (Kj.set sb (.rw [vd,v',.int .i64 nx,.int .i64 kd,.int .i64 pd,.nilSl])):=by
    rw [zA2 hsj,if_pos ⟨by simp,by simp [cj2]⟩]; rfl
   have fHj : Fr H (Kj.set sb (.rw [vd,v',.int .i64 nx,.int .i64 kd,.int .i64 pd,.nilSl])) (fun x=>x = p ∨ x = sb):=by
    refine ⟨by simp; omega,fun z hz hn=>?_⟩
    rw [zAn _ _ _ _ (fun h=>hn (.inr h)),fj.2 z (by omega) (fun h=>by have:=(og z h).1; omega),hKi,List.getElem?_append_left (by omega)]
    exact fHh.2 z hz hn
   have rj : RdS (Kj.set sb (.rw [vd,v',.int .i64 nx,.int .i64 kd,.int .i64 pd,.nilSl])) p B (k1 + (i + 1) * sz) zs:=Fr.rd (Fr.rd (rh.adds Ai) fj (fun h=>by have:=(og _ h).1; omega) (fun h=>by have:=(og _ h).1; omega)) (Fr.set (F:=(· = sb)) _ _ rfl) (by omega) (by omega)
   have ro2 : ∀ r ∈ rows ++ [[AV.int .i64 id,.sl (Kc.length + 1) 0 1 nb nb false,vt]],∀ y ∈ r,∀ z,slb y = some z → H.length ≤ z:=fun r hr y hy z hz=>by
    rcases List.mem_append.1 hr with hr | hr
    ·exact ro r hr y hy z hz
    ·rw [List.mem_singleton.1 hr] at hy
     have:=ox y hy z hz; omega
   have gj2 : Gc (Kj.set sb (.rw [vd,v',.int .i64 nx,.int .i64 kd,.int .i64 pd,.nilSl])) H.length v' (SN.take (min i cnt) ++ [x]) (rows ++ [[AV.int .i64 id,.sl (Kc.length + 1) 0 1 nb nb false,vt]]):=gj.frT (Fr.set (F:=(· = sb)) _ _ rfl) (fun z hz h=>by rw [sj] at hz; injection hz with hz; omega) fun r hr y hy z hz h=>by have:=ro2 r hr y hy z hz; omega
   have hKi:=hKi.symm
   simp -implicitDefEqProofs (maxSteps:=5000000) only [go_sem,simprocAttr,itr,itq,zGq,hd,cq,cqa,cqb,cqc,cqd,cqe,cqf,cqg,d1,d2,d3,d4,d5,d6,d7,ct.1,ct.2,zAx,zAe,wr,dl,csh,hxx,hKi,ea,cj1,wr2,e2]
   exact key (Kj.set sb (.rw [vd,v',.int .i64 nx,.int .i64 kd,.int .i64 pd,.nilSl])) v' (rows ++ [[AV.int .i64 id,.sl (Kc.length + 1) 0 1 nb nb false,vt]]) _ _ _ _ _ _ _ _ _ _ _ _ _ _ _ _ _ _ _ _ _ _ _ _ _ _ _ _ _ fHj rj (zBe _ _ _ (by omega)) gj2 ro2 (by omega)
  ·have dl : decide ((i : Int) < (cnt : Int)) = false:=decide_eq_false (by omega)
   have tk : min (i + 1) cnt = min i cnt:=by omega
   rw [tk] at key
   simp -implicitDefEqProofs (maxSteps:=5000000) only [go_sem,simprocAttr,itr,itq,zGq,hd,cq,cqa,cqb,cqc,cqd,cqe,cqf,cqg,d1,d2,d3,d4,d5,d6,d7,ct.1,ct.2,zAx,zAe,wr,dl,e2]
   exact key Kh vs rows _ _ _ _ _ _ _ _ _ _ _ _ _ _ _ _ _ _ _ _ _ _ _ _ _ _ _ _ _ fHh rh hsh gh ro (by omega)
end
end Go.Proofs.Ythgflkfhjnbheaa.G14
end
section
namespace Go.Proofs.Ythgflkfhjnbheaa.G14
open Go Go.Proofs.Ythgflkfhjnbheaa.Eng
theorem zHu {α : Type} [DecidableEq α] (x y : α) (l m : List α) : decide (x :: l = y :: m) = (decide (x = y) && decide (l = m)):=by
 rw [Bool.eq_iff_iff,Bool.and_eq_true,decide_eq_true_eq,decide_eq_true_eq,decide_eq_true_eq,List.cons.injEq]
section
variable {H : zAc} {v w : AV} {xs ys : List Int} (gx : BS H v xs) (gy : BS H w ys) (lx : xs.length ≤ 1000000000000)
include gx gy lx
set_option maxHeartbeats 4000000 in
theorem eqLB (hl : xs.length = ys.length) (x2 x3 x6 x7 x8 x9 x10 x11 : AV) : ∀ (m i : Nat) (j5 j14 j15 j16 j17 j18 j19 j20 j21 j22 j23 j24 j25 : AV),i + m = xs.length →
  Outs (LP1 l39x0 [v,w,x2,x3,.bool false,j5,x6,x7,x8,x9,x10,x11,.int .i64 (xs.length : Int),.int .i64 (i : Int),j14,j15,j16,j17,j18,j19,j20,j21,j22,j23,j24,j25] H) fun e t K=>K = H ∧ ∃ fv : Nat → AV,t = [v,w,x2,x3,(fv 4),(fv 5),x6,x7,x8,x9,x10,x11,.int .i64 (xs.length : Int),(fv 13),(fv 14),(fv 15),(fv 16),(fv 17),(fv 18),(fv 19),(fv 20),(fv 21),(fv 22),(fv 23),(fv 24),(fv 25)] ∧ fv 4 = .bool false ∧ ((e = .exit 0 ∧ decide (xs.drop i = ys.drop i) = true) ∨ (e = .ret ∧ decide (xs.drop i = ys.drop i) = false)):=by
 intro m
 obtain ⟨L0,hL0⟩ : ∃ L,L = LP1 l39x0:=⟨_,rfl⟩
 have lo:=zAp hL0
 rw [← hL0]
 induction m with
 | zero =>
  intro i j5 j14 j15 j16 j17 j18 j19 j20 j21 j22 j23 j24 j25 hi
  obtain rfl : i = xs.length:=by omega
  have hd : decide ((xs.length : Int) < (xs.length : Int)) = false:=by simp
  have e : decide (xs.drop xs.length = ys.drop xs.length) = true:=by rw [List.drop_length,hl,List.drop_length]; rfl
  rw [e,lo]
  unfold l39x0
  simp -implicitDefEqProofs (maxSteps:=5000000) only [go_sem,simprocAttr,hd,zAg,zAb]
  exact exF2 rfl (by first | exact ⟨rfl,.inl rfl⟩ | exact ⟨rfl,trivial⟩ | rfl | exact ⟨rfl,.inl trivial⟩)
 | succ m ih =>
  intro i j5 j14 j15 j16 j17 j18 j19 j20 j21 j22 j23 j24 j25 hi
  have hlt : i < xs.length:=by omega
  have hd : decide ((i : Int) < (xs.length : Int)) = true:=decide_eq_true (by omega)
  have e2 : IntKind.i64.wrap ((i : Int) + 1) = ((i + 1 : Nat) : Int):=by rw [zAk (by omega) (by omega)]; omega
  have hx:=List.getElem?_eq_getElem hlt
  have hy:=List.getElem?_eq_getElem (show i < ys.length by omega)
  have key:=ih (i + 1)
  rw [List.drop_eq_getElem_cons hlt,List.drop_eq_getElem_cons (show i < ys.length by omega),zHu]
  generalize xs[i] = x at *
  generalize ys[i] = y at *
  obtain ⟨a1,ix,ld⟩:=gx.idx hx .i64
  obtain ⟨a2,iy,le⟩:=gy.idx hy .i64
  rw [lo]
  unfold l39x0
  by_cases h : x = y
  ·have hn : (x != y) = false:=by simp [h]
   rw [decide_eq_true h,Bool.true_and]
   simp -implicitDefEqProofs (maxSteps:=5000000) only [go_sem,simprocAttr,itr,itq,hd,ix,ld,iy,le,hn,e2]
   exact key _ _ _ _ _ _ _ _ _ _ _ _ _ (by omega)
  ·have hn : (x != y) = true:=bne_iff_ne.2 h
   rw [decide_eq_false h,Bool.false_and]
   simp -implicitDefEqProofs (maxSteps:=5000000) only [go_sem,simprocAttr,itr,itq,hd,ix,ld,iy,le,hn,zAj,zAb]
   exact exF2 rfl (by first | exact ⟨rfl,.inr rfl⟩ | exact ⟨rfl,trivial⟩ | rfl | exact ⟨rfl,.inr trivial⟩)
theorem eqCB : (envL prog).call 39 [v,w] H = some (.bool (decide (xs = ys)),H):=by
 have wx:=gx.len
 have wy:=gy.len
 by_cases hl : xs.length = ys.length
 case neg =>
  have hn : ((xs.length : Int) != (ys.length : Int)) = true:=bne_iff_ne.2 (by omega)
  rw [decide_eq_false (fun e=>hl (by rw [e])),c39]
  unfold b39
  simp -implicitDefEqProofs (maxSteps:=5000000) only [go_sem,simprocAttr,itr,itq,wx,wy,hn]
 have hn : ((xs.length : Int) != (ys.length : Int)) = false:=by simp [hl]
 have l0:=eqLB gx gy lx hl (m:=xs.length) (i:=0)
 rw [show ((0 : Nat) : Int) = 0 from rfl,List.drop_zero,List.drop_zero] at l0
 have key : Outs (runC (envL prog) (b39 (envL prog)) ([v,w] ++ List.replicate (26 - [v,w].length) .undef) H) fun e' t K=>K = H ∧ fin [.tmp 4] (some (e',t,K)) = some (.bool (decide (xs = ys)),K):=by
  unfold b39
  generalize hQ : (fun (e' : Ex) (t : T) (K : zAc)=>K = H ∧ fin [.tmp 4] (some (e',t,K)) = some (AV.bool (decide (xs = ys)),K)) = Q
  simp -implicitDefEqProofs (maxSteps:=5000000) only [go_sem,simprocAttr,itr,itq,zAi,wx,wy,hn]
  unfold LP1 at l0
  generalize (envL prog).loop (runC (envL prog) (l39x0 (envL prog))) = L0 at l0 ⊢
  refine zAq (fun r=>seqR (zAt 0 r) _) (l0 _ _ _ _ _ _ _ _ _ _ _ _ _ _ _ _ _ _ _ _ _ (by omega)) ?_
  rintro e t K ⟨rfl,fv,rfl,f4,⟨rfl,ho⟩ | ⟨rfl,ho⟩⟩
  ·rw [ho] at hQ
   simp -implicitDefEqProofs (maxSteps:=5000000) only [go_sem,simprocAttr,zAb]
   subst hQ
   refine ⟨rfl,?_⟩
   simp -implicitDefEqProofs (maxSteps:=5000000) only [go_sem,simprocAttr]
  ·rw [ho] at hQ
   simp -implicitDefEqProofs (maxSteps:=5000000) only [go_sem,simprocAttr,zAb]
   subst hQ
   refine ⟨rfl,?_⟩
   simp -implicitDefEqProofs (maxSteps:=5000000) only [go_sem,simprocAttr,f4]
 obtain ⟨e',t,K,hr,rfl,hf⟩:=key
 rw [c39,hr,hf]; exact zBo rfl
end
section
variable {H : zAc} {v w : AV} {xs ys : List Int} (gx : IS H v xs) (gy : IS H w ys) (lx : xs.length ≤ 1000000000000)
include gx gy lx
set_option maxHeartbeats 4000000 in
theorem eqLI (hl : xs.length = ys.length) (x2 x3 x6 x7 x8 x9 x10 x11 : AV) : ∀ (m i : Nat) (j5 j14 j15 j16 j17 j18 j19 j20 j21 j22 j23 j24 j25 : AV),i + m = xs.length →
  Outs (LP1 l59x0 [v,w,x2,x3,.bool false,j5,x6,x7,x8,x9,x10,x11,.int .i64 (xs.length : Int),.int .i64 (i : Int),j14,j15,j16,j17,j18,j19,j20,j21,j22,j23,j24,j25] H) fun e t K=>K = H ∧ ∃ fv : Nat → AV,t = [v,w,x2,x3,(fv 4),(fv 5),x6,x7,x8,x9,x10,x11,.int .i64 (xs.length : Int),(fv 13),(fv 14),(fv 15),(fv 16),(fv 17),(fv 18),(fv 19),(fv 20),(fv 21),(fv 22),(fv 23),(fv 24),(fv 25)] ∧ fv 4 = .bool false ∧ ((e = .exit 0 ∧ decide (xs.drop i = ys.drop i) = true) ∨ (e = .ret ∧ decide (xs.drop i = ys.drop i) = false)):=by
 intro m
 obtain ⟨L0,hL0⟩ : ∃ L,L = LP1 l59x0:=⟨_,rfl⟩
 have lo:=zAp hL0
 rw [← hL0]
 induction m with
 | zero =>
  intro i j5 j14 j15 j16 j17 j18 j19 j20 j21 j22 j23 j24 j25 hi
  obtain rfl : i = xs.length:=by omega
  have hd : decide ((xs.length : Int) < (xs.length : Int)) = false:=by simp
  have e : decide (xs.drop xs.length = ys.drop xs.length) = true:=by rw [List.drop_length,hl,List.drop_length]; rfl
  rw [e,lo]
  unfold l59x0
  simp -implicitDefEqProofs (maxSteps:=5000000) only [go_sem,simprocAttr,hd,zAg,zAb]
  exact exF2 rfl (by first | exact ⟨rfl,.inl rfl⟩ | exact ⟨rfl,trivial⟩ | rfl | exact ⟨rfl,.inl trivial⟩)
 | succ m ih =>
  intro i j5 j14 j15 j16 j17 j18 j19 j20 j21 j22 j23 j24 j25 hi
  have hlt : i < xs.length:=by omega
  have hd : decide ((i : Int) < (xs.length : Int)) = true:=decide_eq_true (by omega)
  have e2 : IntKind.i64.wrap ((i : Int) + 1) = ((i + 1 : Nat) : Int):=by rw [zAk (by omega) (by omega)]; omega
  have hx:=List.getElem?_eq_getElem hlt
  have hy:=List.getElem?_eq_getElem (show i < ys.length by omega)
  have key:=ih (i + 1)
  rw [List.drop_eq_getElem_cons hlt,List.drop_eq_getElem_cons (show i < ys.length by omega),zHu]
  generalize xs[i] = x at *
  generalize ys[i] = y at *
  obtain ⟨a1,ix,ld⟩:=gx.idx hx .i64
  obtain ⟨a2,iy,le⟩:=gy.idx hy .i64
  rw [lo]
  unfold l59x0
  by_cases h : x = y
  ·have hn : (x != y) = false:=by simp [h]
   rw [decide_eq_true h,Bool.true_and]
   simp -implicitDefEqProofs (maxSteps:=5000000) only [go_sem,simprocAttr,itr,itq,hd,ix,ld,iy,le,hn,e2]
   exact key _ _ _ _ _ _ _ _ _ _ _ _ _ (by omega)
  ·have hn : (x != y) = true:=bne_iff_ne.2 h
   rw [decide_eq_false h,Bool.false_and]
   simp -implicitDefEqProofs (maxSteps:=5000000) only [go_sem,simprocAttr,itr,itq,hd,ix,ld,iy,le,hn,zAj,zAb]
   exact exF2 rfl (by first | exact ⟨rfl,.inr rfl⟩ | exact ⟨rfl,trivial⟩ | rfl | exact ⟨rfl,.inr trivial⟩)
theorem eqCI : (envL prog).call 59 [v,w] H = some (.bool (decide (xs = ys)),H):=by
 have wx:=gx.len
 have wy:=gy.len
 by_cases hl : xs.length = ys.length
 case neg =>
  have hn : ((xs.length : Int) != (ys.length : Int)) = true:=bne_iff_ne.2 (by omega)
  rw [decide_eq_false (fun e=>hl (by rw [e])),c59]
  unfold b59
  simp -implicitDefEqProofs (maxSteps:=5000000) only [go_sem,simprocAttr,itr,itq,wx,wy,hn]
 have hn : ((xs.length : Int) != (ys.length : Int)) = false:=by simp [hl]
 have l0:=eqLI gx gy lx hl (m:=xs.length) (i:=0)
 rw [show ((0 : Nat) : Int) = 0 from rfl,List.drop_zero,List.drop_zero] at l0
 have key : Outs (runC (envL prog) (b59 (envL prog)) ([v,w] ++ List.replicate (26 - [v,w].length) .undef) H) fun e' t K=>K = H ∧ fin [.tmp 4] (some (e',t,K)) = some (.bool (decide (xs = ys)),K):=by
  unfold b59
  generalize hQ : (fun (e' : Ex) (t : T) (K : zAc)=>K = H ∧ fin [.tmp 4] (some (e',t,K)) = some (AV.bool (decide (xs = ys)),K)) = Q
  simp -implicitDefEqProofs (maxSteps:=5000000) only [go_sem,simprocAttr,itr,itq,zAi,wx,wy,hn]
  unfold LP1 at l0
  generalize (envL prog).loop (runC (envL prog) (l59x0 (envL prog))) = L0 at l0 ⊢
  refine zAq (fun r=>seqR (zAt 0 r) _) (l0 _ _ _ _ _ _ _ _ _ _ _ _ _ _ _ _ _ _ _ _ _ (by omega)) ?_
  rintro e t K ⟨rfl,fv,rfl,f4,⟨rfl,ho⟩ | ⟨rfl,ho⟩⟩
  ·rw [ho] at hQ
   simp -implicitDefEqProofs (maxSteps:=5000000) only [go_sem,simprocAttr,zAb]
   subst hQ
   refine ⟨rfl,?_⟩
   simp -implicitDefEqProofs (maxSteps:=5000000) only [go_sem,simprocAttr]
  ·rw [ho] at hQ
   simp -implicitDefEqProofs (maxSteps:=5000000) only [go_sem,simprocAttr,zAb]
   subst hQ
   refine ⟨rfl,?_⟩
   simp -implicitDefEqProofs (maxSteps:=5000000) only [go_sem,simprocAttr,f4]
 obtain ⟨e',t,K,hr,rfl,hf⟩:=key
 rw [c59,hr,hf]; exact zBo rfl
end
theorem zP9 {H : zAc} {v : AV} {zs : List Int} (b : BS H v zs) (h0 : zs ≠ []) (hn : zs.length ≤ 100000) : (envL prog).call 32 [v] H = some (.ptr (H.length + 2) 0,H ++ [ABlk.rw [],.rw (u8s zs),.rw [rdV (H.length + 1) 0 zs.length]]):=by
 obtain ⟨w,G,o,ec⟩:=Bt.cloneC b hn
 obtain ⟨rfl,rfl⟩:=zSn o h0
 rw [show rdV (H.length + 1) 0 zs.length = .sl (H.length + 1) 0 1 zs.length zs.length false from rfl,c32]
 unfold b32
 simp -implicitDefEqProofs (maxSteps:=5000000) only [go_sem,simprocAttr,itr,itq,ec]
end Go.Proofs.Ythgflkfhjnbheaa.G14
end
section
namespace Go.Proofs.Ythgflkfhjnbheaa.G14
open Go Go.Proofs.Ythgflkfhjnbheaa.Eng
theorem zLd {nb b : Nat} : ∀ {k : Nat} {z : List Int} {s : SnS},s ∈ zDe nb b k z → ∃ i,s = snOf nb b (z.drop i)
 | 0,z,s,h=>by unfold zDe at h; cases h
 | k + 1,z,s,h=>by
  unfold zDe at h
  rcases List.mem_cons.1 h with rfl | h
  ·exact ⟨0,by rw [List.drop_zero]⟩
  ·obtain ⟨i,rfl⟩:=zLd h
   exact ⟨_,by rw [List.drop_drop]⟩
theorem zOe (z : List Int) : (unmS z).length ≤ z.length:=zJt z 0
theorem sn_fit {nb b i : Nat} {z : List Int} (uz : IsU8 z) (hn : nb ≤ 1000) (hb : b ≤ 1000) : (snOf nb b (z.drop i)).Fit:=by
 refine ⟨fun x hx=>uz x (List.mem_of_mem_drop (List.mem_of_mem_drop (List.mem_of_mem_take hx))),?_,?_⟩
 ·show ((((z.drop i).drop 4).take nb)).length ≤ 1000
  rw [List.length_take]; omega
 ·show (unmS (((z.drop i).drop (4 + nb)).take b)).length ≤ 1000
  have:=zOe (((z.drop i).drop (4 + nb)).take b)
  rw [List.length_take] at this; omega
theorem zNd {n nb b : Nat} {z : List Int} (uz : IsU8 z) (hn : nb ≤ 1000) (hb : b ≤ 1000) : FitS (rawT n nb b z):=by
 refine ⟨⟨?_,fun s hs=>?_⟩,?_⟩
 ·show ((zDe nb b 8 (z.drop (10 + n))).take _).length ≤ _
  have:=zEs nb b 8 (z.drop (10 + n))
  rw [List.length_take]; omega
 ·obtain ⟨i,rfl⟩:=zLd (List.mem_of_mem_take hs)
  rw [List.drop_drop]
  exact sn_fit uz hn hb
 ·show (unmS ((z.drop _).take b)).length ≤ 1000
  have:=zOe ((z.drop (10 + n + 8 * (4 + nb + b))).take b)
  rw [List.length_take] at this; omega
theorem zLs {n nb b : Nat} {z : List Int} {c : Int} (h : z[4]? = some c) : (rawT n nb b z).snaps = (zDe nb b 8 (z.drop (10 + n))).take (min 8 c.toNat):=by
 show (zDe nb b 8 (z.drop (10 + n))).take ((z[4]?).getD 0).toNat = _
 rw [h,Option.getD_some]
 have:=zEs nb b 8 (z.drop (10 + n))
 by_cases h8 : c.toNat ≤ 8
 ·rw [Nat.min_eq_right h8]
 ·rw [Nat.min_eq_left (by omega),List.take_of_length_le (by omega),List.take_of_length_le (by omega)]
theorem zEv {n nb b : Nat} {z : List Int} : (rawT n nb b z).dirty = ((z.drop 10).take n).map (· - 1):=rfl
theorem zLt {n nb b : Nat} {z : List Int} : (rawT n nb b z).pairs = unmS ((z.drop (10 + n + 8 * (4 + nb + b))).take b):=rfl
end Go.Proofs.Ythgflkfhjnbheaa.G14
end
section
namespace Go.Proofs.Ythgflkfhjnbheaa.G14
open Go Go.Proofs.Ythgflkfhjnbheaa.Eng
def zC0 (n nb b : Nat) : Nat:=10 + n + 8 * (4 + nb + b) + b
theorem zHr {b : Int} (h : 1 ≤ b ∧ b ≤ 64) : Bt.newN b = ((b + 7) / 8).toNat ∧ 1 ≤ Bt.newN b ∧ Bt.newN b ≤ 8:=by
 unfold Bt.newN
 rw [if_neg (by omega)]
 exact ⟨rfl,by omega,by omega⟩
theorem zHw {b s w a : Int} (g : Geo b s w a) : Gm.bytesW b s w = (zC0 (s * w).toNat (Bt.newN b) b.toNat : Int):=by
 obtain ⟨n,hn,n1,n2⟩:=g.sw
 obtain ⟨e1,e2,e3⟩:=zHr g.b1
 have b1:=g.b1
 have q : (IntKind.i64.wrap (b + 7)).tdiv 8 = (b + 7) / 8:=by
  rw [zAk (by omega) (by omega),Int.tdiv_eq_ediv_of_nonneg (by omega)]
 have q2 : (b + 7) / 8 = (Bt.newN b : Int):=by rw [e1]; omega
 unfold Gm.bytesW zC0
 rw [q,q2,hn,Int.toNat_natCast]
 generalize Bt.newN b = nb at *
 rw [zAk (show -9223372036854775808 ≤ (nb : Int) by omega) (by omega),zAk (show -9223372036854775808 ≤ (n : Int) by omega) (by omega)]
 rw [zAk (n:=4 + (nb : Int)) (by omega) (by omega),zAk (n:=4 + (nb : Int) + b) (by omega) (by omega),zAk (n:=8 * (4 + (nb : Int) + b)) (by omega) (by omega),zAk (n:=10 + (n : Int)) (by omega) (by omega),zAk (n:=10 + (n : Int) + b) (by omega) (by omega),zAk (by omega) (by omega)]
 omega
section
variable {b s w a r : Int} {H : zAc} {v : AV} {z : List Int} (bz : BS H v z)
include bz
set_option maxHeartbeats 4000000 in
theorem decBadG (hg : Gm.goodB b s w a r = false) : (envL prog).call 11 [.agg [.int .i64 b,.int .i64 s,.int .i64 w,.int .i64 a,.int .i64 r],v] H = some (.tup [.agg [.nilSl,.nilSl,.int .i64 0,.int .i64 0,.int .i64 0,.nilSl],.int .i64 1],H):=by
 have eg:=Gm.goodL b s w a r
 unfold Gm.geo at eg
 rw [hg] at eg
 rw [c11]
 unfold b11
 simp -implicitDefEqProofs (maxSteps:=5000000) only [go_sem,simprocAttr,itr,itq,eg]
set_option maxHeartbeats 4000000 in
theorem decBadL (hg : Gm.goodB b s w a r = true) (hl : z.length ≠ zC0 (s * w).toNat (Bt.newN b) b.toNat) : (envL prog).call 11 [.agg [.int .i64 b,.int .i64 s,.int .i64 w,.int .i64 a,.int .i64 r],v] H = some (.tup [.agg [.nilSl,.nilSl,.int .i64 0,.int .i64 0,.int .i64 0,.nilSl],.int .i64 11],H):=by
 have eg:=Gm.goodL b s w a r
 have eb:=Gm.bytesG b s w a r
 unfold Gm.geo at eg eb
 unfold Gm.byB at eb
 rw [hg,cond_true,zHw (zDb hg)] at eb
 rw [hg] at eg
 have wl:=bz.len
 have hn : ((z.length : Int) != (zC0 (s * w).toNat (Bt.newN b) b.toNat : Int)) = true:=bne_iff_ne.2 (by omega)
 rw [c11]
 unfold b11
 simp -implicitDefEqProofs (maxSteps:=5000000) only [go_sem,simprocAttr,itr,itq,eg,eb,wl,hn]
end
end Go.Proofs.Ythgflkfhjnbheaa.G14
end
section
namespace Go.Proofs.Ythgflkfhjnbheaa.G14
open Go Go.Proofs.Ythgflkfhjnbheaa.Eng
theorem decHead {zs : List Int} (uz : IsU8 zs) (lz : zs.length ≤ 100000) {K : zAc} {p B c : Nat} (r : RdS K p B 0 zs) (hc : cellsOf K c = some [.ptr p 0]) (cp : c ≠ p) (h10 : 10 ≤ zs.length) {n1 c4 kd pid : Int} (q1 : n1 = getS ((zs.drop 0).take 4)) (q2 : c4 = getS ((zs.drop 4).take 1)) (q3 : kd = getS ((zs.drop 5).take 1)) (q4 : pid = getS ((zs.drop 6).take 4)) : ∃ A1 A2 A3 A4 H5 H6,
  (envL prog).call 33 [.int .i64 4,.ptr c 0] K = some (.int .i64 n1,A1) ∧ A1.length = K.length ∧
  (envL prog).call 33 [.int .i64 1,.ptr c 0] (A1 ++ [ABlk.rw [.nilSl,.nilSl,.int .i64 n1,.int .i64 0,.int .i64 0,.nilSl]]) = some (.int .i64 c4,A2) ∧
  (envL prog).call 33 [.int .i64 1,.ptr c 0] A2 = some (.int .i64 kd,A3) ∧
  (envL prog).call 33 [.int .i64 4,.ptr c 0] A3 = some (.int .i64 pid,A4) ∧
  zA3 A4 K.length 3 [.int .i64 kd] = some H5 ∧ zA3 H5 K.length 4 [.int .i64 pid] = some H6 ∧
  Fr K H6 (· = p) ∧ RdS H6 p B 10 zs ∧ H6[K.length]? = some (.rw [.nilSl,.nilSl,.int .i64 n1,.int .i64 kd,.int .i64 pid,.nilSl]) ∧ H6.length = K.length + 1:=by
 have lp:=zA8 r.pt
 have lB:=zA8 r.bt
 have e1:=zQi r (m:=4) (by omega) (by omega) lz (by omega) uz hc
 obtain ⟨A1,hA1⟩ : ∃ A1,A1 = K.set p (.rw [rdV B (0 + 4) zs.length]):=⟨_,rfl⟩
 have r1 : RdS A1 p B 4 zs:=by rw [hA1]; exact r.next
 have f1 : Fr K A1 (· = p):=by rw [hA1]; exact Fr.set _ _ rfl
 have l1 : A1.length = K.length:=by rw [hA1]; simp
 rw [← hA1,← q1,show ((4 : Nat) : Int) = 4 from rfl] at e1
 obtain ⟨H4,hH4⟩ : ∃ H4,H4 = A1 ++ [ABlk.rw [.nilSl,.nilSl,.int .i64 n1,.int .i64 0,.int .i64 0,.nilSl]]:=⟨_,rfl⟩
 have a4 : Adds A1 H4:=⟨_,hH4⟩
 have f4 : Fr K H4 (· = p):=f1.trans (Fr.adds a4 _) fun _ _ h=>h
 have l4 : H4.length = K.length + 1:=by rw [hH4]; simp [l1]
 have s4 : H4[K.length]? = some (.rw [.nilSl,.nilSl,.int .i64 n1,.int .i64 0,.int .i64 0,.nilSl]):=by rw [hH4,← l1]; simp
 have e2:=zQi (r1.adds a4) (m:=1) (by omega) (by omega) lz (by omega) uz (f4.cells hc cp)
 obtain ⟨A2,hA2⟩ : ∃ A2,A2 = H4.set p (.rw [rdV B (4 + 1) zs.length]):=⟨_,rfl⟩
 have r2 : RdS A2 p B 5 zs:=by rw [hA2]; exact (r1.adds a4).next
 have f2 : Fr H4 A2 (· = p):=by rw [hA2]; exact Fr.set _ _ rfl
 rw [← hA2,← q2,show ((1 : Nat) : Int) = 1 from rfl] at e2
 have g2 : Fr K A2 (· = p):=f4.trans f2 fun _ _ h=>h
 have e3:=zQi r2 (m:=1) (by omega) (by omega) lz (by omega) uz (g2.cells hc cp)
 obtain ⟨A3,hA3⟩ : ∃ A3,A3 = A2.set p (.rw [rdV B (5 + 1) zs.length]):=⟨_,rfl⟩
 have r3 : RdS A3 p B 6 zs:=by rw [hA3]; exact r2.next
 have f3 : Fr A2 A3 (· = p):=by rw [hA3]; exact Fr.set _ _ rfl
 rw [← hA3,← q3,show ((1 : Nat) : Int) = 1 from rfl] at e3
 have g3 : Fr K A3 (· = p):=g2.trans f3 fun _ _ h=>h
 have e4:=zQi r3 (m:=4) (by omega) (by omega) lz (by omega) uz (g3.cells hc cp)
 obtain ⟨A4,hA4⟩ : ∃ A4,A4 = A3.set p (.rw [rdV B (6 + 4) zs.length]):=⟨_,rfl⟩
 have r4 : RdS A4 p B 10 zs:=by rw [hA4]; exact r3.next
 have f5 : Fr A3 A4 (· = p):=by rw [hA4]; exact Fr.set _ _ rfl
 rw [← hA4,← q4,show ((4 : Nat) : Int) = 4 from rfl] at e4
 have g4 : Fr K A4 (· = p):=g3.trans f5 fun _ _ h=>h
 have lA4 : A4.length = K.length + 1:=by rw [hA4,hA3,hA2]; simp [l4]
 have sA : A4[K.length]? = some (.rw [.nilSl,.nilSl,.int .i64 n1,.int .i64 0,.int .i64 0,.nilSl]):=f5.at (f3.at (f2.at s4 (by omega)) (by omega)) (by omega)
 have w5 : zA3 A4 K.length 3 [.int .i64 kd] = some (A4.set K.length (.rw [.nilSl,.nilSl,.int .i64 n1,.int .i64 kd,.int .i64 0,.nilSl])):=by
  rw [zA2 sA,if_pos ⟨by simp,rfl⟩]; rfl
 obtain ⟨H5,hH5⟩ : ∃ H5,H5 = A4.set K.length (.rw [.nilSl,.nilSl,.int .i64 n1,.int .i64 kd,.int .i64 0,.nilSl]):=⟨_,rfl⟩
 rw [← hH5] at w5
 have s5 : H5[K.length]? = some (.rw [.nilSl,.nilSl,.int .i64 n1,.int .i64 kd,.int .i64 0,.nilSl]):=by rw [hH5]; exact zBe _ _ _ (by omega)
 have w6 : zA3 H5 K.length 4 [.int .i64 pid] = some (H5.set K.length (.rw [.nilSl,.nilSl,.int .i64 n1,.int .i64 kd,.int .i64 pid,.nilSl])):=by
  rw [zA2 s5,if_pos ⟨by simp,rfl⟩]; rfl
 have l5 : H5.length = K.length + 1:=by rw [hH5]; simp [lA4]
 have f6 : Fr A4 (H5.set K.length (.rw [.nilSl,.nilSl,.int .i64 n1,.int .i64 kd,.int .i64 pid,.nilSl])) (· = K.length):=by
  rw [hH5]; exact (Fr.set (F:=(· = K.length)) _ _ rfl).trans (Fr.set (F:=(· = K.length)) _ _ rfl) fun _ _ h=>h
 exact ⟨A1,A2,A3,A4,H5,_,e1,l1,by rw [← hH4]; exact e2,e3,e4,w5,w6,g4.trans f6 (fun z hz h=>by omega),Fr.rd r4 f6 (by omega) (by omega),zBe _ _ _ (by omega),by simp [l5]⟩
end Go.Proofs.Ythgflkfhjnbheaa.G14
end
section
namespace Go.Proofs.Ythgflkfhjnbheaa.G14
open Go Go.Proofs.Ythgflkfhjnbheaa.Eng
section
variable {s w a r : Int} {bN n nb : Nat} {H : zAc} {v : AV} {z : List Int} (bz : BS H v z) (uz : IsU8 z) (hg : Gm.goodB (bN : Int) s w a r = true) (hn : s * w = (n : Int)) (hnb : Bt.newN (bN : Int) = nb) (hlen : z.length = zC0 n nb bN)
include bz uz hg hn hnb hlen
set_option maxHeartbeats 32000000 in
theorem zTy : ∃ K,Adds H K ∧ ((zCp bN s w a (rawT n nb bN z) = true ∧ encT bN (rawT n nb bN z) = z ∧ ∃ vd vs vp,(envL prog).call 11 [.agg [.int .i64 (bN : Int),.int .i64 s,.int .i64 w,.int .i64 a,.int .i64 r],v] H = some (.tup [.agg [vd,vs,.int .i64 (rawT n nb bN z).next,.int .i64 (rawT n nb bN z).kind,.int .i64 (rawT n nb bN z).pid,vp],.int .i64 0],K) ∧ ∀ K',Fr K K' (· < H.length) → StA K' vd vs vp (rawT n nb bN z)) ∨ (¬ (zCp bN s w a (rawT n nb bN z) = true ∧ encT bN (rawT n nb bN z) = z) ∧ (envL prog).call 11 [.agg [.int .i64 (bN : Int),.int .i64 s,.int .i64 w,.int .i64 a,.int .i64 r],v] H = some (.tup [.agg [.nilSl,.nilSl,.int .i64 0,.int .i64 0,.int .i64 0,.nilSl],.int .i64 11],K))):=by
 have gg:=zDb hg
 obtain ⟨n',hn',n1,n2⟩:=gg.sw
 obtain rfl : n = n':=by omega
 obtain ⟨_,nb1,nb2⟩:=zHr gg.b1
 rw [hnb] at nb1 nb2
 have bb:=gg.b1
 have eg:=Gm.goodL bN s w a r
 have eb:=Gm.bytesG bN s w a r
 unfold Gm.geo at eg eb
 unfold Gm.byB at eb
 rw [hg,cond_true,zHw gg,hn,hnb,Int.toNat_natCast,Int.toNat_natCast,← hlen] at eb
 rw [hg] at eg
 unfold zC0 at hlen
 have wl:=bz.len
 have hne : ((z.length : Int) != (z.length : Int)) = false:=by simp
 have wm : IntKind.i64.wrap (s * w) = (n : Int):=by rw [zAk (by omega) (by omega)]; exact hn
 have fit:=zNd (n:=n) uz (show nb ≤ 1000 by omega) (show bN ≤ 1000 by omega)
 obtain ⟨c4,hc4⟩ : ∃ c4,z[4]? = some c4:=⟨_,List.getElem?_eq_getElem (by omega)⟩
 obtain ⟨kd,hkd⟩ : ∃ c,z[5]? = some c:=⟨_,List.getElem?_eq_getElem (by omega)⟩
 have u4:=uz _ (List.mem_of_getElem? hc4)
 have u5:=uz _ (List.mem_of_getElem? hkd)
 obtain ⟨cnt,rfl⟩ : ∃ cnt : Nat,c4 = cnt:=⟨c4.toNat,by omega⟩
 have rs:=zLs (n:=n) (nb:=nb) (b:=bN) hc4
 rw [Int.toNat_natCast] at rs
 have rk : (rawT n nb bN z).kind = kd:=by show (z[5]?).getD 0 = kd; rw [hkd]; rfl
 obtain ⟨H1,hH1⟩ : ∃ H1,H1 = H ++ [ABlk.rw [.int .i64 (bN : Int),.int .i64 s,.int .i64 w,.int .i64 a,.int .i64 r],.rw [.nilSl,.nilSl,.int .i64 0,.int .i64 0,.int .i64 0,.nilSl]]:=⟨_,rfl⟩
 have A1 : Adds H H1:=⟨_,hH1⟩
 have l1 : H1.length = H.length + 2:=by rw [hH1]; simp
 have c0 : cellsOf H1 H.length = some [.int .i64 (bN : Int),.int .i64 s,.int .i64 w,.int .i64 a,.int .i64 r]:=by rw [hH1]; unfold cellsOf; simp
 have b0 : H1[H.length + 1]? = some (.rw [.nilSl,.nilSl,.int .i64 0,.int .i64 0,.int .i64 0,.nilSl]):=by rw [hH1]; simp
 have en:=zP9 (A1.bs bz) (fun e=>by rw [e,List.length_nil] at hlen; omega) (by omega)
 obtain ⟨H2,hH2⟩ : ∃ H2,H2 = H1 ++ [ABlk.rw [],.rw (u8s z),.rw [rdV (H1.length + 1) 0 z.length]]:=⟨_,rfl⟩
 have l2 : H2.length = H1.length + 3:=by rw [hH2]; simp
 rw [← hH2] at en
 obtain ⟨H3,hH3⟩ : ∃ H3,H3 = H2 ++ [ABlk.rw [.ptr (H1.length + 2) 0]]:=⟨_,rfl⟩
 have l3 : H3.length = H1.length + 4:=by rw [hH3]; simp [l2]
 have A13 : Adds H1 H3:=⟨[ABlk.rw [],.rw (u8s z),.rw [rdV (H1.length + 1) 0 z.length]] ++ [ABlk.rw [.ptr (H1.length + 2) 0]],by rw [hH3,hH2,List.append_assoc]⟩
 have r3 : RdS H3 (H1.length + 2) (H1.length + 1) 0 z:=⟨by rw [hH3,List.getElem?_append_left (by omega),hH2,List.getElem?_append_right (by omega),show H1.length + 2 - H1.length = 2 by omega]; rfl,by rw [hH3,List.getElem?_append_left (by omega),hH2,List.getElem?_append_right (by omega),show H1.length + 1 - H1.length = 1 by omega]; rfl,by omega⟩
 have cc : cellsOf H3 H2.length = some [.ptr (H1.length + 2) 0]:=by rw [hH3]; unfold cellsOf; simp
 obtain ⟨B1,B2,B3,B4,H5,H6,e1,lB1,e2,e3,e4,w5,w6,f6,r6,s6,l6⟩:=decHead uz (by omega) r3 cc (by omega) (by omega) (n1:=(rawT n nb bN z).next) (c4:=cnt) (kd:=kd) (pid:=(rawT n nb bN z).pid) rfl (zNp hc4 (by omega)).symm (zNp hkd (by omega)).symm rfl
 generalize hnx : (rawT n nb bN z).next = nx at *
 generalize hpd : (rawT n nb bN z).pid = pd at *
 have hH1:=hH1.symm
 have hH2:=hH2.symm
 have hH3:=hH3.symm
 have cc6:=f6.cells cc (by show ¬ H2.length = H1.length + 2; omega)
 have cq6:=f6.cells (A13.cells c0) (by show ¬ H.length = H1.length + 2; omega)
 have l0:=decL0 (H:=H6) (p:=H1.length + 2) (B:=H1.length + 1) (c:=H2.length) (sb:=H3.length) (nx:=nx) (kd:=kd) (pd:=pd) uz (by omega) cc6 ⟨by omega,by omega,by omega,by omega⟩ ⟨by omega,by omega,by omega⟩ (k0:=10) (n:=n) (by omega) (m:=n) (i:=0) (K:=H6) (vd:=.nilSl)
 rw [show ((0 : Nat) : Int) = 0 from rfl] at l0
 have cs6:=zAl s6
 have w0 : zA3 (B1 ++ [ABlk.rw [.nilSl,.nilSl,.int .i64 0,.int .i64 0,.int .i64 0,.nilSl]]) H3.length 0 [.nilSl,.nilSl,.int .i64 nx,.int .i64 0,.int .i64 0,.nilSl] = some (B1 ++ [ABlk.rw [.nilSl,.nilSl,.int .i64 nx,.int .i64 0,.int .i64 0,.nilSl]]):=by
  rw [← lB1,zC1,if_pos ⟨by simp,rfl⟩]; rfl
 have key : Outs (runC (envL prog) (b11 (envL prog)) ([.agg [.int .i64 (bN : Int),.int .i64 s,.int .i64 w,.int .i64 a,.int .i64 r],v] ++ List.replicate (112 - [AV.agg [.int .i64 (bN : Int),.int .i64 s,.int .i64 w,.int .i64 a,.int .i64 r],v].length) .undef) H) fun e' t K=>Adds H K ∧ ((zCp bN s w a (rawT n nb bN z) = true ∧ encT bN (rawT n nb bN z) = z ∧ ∃ vd vs vt,fin [.cell 4 6 true,.tmp 5] (some (e',t,K)) = some (.tup [.agg [vd,vs,.int .i64 nx,.int .i64 kd,.int .i64 pd,vt],.int .i64 0],K) ∧ (∀ K',Fr K K' (· < H.length) → StA K' vd vs vt (rawT n nb bN z)) ∧ vd.under H.length = false) ∨ (¬ (zCp bN s w a (rawT n nb bN z) = true ∧ encT bN (rawT n nb bN z) = z) ∧ fin [.cell 4 6 true,.tmp 5] (some (e',t,K)) = some (.tup [.agg [.nilSl,.nilSl,.int .i64 0,.int .i64 0,.int .i64 0,.nilSl],.int .i64 11],K))):=by
  unfold b11
  generalize hQ : (fun (e' : Ex) (t : T) (K : zAc)=>Adds H K ∧ ((zCp bN s w a (rawT n nb bN z) = true ∧ encT bN (rawT n nb bN z) = z ∧ ∃ vd vs vt,fin [.cell 4 6 true,.tmp 5] (some (e',t,K)) = some (.tup [.agg [vd,vs,.int .i64 nx,.int .i64 kd,.int .i64 pd,vt],.int .i64 0],K) ∧ (∀ K',Fr K K' (· < H.length) → StA K' vd vs vt (rawT n nb bN z)) ∧ vd.under H.length = false) ∨ (¬ (zCp bN s w a (rawT n nb bN z) = true ∧ encT bN (rawT n nb bN z) = z) ∧ fin [.cell 4 6 true,.tmp 5] (some (e',t,K)) = some (.tup [.agg [.nilSl,.nilSl,.int .i64 0,.int .i64 0,.int .i64 0,.nilSl],.int .i64 11],K)))) = Q
  simp -implicitDefEqProofs (maxSteps:=5000000) only [go_sem,simprocAttr,itr,itq,zGq,zAi,hH1,c0,eg,wl,eb,hne,en,hH3,e1,lB1,w0,e2,e3,e4,w5,w6,zAx,cq6,wm]
  unfold LP1 at l0
  generalize (envL prog).loop (runC (envL prog) (l11x0 (envL prog))) = L0 at l0 ⊢
  refine zAq (fun r=>seqR (zAt 1 r) _) (l0 _ _ _ _ _ _ _ _ _ _ _ _ _ _ _ _ _ _ _ _ _ _ _ _ _ _ _ _ _ _ _ _ _ _ _ _ _ _ _ _ _ _ _ _ _ _ _ _ _ _ _ _ _ _ _ _ _ _ _ _ _ _ _ _ _ _ _ _ _ _ _ _ _ _ _ _ _ _ _ _ _ _ _ _ _ _ _ _ _ _ _ _ _ _ _ _ _ _ _ _ _ _ _ _ _ _ _ _ (Fr.refl _ _) r6 s6 (.inl ⟨rfl,rfl⟩) (by omega)) ?_
  rintro e t K7 ⟨rfl,⟨vd,f7,r7,s7,g7⟩,fv,rfl⟩
  have k7:=f7.1
  have cc7:=f7.cells cc6 (by rintro (h | h) <;> omega)
  have cq7:=f7.cells cq6 (by rintro (h | h) <;> omega)
  have l1:=decL1 (H:=K7) (p:=H1.length + 2) (B:=H1.length + 1) (c:=H2.length) (sb:=H3.length) (q:=H.length) (nb:=nb) (b:=bN) (k1:=10 + n) (cnt:=cnt) (nx:=nx) (kd:=kd) (pd:=pd) (vd:=vd) uz (by omega) cc7 cq7 ⟨by omega,by omega,by omega,by omega,by omega,by omega⟩ ⟨by omega,by omega,by omega⟩ hnb nb1 (by omega) (by omega) (FS.cell g7).2 (by omega) (m:=8) (i:=0) (K:=K7) (vs:=.nilSl) (rows:=[])
  rw [show ((0 : Nat) : Int) = 0 from rfl,Nat.zero_mul,Nat.add_zero] at l1
  simp -implicitDefEqProofs (maxSteps:=5000000) only [go_sem,simprocAttr,itr,itq,zAi]
  unfold LP1 at l1
  generalize (envL prog).loop (runC (envL prog) (l11x1 (envL prog))) = L1 at l1 ⊢
  refine zAq (fun r=>seqR (zAt 3 r) _) (l1 _ _ _ _ _ _ _ _ _ _ _ _ _ _ _ _ _ _ _ _ _ _ _ _ _ _ _ _ _ _ _ _ _ _ _ _ _ _ _ _ _ _ _ _ _ _ _ _ _ _ _ _ _ _ _ _ _ _ _ _ _ _ _ _ _ _ _ _ _ _ _ _ _ _ _ _ _ _ _ _ _ _ _ _ _ _ _ _ _ _ _ _ _ _ _ _ _ _ _ _ _ _ _ _ _ _ (Fr.refl _ _) r7 s7 (by rw [Nat.zero_min,List.take_zero]; exact Gc.nil _ _) (fun r hr=>by cases hr) (by omega)) ?_
  rintro e t K8 ⟨rfl,⟨vs,rows,f8,r8,s8,g8,o8⟩,fw,rfl⟩
  rw [← rs] at g8
  have k8:=f8.1
  have cc8:=f8.cells cc7 (by rintro (h | h) <;> omega)
  have cq8:=f8.cells cq7 (by rintro (h | h) <;> omega)
  have e9:=dec2C r8 (m:=bN) (by omega) (by omega) (by omega) cc8
  obtain ⟨K9,hK9⟩ : ∃ K9,K9 = (K8 ++ [ABlk.rw [],.rw (u8s ((z.drop (10 + n + 8 * (4 + nb + bN))).take bN))]).set (H1.length + 2) (.rw [rdV (H1.length + 1) (10 + n + 8 * (4 + nb + bN) + bN) z.length]):=⟨_,rfl⟩
  rw [← hK9] at e9
  have f9 : Fr K8 K9 (· = H1.length + 2):=by rw [hK9]; exact (Fr.adds ⟨_,rfl⟩ _).trans (Fr.set (F:=(· = H1.length + 2)) _ _ rfl) fun _ _ h=>h
  have l9 : K9.length = K8.length + 2:=by rw [hK9]; simp
  have t9 : K9[K8.length + 1]? = some (.rw (u8s ((z.drop (10 + n + 8 * (4 + nb + bN))).take bN))):=by rw [hK9,zAn _ _ _ _ (by omega)]; simp
  have lt9 : ((z.drop (10 + n + 8 * (4 + nb + bN))).take bN).length = bN:=by rw [List.length_take,List.length_drop]; omega
  have e10:=zSm (.sl (K8.length + 1) 0 1 bN bN false) ⟨rfl,rfl⟩ K9
  obtain ⟨K10,hK10⟩ : ∃ K10,K10 = K9 ++ [ABlk.rw [.sl (K8.length + 1) 0 1 bN bN false]]:=⟨_,rfl⟩
  have A10 : Adds K9 K10:=⟨_,hK10⟩
  have l10 : K10.length = K9.length + 1:=by rw [hK10]; simp
  have bt : BS K10 (.sl (K8.length + 1) 0 1 bN bN false) ((z.drop (10 + n + 8 * (4 + nb + bN))).take bN):=by
   have:=BS.block (l:=bN) (e:=false) (A10.at t9)
   rwa [lt9] at this
  obtain ⟨vt,K11,e11,A11,gt⟩:=zPc bt (fun y hy=>uz y (List.mem_of_mem_drop (List.mem_of_mem_take hy))) (by omega) (c:=K9.length) (by rw [hK10]; unfold cellsOf; simp)
  rw [← hK10] at e10
  have l11:=A11.len
  have s11 : K11[H3.length]? = some (.rw [vd,vs,.int .i64 nx,.int .i64 kd,.int .i64 pd,.nilSl]):=(A10.trans A11).at (f9.at s8 (by show ¬ H3.length = H1.length + 2; omega))
  have ct:=gt.isP.cell
  have w12 : zA3 K11 H3.length 5 [vt] = some (K11.set H3.length (.rw [vd,vs,.int .i64 nx,.int .i64 kd,.int .i64 pd,vt])):=by
   rw [zA2 s11,if_pos ⟨by simp,by simp [ct.2]⟩]; rfl
  obtain ⟨K12,hK12⟩ : ∃ K12,K12 = K11.set H3.length (.rw [vd,vs,.int .i64 nx,.int .i64 kd,.int .i64 pd,vt]):=⟨_,rfl⟩
  rw [← hK12] at w12
  have f12 : Fr K8 K12 (fun x=>x = H1.length + 2 ∨ x = H3.length):=by
   rw [hK12]
   exact ((f9.trans (Fr.adds (A10.trans A11) (· = H1.length + 2)) fun _ _ h=>h).2 |> fun q=>⟨by simp; omega,fun x hx hn=>by
    rw [zAn _ _ _ _ (fun h=>hn (.inr h))]; exact q x hx fun h=>hn (.inl h)⟩)
  have o7:=FS.out g7
  have og8:=g8.g.out
  have ogt:=gt.out
  have mkSt : ∀ {K' : zAc},Fr K12 K' (· < H1.length) → StA K' vd vs vt (rawT n nb bN z):=by
   intro K' f'
   have f13 : Fr K8 K' (fun x=>(x = H1.length + 2 ∨ x = H3.length) ∨ x < H1.length):=(f12.mono fun _ _ h=>.inl h).trans f' fun _ _ h=>.inr h
   refine ⟨?_,?_,?_,?_⟩
   ·rw [zEv]
    have h1:=FS.is ((g7.frT f8 fun x hx h=>by have:=(o7 x hx).1; omega).frT f13 fun x hx h=>by have:=(o7 x hx).1; omega)
    exact h1
   ·intro b o s' n' l e he
    rcases g7 with ⟨_,rfl⟩ | ⟨_,_,_,rfl,_⟩
    ·cases he
    ·injection he; omega
   ·exact (g8.frT f13 (fun x hx h=>by have:=(og8 x hx).1; omega) fun r hr y hy x hx h=>by have:=o8 r hr y hy x hx; omega).isC
   ·rw [zLt]
    have h1:=gt.isP.fr (((Fr.set (F:=(· = H3.length)) K11 (.rw [vd,vs,.int .i64 nx,.int .i64 kd,.int .i64 pd,vt]) rfl).mono (G:=fun x=>x = H3.length ∨ x < H1.length) fun _ _ h=>.inl h).trans (hK12 ▸ f') fun _ _ h=>.inr h) fun x hx h=>by have:=(ogt x hx).1; omega
    exact h1
  have st:=mkSt (Fr.refl _ _)
  have ff : Fr H1 K12 (fun x=>x = H1.length + 2 ∨ x = H3.length):=((((Fr.adds A13 _).trans f6 fun _ _ h=>.inl h).trans f7 fun _ _ h=>h).trans f8 fun _ _ h=>h).trans f12 fun _ _ h=>h
  have a12 : Adds H K12:=ff.old A1 fun b hb h=>by rcases h with h | h <;> omega
  have b12:=ff.at b0 (by rintro (h | h) <;> omega)
  have q12:=f12.cells cq8 (by rintro (h | h) <;> omega)
  have c12 : cellsOf K12 H3.length = some [vd,vs,.int .i64 nx,.int .i64 kd,.int .i64 pd,vt]:=zAl (by rw [hK12]; exact zBe _ _ _ (zA8 s11))
  have lD : (rawT n nb bN z).dirty.length ≤ 9223372036854775807:=by rw [zEv,List.length_map,List.length_take]; omega
  have cd:=FS.cell g7
  have cs:=g8.isC.cell
  have ud : vd.under H.length = false:=by
   rcases g7 with ⟨e,_⟩ | ⟨_,b,hb,rfl,_⟩
   ·have:=congrArg List.length e
    rw [List.length_map,List.length_map,List.length_take,List.length_drop,List.length_nil] at this
    omega
   ·simp [AV.under]; omega
  have wr : ∀ {K : zAc} {cs : List AV},K[H.length + 1]? = some (.rw [.nilSl,.nilSl,.int .i64 0,.int .i64 0,.int .i64 0,.nilSl]) → cs.length = 6 → cs.all AV.isCell = true → zA3 K (H.length + 1) 0 cs = some (K.set (H.length + 1) (.rw cs)):=by
   intro K cs hb hl hc
   rw [zA2 hb,if_pos ⟨by rw [hl]; simp,hc⟩]
   obtain ⟨x1,x2,x3,x4,x5,x6,rfl⟩ : ∃ x1 x2 x3 x4 x5 x6,cs = [x1,x2,x3,x4,x5,x6]:=by
    match cs,hl with
    | [x1,x2,x3,x4,x5,x6],_=>exact ⟨_,_,_,_,_,_,rfl⟩
   rfl
  have aset : ∀ {K : zAc} (k : ABlk),Adds H K → H.length + 1 < K.length → Adds H (K.set (H.length + 1) k):=fun k a _=>Adds.of_get (by rw [List.length_set]; exact a.len) fun x hx=>by
   rw [zAn _ _ _ _ (by omega)]; obtain ⟨G,rfl⟩:=a; rw [List.getElem?_append_left hx]
  have hK9:=hK9.symm
  have hK10:=hK10.symm
  by_cases hgd : zCp bN s w a (rawT n nb bN z) = true
  ·obtain ⟨v13,K13,e13,A13',g13⟩:=encC st fit lD (r:=r) (by rw [hg,hgd]; rfl)
   rw [hnx,rk,hpd] at e13
   have q13:=eqCB g13.bs (A13'.bs (a12.bs bz)) (by
    have G:=zDm bb gg.a1.2 (fun x hx=>(fit.s.2 x hx).u8) hgd
    rw [zE7 G gg.a1.2,hn,hnb,Int.toNat_natCast,Int.toNat_natCast]; omega)
   have b13:=A13'.at b12
   have c13:=A13'.cells c12
   have t13:=zA8 b13
   have cv13:=g13.bs.cell
   by_cases hez : encT bN (rawT n nb bN z) = z
   ·rw [decide_eq_true hez] at q13
    have w14:=wr (cs:=[vd,vs,.int .i64 nx,.int .i64 kd,.int .i64 pd,vt]) b13 rfl (by simp only [List.all_cons,cd.2,cs.2,ct.2]; rfl)
    have c14 : cellsOf (K13.set (H.length + 1) (.rw [vd,vs,.int .i64 nx,.int .i64 kd,.int .i64 pd,vt])) (H.length + 1) = some [vd,vs,.int .i64 nx,.int .i64 kd,.int .i64 pd,vt]:=zAl (zBe _ _ _ t13)
    simp -implicitDefEqProofs (maxSteps:=5000000) only [go_sem,simprocAttr,itr,itq,cq8,e9,e10,e11,hK9,hK10,zAx,w12,q12,c12,e13,q13,c13,w14,zAe,cd.1,cs.1,ct.1,cd.2,cs.2,ct.2,cv13.1,cv13.2,zAb]
    subst hQ
    refine ⟨aset _ (a12.trans A13') t13,.inl ⟨hgd,hez,vd,vs,vt,?_,fun K' f'=>mkSt (((Fr.adds A13' _).trans (Fr.set (F:=(· = H.length + 1)) _ _ rfl) fun x _ h=>by show x < H1.length; omega).trans f' fun x _ h=>by show x < H1.length; have : x < H.length:=h; omega),ud⟩⟩
    simp -implicitDefEqProofs (maxSteps:=5000000) only [go_sem,simprocAttr,itr,itq,c14]
   ·rw [decide_eq_false hez] at q13
    have w14:=wr (cs:=[.nilSl,.nilSl,.int .i64 0,.int .i64 0,.int .i64 0,.nilSl]) b13 rfl rfl
    have c14 : cellsOf (K13.set (H.length + 1) (.rw [.nilSl,.nilSl,.int .i64 0,.int .i64 0,.int .i64 0,.nilSl])) (H.length + 1) = some [.nilSl,.nilSl,.int .i64 0,.int .i64 0,.int .i64 0,.nilSl]:=zAl (zBe _ _ _ t13)
    simp -implicitDefEqProofs (maxSteps:=5000000) only [go_sem,simprocAttr,itr,itq,cq8,e9,e10,e11,hK9,hK10,zAx,w12,q12,c12,e13,q13,c13,w14,zAe,cd.1,cs.1,ct.1,cd.2,cs.2,ct.2,cv13.1,cv13.2,zAb]
    subst hQ
    refine ⟨aset _ (a12.trans A13') t13,.inr ⟨fun h=>hez h.2,?_⟩⟩
    simp -implicitDefEqProofs (maxSteps:=5000000) only [go_sem,simprocAttr,itr,itq,c14]
  ·have e13:=encBad st fit lD (b:=bN) (s:=s) (w:=w) (a:=a) (r:=r) (by rw [hg,Bool.eq_false_iff.2 hgd]; rfl)
   rw [hnx,rk,hpd] at e13
   have t13:=zA8 b12
   have w14:=wr (cs:=[.nilSl,.nilSl,.int .i64 0,.int .i64 0,.int .i64 0,.nilSl]) b12 rfl rfl
   have c14 : cellsOf (K12.set (H.length + 1) (.rw [.nilSl,.nilSl,.int .i64 0,.int .i64 0,.int .i64 0,.nilSl])) (H.length + 1) = some [.nilSl,.nilSl,.int .i64 0,.int .i64 0,.int .i64 0,.nilSl]:=zAl (zBe _ _ _ t13)
   simp -implicitDefEqProofs (maxSteps:=5000000) only [go_sem,simprocAttr,itr,itq,cq8,e9,e10,e11,hK9,hK10,zAx,w12,q12,c12,e13,w14,zAe,cd.1,cs.1,ct.1,cd.2,cs.2,ct.2,zAb]
   subst hQ
   refine ⟨aset _ a12 t13,.inr ⟨fun h=>hgd h.1,?_⟩⟩
   simp -implicitDefEqProofs (maxSteps:=5000000) only [go_sem,simprocAttr,itr,itq,c14]
 obtain ⟨e',t,K,hr,aK,h⟩:=key
 rcases h with ⟨h1,h2,vd,vs,vt,hf,st,ud⟩ | ⟨h1,hf⟩
 ·refine ⟨K,aK,.inl ⟨h1,h2,vd,vs,vt,?_,st⟩⟩
  rw [c11,hr,hf,rk]
  exact zA6 (by simp [AV.under,zBc,ud])
 ·refine ⟨H,Adds.refl H,.inr ⟨h1,?_⟩⟩
  rw [c11,hr,hf]
  exact Adds.trimS aK rfl
end
end Go.Proofs.Ythgflkfhjnbheaa.G14
end
section
namespace Go.Proofs.Ythgflkfhjnbheaa.G14
open Go Go.Proofs.Ythgflkfhjnbheaa.Eng
theorem slice_in {b o n l i j : Nat} {e : Bool} (h1 : i ≤ j) (h2 : j ≤ l) : zB3 1 (.sl b o 1 n l e) (some (.int .i64 (i : Int))) (some (.int .i64 (j : Int))) none = some (.sl b (o + i) 1 (j - i) (l - i) e):=by
 simp only [zB3,asI,Option.bind_some]
 rw [if_neg (by simp),if_pos ⟨by omega,by omega,by omega⟩]
 simp
theorem zJq {H : zAc} {v : AV} {zs : List Int} (h : BS H v zs) (ok : zFw v) {i j : Nat} (h0 : zs ≠ []) (h1 : i ≤ j) (h2 : j ≤ zs.length) : ∃ w,zB3 1 v (some (.int .i64 (i : Int))) (some (.int .i64 (j : Int))) none = some w ∧ BS H w ((zs.drop i).take (j - i)) ∧ slb w = slb v:=by
 rcases h with ⟨_,h⟩ | ⟨b,o,l,e,cs,rfl,hc,hg,hlen⟩
 ·exact absurd h h0
 ·have h3:=ok b o 1 _ l e rfl
  refine ⟨_,slice_in h1 (by omega),.inr ⟨b,o + i,l - i,e,cs,by rw [List.length_take,List.length_drop,Nat.min_eq_left (by omega)],hc,fun k y hy=>?_,by rw [List.length_take,List.length_drop]; omega⟩,rfl⟩
  rw [List.getElem?_take] at hy
  split at hy
  ·rw [List.getElem?_drop] at hy
   rw [Nat.add_assoc]; exact hg (i + k) y hy
  ·cases hy
theorem zPu {v : AV} {hi : Option AV} (h : ∃ b o s n l e,v = .sl b o s n l e) : zB3 1 v none hi none = zB3 1 v (some (.int .i64 ((0 : Nat) : Int))) hi none:=by
 obtain ⟨b,o,s,n,l,e,rfl⟩:=h; rfl
theorem zPv {b o n l : Nat} {e : Bool} {lo : Option AV} : zB3 1 (.sl b o 1 n l e) lo none none = zB3 1 (.sl b o 1 n l e) lo (some (.int .i64 ((n : Nat) : Int))) none:=rfl
theorem bs_to {H : zAc} {v : AV} {zs : List Int} (h : BS H v zs) (ok : zFw v) {j : Nat} (h0 : zs ≠ []) (h2 : j ≤ zs.length) : ∃ w,zB3 1 v none (some (.int .i64 (j : Int))) none = some w ∧ BS H w (zs.take j) ∧ slb w = slb v:=by
 have:=zJq h ok h0 (Nat.zero_le j) h2
 rw [List.drop_zero,Nat.sub_zero,← zPu] at this
 ·exact this
 ·rcases h with ⟨_,h⟩ | ⟨b,o,l,e,cs,rfl,_⟩
  ·exact absurd h h0
  ·exact ⟨_,_,_,_,_,_,rfl⟩
theorem bs_from {H : zAc} {v : AV} {zs : List Int} (h : BS H v zs) (ok : zFw v) {i : Nat} (h0 : zs ≠ []) (h2 : i ≤ zs.length) : ∃ w,zB3 1 v (some (.int .i64 (i : Int))) none none = some w ∧ BS H w (zs.drop i) ∧ slb w = slb v:=by
 have hs:=zJq h ok h0 h2 (Nat.le_refl _)
 rcases h with ⟨_,h⟩ | ⟨b,o,l,e,cs,rfl,_⟩
 ·exact absurd h h0
 ·rw [List.take_of_length_le (by rw [List.length_drop]; exact Nat.le_refl _)] at hs
  rw [zPv]; exact hs
section
variable {zs : List Int} (uz : IsU8 zs) (lz : zs.length ≤ 100000) {H : zAc} {zb sb : Nat} {v : AV} {nx kd pd y0 y1 y3 y4 y5 y6 y7 : AV} (bz : BS H v zs) {n : Nat} (hz : cellsOf H zb = some [y0,y1,.int .i64 (n : Int),y3,y4,y5,y6,y7]) (ap : zb ≠ sb) (av : ∀ b,slb v = some b → b ≠ sb) (lt : sb < H.length)
include uz lz bz hz ap av lt
set_option maxHeartbeats 8000000 in
theorem rdecL0 {k0 : Nat} (hk : k0 + n ≤ zs.length) (x0 x2 x3 x4 x5 x10 x11 x12 x13 x14 x15 x16 x17 x18 x19 x20 x21 x22 x23 x24 x25 x26 x27 x28 x29 x30 x31 x32 x33 x34 x35 x36 x37 x38 x39 x40 x41 x42 x43 x44 x45 x46 x66 x67 x68 x69 x70 x71 x72 x73 x74 x75 x76 x77 x78 x79 x80 x81 x82 x83 x84 x85 x86 x87 x88 x89 x90 x91 x92 x93 x94 x95 x96 x97 x98 x99 x100 x101 x102 x103 x104 x105 x106 x107 x108 x109 x110 x111 x112 x113 x114 x115 x116 x117 x118 x119 x120 x121 x122 x123 x124 x125 x126 x127 x128 x129 x130 x131 x132 x133 x134 x135 x136 x137 x138 x139 x140 x141 x142 x143 x144 x145 x146 x147 : AV) : ∀ (m i : Nat) (K : zAc) (vd : AV) (j47 j48 j49 j50 j51 j52 j53 j54 j55 j56 j57 j58 j59 j60 j61 j62 j63 j64 j65 : AV),Fr H K (· = sb) → K[sb]? = some (.rw [vd,.nilSl,nx,kd,pd,.nilSl]) → FS K H.length vd (((zs.drop k0).take i).map (· - 1)) → i + m = n →
  Outs (LP1 l12x0 [x0,v,x2,x3,x4,x5,.ptr zb 0,.ptr sb 0,.int .i64 ((k0 + i : Nat) : Int),.int .i64 (i : Int),x10,x11,x12,x13,x14,x15,x16,x17,x18,x19,x20,x21,x22,x23,x24,x25,x26,x27,x28,x29,x30,x31,x32,x33,x34,x35,x36,x37,x38,x39,x40,x41,x42,x43,x44,x45,x46,j47,j48,j49,j50,j51,j52,j53,j54,j55,j56,j57,j58,j59,j60,j61,j62,j63,j64,j65,x66,x67,x68,x69,x70,x71,x72,x73,x74,x75,x76,x77,x78,x79,x80,x81,x82,x83,x84,x85,x86,x87,x88,x89,x90,x91,x92,x93,x94,x95,x96,x97,x98,x99,x100,x101,x102,x103,x104,x105,x106,x107,x108,x109,x110,x111,x112,x113,x114,x115,x116,x117,x118,x119,x120,x121,x122,x123,x124,x125,x126,x127,x128,x129,x130,x131,x132,x133,x134,x135,x136,x137,x138,x139,x140,x141,x142,x143,x144,x145,x146,x147] K) fun e t K'=>e = .exit 0 ∧ (∃ vd,Fr H K' (· = sb) ∧ K'[sb]? = some (.rw [vd,.nilSl,nx,kd,pd,.nilSl]) ∧ FS K' H.length vd (((zs.drop k0).take n).map (· - 1))) ∧ ∃ fv : Nat → AV,t = [x0,v,x2,x3,x4,x5,.ptr zb 0,.ptr sb 0,.int .i64 ((k0 + n : Nat) : Int),(fv 9),x10,x11,x12,x13,x14,x15,x16,x17,x18,x19,x20,x21,x22,x23,x24,x25,x26,x27,x28,x29,x30,x31,x32,x33,x34,x35,x36,x37,x38,x39,x40,x41,x42,x43,x44,x45,x46,(fv 47),(fv 48),(fv 49),(fv 50),(fv 51),(fv 52),(fv 53),(fv 54),(fv 55),(fv 56),(fv 57),(fv 58),(fv 59),(fv 60),(fv 61),(fv 62),(fv 63),(fv 64),(fv 65),x66,x67,x68,x69,x70,x71,x72,x73,x74,x75,x76,x77,x78,x79,x80,x81,x82,x83,x84,x85,x86,x87,x88,x89,x90,x91,x92,x93,x94,x95,x96,x97,x98,x99,x100,x101,x102,x103,x104,x105,x106,x107,x108,x109,x110,x111,x112,x113,x114,x115,x116,x117,x118,x119,x120,x121,x122,x123,x124,x125,x126,x127,x128,x129,x130,x131,x132,x133,x134,x135,x136,x137,x138,x139,x140,x141,x142,x143,x144,x145,x146,x147]:=by
 intro m
 obtain ⟨L0,hL0⟩ : ∃ L,L = LP1 l12x0:=⟨_,rfl⟩
 have lo:=zAp hL0
 rw [← hL0]
 induction m with
 | zero =>
  intro i K vd j47 j48 j49 j50 j51 j52 j53 j54 j55 j56 j57 j58 j59 j60 j61 j62 j63 j64 j65 fK hs g hi
  obtain rfl : i = n:=by omega
  have hd : decide ((i : Int) < (i : Int)) = false:=by simp
  have cz:=fK.cells hz ap
  rw [lo]
  unfold l12x0
  simp -implicitDefEqProofs (maxSteps:=5000000) only [go_sem,simprocAttr,itr,itq,cz,hd,zAg,zAb]
  exact ⟨⟨vd,fK,hs,g⟩,exF rfl⟩
 | succ m ih =>
  intro i K vd j47 j48 j49 j50 j51 j52 j53 j54 j55 j56 j57 j58 j59 j60 j61 j62 j63 j64 j65 fK hs g hi
  have hd : decide ((i : Int) < (n : Int)) = true:=decide_eq_true (by omega)
  have e1 : IntKind.i64.wrap (((k0 + i : Nat) : Int) + 1) = ((k0 + (i + 1) : Nat) : Int):=by rw [zAk (by omega) (by omega)]; omega
  have e2 : IntKind.i64.wrap ((i : Int) + 1) = ((i + 1 : Nat) : Int):=by rw [zAk (by omega) (by omega)]; omega
  have hx:=List.getElem?_eq_getElem (show k0 + i < zs.length by omega)
  have ux:=uz _ (List.getElem_mem (show k0 + i < zs.length by omega))
  have kl:=fK.1
  have cz:=fK.cells hz ap
  have bK : BS K v zs:=bz.fr fK fun b hb=>av b hb
  obtain ⟨ax,ix,lx⟩:=bK.idx hx .i64
  have tk : ((zs.drop k0).take (i + 1)).map (· - 1) = ((zs.drop k0).take i).map (· - 1) ++ [zs[k0 + i] - 1]:=by
   rw [List.take_add_one,List.getElem?_drop,hx,List.map_append]; rfl
  have key:=ih (i + 1)
  rw [tk] at key
  generalize zs[k0 + i] = x at *
  have w0 : IntKind.i64.wrap x = x:=zAk (by omega) (by omega)
  have w1 : IntKind.i64.wrap (x - 1) = x - 1:=zAk (by omega) (by omega)
  obtain ⟨K2,hK2⟩ : ∃ K2,K2 = K ++ [ABlk.rw [.int .i64 (x - 1)]]:=⟨_,rfl⟩
  have A2 : Adds K K2:=⟨_,hK2⟩
  have l2:=A2.len
  have g2 : FS K2 H.length vd (((zs.drop k0).take i).map (· - 1)):=g.frT (Fr.adds A2 (fun _=>False)) fun _ _ h=>h
  obtain ⟨v',K3,ep,g3,f3,sb3,l3⟩:=FS.push g2 (s:=K.length) (z:=x - 1) (by rw [hK2]; unfold cellsOf; simp) (by simp; omega) (by have:=A2.len; omega)
  have o2:=FS.out g2
  have hs3 : K3[sb]? = some (.rw [vd,.nilSl,nx,kd,pd,.nilSl]):=f3.at (A2.at hs) fun h=>by have:=(o2 sb h).1; omega
  have cv:=FS.cell g3
  have wr : zA3 K3 sb 0 [v'] = some (K3.set sb (.rw [v',.nilSl,nx,kd,pd,.nilSl])):=by
   rw [zA2 hs3,if_pos ⟨by simp,by simp [cv.2]⟩]; rfl
  have fz : Fr H (K3.set sb (.rw [v',.nilSl,nx,kd,pd,.nilSl])) (· = sb):=by
   refine ⟨by simp; omega,fun z hz hn=>?_⟩
   rw [zAn _ _ _ _ hn,f3.2 z (by omega) (fun h=>by have:=(o2 z h).1; omega),hK2,List.getElem?_append_left (by omega)]
   exact fK.2 z hz hn
  have o3:=FS.out g3
  have cs0:=zAl hs
  have cs2:=zAl (A2.at hs)
  have cs3:=zAl hs3
  have lx2 : zDl 1 false ax K2 = some (.int .u8 x):=by
   obtain ⟨ax',ix',lx'⟩:=(A2.bs bK).idx hx .i64
   rw [ix] at ix'; injection ix' with h; rw [h]; exact lx'
  have lx3 : zDl 1 false ax K3 = some (.int .u8 x):=by
   obtain ⟨ax',ix',lx'⟩:=((A2.bs bK).fr f3 fun b hb h=>by have:=(o2 b h).1; have:=bz.lt b hb; omega).idx hx .i64
   rw [ix] at ix'; injection ix' with h; rw [h]; exact lx'
  have hK2:=hK2.symm
  rw [lo]
  unfold l12x0
  simp -implicitDefEqProofs (maxSteps:=5000000) only [go_sem,simprocAttr,itr,itq,hd,cz,cs0,cs2,cs3,ix,lx,lx2,lx3,w0,w1,hK2,ep,zAx,cv.1,wr,e1,e2]
  exact key (K3.set sb (.rw [v',.nilSl,nx,kd,pd,.nilSl])) v' _ _ _ _ _ _ _ _ _ _ _ _ _ _ _ _ _ _ _ fz (zBe _ _ _ (by omega)) (g3.frT (Fr.set (F:=(· = sb)) _ _ rfl) fun b hb h=>by have:=(o3 b hb).1; omega) (by omega)
end
end Go.Proofs.Ythgflkfhjnbheaa.G14
end
section
namespace Go.Proofs.Ythgflkfhjnbheaa.G14
open Go Go.Proofs.Ythgflkfhjnbheaa.Eng
section
variable {zs : List Int} (uz : IsU8 zs) (lz : zs.length ≤ 100000) {v : AV} (ok : zFw v) {k nb b : Nat}
include uz lz ok
set_option maxHeartbeats 8000000 in
theorem rdecSlot {K : zAc} {j1 j2 j3 : Nat} (hj1 : j1 = k + 4) (hj2 : j2 = k + 4 + nb) (hj3 : j3 = k + 4 + nb + b) (bK : BS K v zs) (h : k + (4 + nb + b) ≤ zs.length) (n1 : 1 ≤ nb) (b1 : 1 ≤ b) (b2 : b ≤ 1000) : ∃ w1 w2 w3 vc vt K2 K3,
  zB3 1 v (some (.int .i64 (k : Int))) (some (.int .i64 ((j1 : Nat) : Int))) none = some w1 ∧
  zB3 1 v (some (.int .i64 ((j1 : Nat) : Int))) (some (.int .i64 ((j2 : Nat) : Int))) none = some w2 ∧
  zB3 1 v (some (.int .i64 ((j2 : Nat) : Int))) (some (.int .i64 ((j3 : Nat) : Int))) none = some w3 ∧
  (envL prog).call 42 [w1] (K ++ [ABlk.rw [],.rw [.int .i64 0,.nilSl,.nilSl]]) = some (.int .u64 (getS ((zs.drop k).take 4)),K ++ [ABlk.rw [],.rw [.int .i64 0,.nilSl,.nilSl]]) ∧
  IntKind.i64.wrap (getS ((zs.drop k).take 4)) = getS ((zs.drop k).take 4) ∧
  app (ty 1 false 1 [.int .u8 0]) (.sl K.length 0 1 0 0 true) w2 (K ++ [ABlk.rw [],.rw [.int .i64 0,.nilSl,.nilSl]]) = some (vc,K2) ∧
  (envL prog).call 43 [w3] K2 = some (vt,K3) ∧
  (zA0 vc = some [vc] ∧ vc.isCell = true) ∧ (zA0 vt = some [vt] ∧ vt.isCell = true) ∧
  zA3 K3 (K.length + 1) 0 [.int .i64 (getS ((zs.drop k).take 4)),vc,vt] = some (K3.set (K.length + 1) (.rw [.int .i64 (getS ((zs.drop k).take 4)),vc,vt])) ∧
  Adds K K2 ∧ Adds K K3 ∧ Adds K (K3.set (K.length + 1) (.rw [.int .i64 (getS ((zs.drop k).take 4)),vc,vt])) ∧
  SnR (K3.set (K.length + 1) (.rw [.int .i64 (getS ((zs.drop k).take 4)),vc,vt])) [.int .i64 (getS ((zs.drop k).take 4)),vc,vt] (snOf nb b (zs.drop k)) ∧
  K.length + 1 < K3.length ∧ (∀ x ∈ [AV.int .i64 (getS ((zs.drop k).take 4)),vc,vt],∀ z,slb x = some z → K.length ≤ z):=by
 subst hj1; subst hj2; subst hj3
 have h0 : zs ≠ []:=fun e=>by rw [e,List.length_nil] at h; omega
 obtain ⟨w1,s1,q1,o1⟩:=zJq bK ok h0 (show k ≤ k + 4 by omega) (by omega)
 obtain ⟨w2,s2,q2,o2⟩:=zJq bK ok h0 (show k + 4 ≤ k + 4 + nb by omega) (by omega)
 obtain ⟨w3,s3,q3,o3⟩:=zJq bK ok h0 (show k + 4 + nb ≤ k + 4 + nb + b by omega) (by omega)
 rw [show k + 4 - k = 4 by omega] at q1
 rw [show k + 4 + nb - (k + 4) = nb by omega] at q2
 rw [show k + 4 + nb + b - (k + 4 + nb) = b by omega] at q3
 obtain ⟨K1,hK1⟩ : ∃ K1,K1 = K ++ [ABlk.rw [],.rw [.int .i64 0,.nilSl,.nilSl]]:=⟨_,rfl⟩
 have A1 : Adds K K1:=⟨_,hK1⟩
 have l1 : K1.length = K.length + 2:=by rw [hK1]; simp
 have um : ∀ i m,IsU8 ((zs.drop i).take m):=fun i m y hy=>uz y (List.mem_of_mem_drop (List.mem_of_mem_take hy))
 have lm : ∀ i m,i + m ≤ zs.length → ((zs.drop i).take m).length = m:=fun i m hi=>by rw [List.length_take,List.length_drop]; omega
 have e1:=Pg.rgetC (A1.bs q1) (um k 4) (by rw [lm k 4 (by omega)]; omega)
 have gl:=zEy (um k 4)
 rw [lm k 4 (by omega)] at gl
 obtain ⟨vc,K2,e2,A2,b2',sb2⟩:=zUs (K:=K1) (b:=K.length) (by rw [hK1]; simp) (A1.bs q2) (by rw [lm _ _ (by omega)]; omega)
 obtain ⟨vt,K3,e3,A3,g3⟩:=zSa ((A1.trans A2).bs q3) (um _ _) (by rw [lm _ _ (by omega)]; omega)
 have l2:=A2.len
 have l3:=A3.len
 have t3 : K3[K.length + 1]? = some (.rw [.int .i64 0,.nilSl,.nilSl]):=(A2.trans A3).at (by rw [hK1]; simp)
 have cc:=b2'.cell
 have ct:=g3.isP.cell
 have og:=g3.out
 have wr : zA3 K3 (K.length + 1) 0 [.int .i64 (getS ((zs.drop k).take 4)),vc,vt] = some (K3.set (K.length + 1) (.rw [.int .i64 (getS ((zs.drop k).take 4)),vc,vt])):=by
  rw [zA2 t3,if_pos ⟨by simp,by simp only [List.all_cons,cc.2,ct.2]; rfl⟩]; rfl
 have sc : ∀ z,slb vc = some z → K.length ≤ z ∧ z ≠ K.length + 1:=fun z hz=>by
  rcases sb2 with q | q <;> rw [q] at hz <;> injection hz with hz <;> omega
 have fs : Fr K3 (K3.set (K.length + 1) (.rw [.int .i64 (getS ((zs.drop k).take 4)),vc,vt])) (· = K.length + 1):=Fr.set _ _ rfl
 refine ⟨w1,w2,w3,vc,vt,K2,K3,s1,s2,s3,by rw [← hK1]; exact e1,zAk (by omega) (by omega),by rw [← hK1]; exact e2,e3,cc,ct,wr,A1.trans A2,(A1.trans A2).trans A3,fs.old ((A1.trans A2).trans A3) (fun z hz h=>by omega),⟨vc,vt,rfl,?_,?_⟩,by omega,fun x hx z hz=>?_⟩
 ·have : (snOf nb b (zs.drop k)).ch = (zs.drop (k + 4)).take nb:=by show ((zs.drop k).drop 4).take nb = _; rw [List.drop_drop]
  rw [this]
  exact (A3.bs b2').fr fs fun z hz=>(sc z hz).2
 ·have : (snOf nb b (zs.drop k)).tb = unmS ((zs.drop (k + 4 + nb)).take b):=by show unmS (((zs.drop k).drop (4 + nb)).take b) = _; rw [List.drop_drop,← Nat.add_assoc]
  rw [this]
  exact g3.isP.fr fs fun z hz h=>by have:=(og z hz).1; omega
 ·simp only [List.mem_cons,List.not_mem_nil,or_false] at hx
  rcases hx with rfl | rfl | rfl
  ·cases hz
  ·exact (sc z hz).1
  ·have:=(og z hz).1; omega
variable {H : zAc} {sb q k1 cnt : Nat} {s w a r : Int} {vd nx kd pd : AV} (bz : BS H v zs) (hq : cellsOf H q = some [.int .i64 (b : Int),.int .i64 s,.int .i64 w,.int .i64 a,.int .i64 r]) (ap : q ≠ sb) (av : ∀ b,slb v = some b → b ≠ sb) (lt : sb < H.length) (n1 : 1 ≤ nb) (n2 : nb ≤ 1000) (b1 : 1 ≤ b) (b2 : b ≤ 1000) (cd : vd.isCell = true) (h4 : zs[4]? = some (cnt : Int)) (hk : k1 + 8 * (4 + nb + b) ≤ zs.length)
include bz hq ap av lt n1 n2 b1 b2 cd h4 hk
set_option maxHeartbeats 16000000 in
theorem rdecL1 {kz : Nat} (hkz : kz = k1 + 8 * (4 + nb + b)) (x0 x3 x4 x5 x6 x9 x13 x14 x15 x16 x17 x18 x19 x20 x21 x22 x23 x24 x25 x26 x27 x28 x29 x30 x31 x32 x33 x34 x35 x36 x37 x38 x39 x40 x41 x42 x43 x44 x45 x46 x47 x48 x49 x50 x51 x52 x53 x54 x55 x56 x57 x58 x59 x60 x61 x62 x63 x64 x65 x66 x67 x68 x69 x125 x126 x127 x128 x129 x130 x131 x132 x133 x134 x135 x136 x137 x138 x139 x140 x141 x142 x143 x144 x145 x146 x147 : AV) : ∀ (m i : Nat) (K : zAc) (vs : AV) (rows : List (List AV)) (j12 j70 j71 j72 j73 j74 j75 j76 j77 j78 j79 j80 j81 j82 j83 j84 j85 j86 j87 j88 j89 j90 j91 j92 j93 j94 j95 j96 j97 j98 j99 j100 j101 j102 j103 j104 j105 j106 j107 j108 j109 j110 j111 j112 j113 j114 j115 j116 j117 j118 j119 j120 j121 j122 j123 j124 : AV),Fr H K (· = sb) → K[sb]? = some (.rw [vd,vs,nx,kd,pd,.nilSl]) → Gc K H.length vs ((zDe nb b 8 (zs.drop k1)).take (min i cnt)) rows → (∀ r ∈ rows,∀ x ∈ r,∀ z,slb x = some z → H.length ≤ z) → i + m = 8 →
  Outs (LP1 l12x1 [x0,v,.ptr q 0,x3,x4,x5,x6,.ptr sb 0,.int .i64 ((k1 + i * (4 + nb + b) : Nat) : Int),x9,.int .i64 (nb : Int),.int .i64 (i : Int),j12,x13,x14,x15,x16,x17,x18,x19,x20,x21,x22,x23,x24,x25,x26,x27,x28,x29,x30,x31,x32,x33,x34,x35,x36,x37,x38,x39,x40,x41,x42,x43,x44,x45,x46,x47,x48,x49,x50,x51,x52,x53,x54,x55,x56,x57,x58,x59,x60,x61,x62,x63,x64,x65,x66,x67,x68,x69,j70,j71,j72,j73,j74,j75,j76,j77,j78,j79,j80,j81,j82,j83,j84,j85,j86,j87,j88,j89,j90,j91,j92,j93,j94,j95,j96,j97,j98,j99,j100,j101,j102,j103,j104,j105,j106,j107,j108,j109,j110,j111,j112,j113,j114,j115,j116,j117,j118,j119,j120,j121,j122,j123,j124,x125,x126,x127,x128,x129,x130,x131,x132,x133,x134,x135,x136,x137,x138,x139,x140,x141,x142,x143,x144,x145,x146,x147] K) fun e t K'=>e = .exit 2 ∧ (∃ vs rows,Fr H K' (· = sb) ∧ K'[sb]? = some (.rw [vd,vs,nx,kd,pd,.nilSl]) ∧ Gc K' H.length vs ((zDe nb b 8 (zs.drop k1)).take (min 8 cnt)) rows ∧ (∀ r ∈ rows,∀ x ∈ r,∀ z,slb x = some z → H.length ≤ z)) ∧ ∃ fv : Nat → AV,t = [x0,v,.ptr q 0,x3,x4,x5,x6,.ptr sb 0,.int .i64 (kz : Int),x9,.int .i64 (nb : Int),(fv 11),(fv 12),x13,x14,x15,x16,x17,x18,x19,x20,x21,x22,x23,x24,x25,x26,x27,x28,x29,x30,x31,x32,x33,x34,x35,x36,x37,x38,x39,x40,x41,x42,x43,x44,x45,x46,x47,x48,x49,x50,x51,x52,x53,x54,x55,x56,x57,x58,x59,x60,x61,x62,x63,x64,x65,x66,x67,x68,x69,(fv 70),(fv 71),(fv 72),(fv 73),(fv 74),(fv 75),(fv 76),(fv 77),(fv 78),(fv 79),(fv 80),(fv 81),(fv 82),(fv 83),(fv 84),(fv 85),(fv 86),(fv 87),(fv 88),(fv 89),(fv 90),(fv 91),(fv 92),(fv 93),(fv 94),(fv 95),(fv 96),(fv 97),(fv 98),(fv 99),(fv 100),(fv 101),(fv 102),(fv 103),(fv 104),(fv 105),(fv 106),(fv 107),(fv 108),(fv 109),(fv 110),(fv 111),(fv 112),(fv 113),(fv 114),(fv 115),(fv 116),(fv 117),(fv 118),(fv 119),(fv 120),(fv 121),(fv 122),(fv 123),(fv 124),x125,x126,x127,x128,x129,x130,x131,x132,x133,x134,x135,x136,x137,x138,x139,x140,x141,x142,x143,x144,x145,x146,x147]:=by
 intro m
 obtain ⟨L0,hL0⟩ : ∃ L,L = LP1 l12x1:=⟨_,rfl⟩
 have lo:=zAp hL0
 have u4:=uz _ (List.mem_of_getElem? h4)
 rw [← hL0]
 induction m with
 | zero =>
  intro i K vs rows j12 j70 j71 j72 j73 j74 j75 j76 j77 j78 j79 j80 j81 j82 j83 j84 j85 j86 j87 j88 j89 j90 j91 j92 j93 j94 j95 j96 j97 j98 j99 j100 j101 j102 j103 j104 j105 j106 j107 j108 j109 j110 j111 j112 j113 j114 j115 j116 j117 j118 j119 j120 j121 j122 j123 j124 fK hs g ro hi
  obtain rfl : i = 8:=by omega
  have hd : decide (((8 : Nat) : Int) < 8) = false:=rfl
  rw [← hkz]
  rw [lo]
  unfold l12x1
  simp -implicitDefEqProofs (maxSteps:=5000000) only [go_sem,simprocAttr,hd,zAg,zAb]
  exact ⟨⟨vs,rows,fK,hs,g,ro⟩,exF rfl⟩
 | succ m ih =>
  intro i K vs rows j12 j70 j71 j72 j73 j74 j75 j76 j77 j78 j79 j80 j81 j82 j83 j84 j85 j86 j87 j88 j89 j90 j91 j92 j93 j94 j95 j96 j97 j98 j99 j100 j101 j102 j103 j104 j105 j106 j107 j108 j109 j110 j111 j112 j113 j114 j115 j116 j117 j118 j119 j120 j121 j122 j123 j124 fK hs g ro hi
  have hd : decide ((i : Int) < 8) = true:=decide_eq_true (by omega)
  have e2 : IntKind.i64.wrap ((i : Int) + 1) = ((i + 1 : Nat) : Int):=by rw [zAk (by omega) (by omega)]; omega
  have kl:=fK.1
  have key:=ih (i + 1)
  obtain ⟨sz,hsz⟩ : ∃ sz,4 + nb + b = sz:=⟨_,rfl⟩
  have hky:=hk
  rw [hsz] at hky
  have im : i * sz + sz ≤ 8 * sz:=by
   have:=Nat.mul_le_mul_right sz (show i + 1 ≤ 8 by omega)
   rw [Nat.add_mul,Nat.one_mul] at this; exact this
  rw [show k1 + (i + 1) * (4 + nb + b) = k1 + i * (4 + nb + b) + (4 + nb + b) by rw [Nat.add_mul,Nat.one_mul]; omega] at key
  rw [← hsz] at im hky
  obtain ⟨k,hkk⟩ : ∃ k,k = k1 + i * (4 + nb + b):=⟨_,rfl⟩
  obtain ⟨j1,hj1⟩ : ∃ j,j = k + 4:=⟨_,rfl⟩
  obtain ⟨j2,hj2⟩ : ∃ j,j = k + 4 + nb:=⟨_,rfl⟩
  obtain ⟨j3,hj3⟩ : ∃ j,j = k + 4 + nb + b:=⟨_,rfl⟩
  obtain ⟨m1,hm1⟩ : ∃ j,j = 4 + nb:=⟨_,rfl⟩
  obtain ⟨m2,hm2⟩ : ∃ j,j = 4 + nb + b:=⟨_,rfl⟩
  obtain ⟨k',hk'⟩ : ∃ j,j = k + (4 + nb + b):=⟨_,rfl⟩
  have bK : BS K v zs:=bz.fr fK fun b hb=>av b hb
  obtain ⟨w1,w2,w3,vc,vt,K2,K3,d1,d2,d3,d4,d5,d6,d7,cc,ct,wr,A2,A3,A4,sr,l3,ox⟩:=rdecSlot uz lz ok (k:=k) hj1 hj2 hj3 bK (by omega) n1 b1 b2
  have gx : (zDe nb b 8 (zs.drop k1))[i]? = some (snOf nb b (zs.drop k)):=by rw [zH2 nb b 8 _ i (by omega),List.drop_drop,hkk]
  have nl:=zEs nb b 8 (zs.drop k1)
  rw [← hkk,← hk'] at key
  rw [← hkk]
  generalize zDe nb b 8 (zs.drop k1) = SN at *
  generalize snOf nb b (zs.drop k) = x at *
  generalize getS ((zs.drop k).take 4) = id at *
  obtain ⟨K4,hK4⟩ : ∃ K4,K4 = K3.set (K.length + 1) (.rw [.int .i64 id,vc,vt]):=⟨_,rfl⟩
  rw [← hK4] at wr A4 sr
  have l4 : K4.length = K3.length:=by rw [hK4]; simp
  have c4 : cellsOf K4 (K.length + 1) = some [.int .i64 id,vc,vt]:=by rw [hK4]; exact zAl (zBe _ _ _ l3)
  have v1 : IntKind.i64.wrap ((k : Int) + 4) = (j1 : Int):=by rw [zAk (by omega) (by omega)]; omega
  have v2 : IntKind.i64.wrap ((j1 : Int) + (nb : Int)) = (j2 : Int):=by rw [zAk (by omega) (by omega)]; omega
  have v3 : IntKind.i64.wrap ((j2 : Int) + (b : Int)) = (j3 : Int):=by rw [zAk (by omega) (by omega)]; omega
  have v4 : IntKind.i64.wrap (4 + (nb : Int)) = (m1 : Int):=by rw [zAk (by omega) (by omega)]; omega
  have v5 : IntKind.i64.wrap ((m1 : Int) + (b : Int)) = (m2 : Int):=by rw [zAk (by omega) (by omega)]; omega
  have v6 : IntKind.i64.wrap ((k : Int) + (m2 : Int)) = (k' : Int):=by rw [zAk (by omega) (by omega)]; omega
  have cq : cellsOf K q = some [.int .i64 (b : Int),.int .i64 s,.int .i64 w,.int .i64 a,.int .i64 r]:=fK.cells hq ap
  have cqa : ∀ X,cellsOf (K ++ X) q = some [.int .i64 (b : Int),.int .i64 s,.int .i64 w,.int .i64 a,.int .i64 r]:=fun X=>zBp cq
  have cq2:=A2.cells cq
  have cq3:=A3.cells cq
  have cq4:=A4.cells cq
  have hs4 : K4[sb]? = some (.rw [vd,vs,nx,kd,pd,.nilSl]):=A4.at hs
  have cs4:=zAl hs4
  obtain ⟨ax,ix,lx⟩:=(A4.bs bK).idx h4 .i64
  rw [show ((4 : Nat) : Int) = 4 from rfl] at ix
  have wc : IntKind.i64.wrap (cnt : Int) = (cnt : Int):=zAk (by omega) (by omega)
  have og:=g.g.out
  have g4 : Gc K4 H.length vs (SN.take (min i cnt)) rows:=g.adds A4
  have og4:=g4.g.out
  have fH4 : Fr H K4 (· = sb):=fK.trans (Fr.adds A4 _) fun _ _ h=>h
  have A41:=A4.len
  rw [lo]
  unfold l12x1
  by_cases hlt : i < cnt
  ·have dl : decide ((i : Int) < (cnt : Int)) = true:=decide_eq_true (by omega)
   have tk : SN.take (min (i + 1) cnt) = SN.take (min i cnt) ++ [x]:=by
    rw [Nat.min_eq_left (by omega),Nat.min_eq_left (by omega),List.take_add_one,gx]; rfl
   rw [tk] at key
   obtain ⟨K5,hK5⟩ : ∃ K5,K5 = K4 ++ [ABlk.rw [.int .i64 id,vc,vt]]:=⟨_,rfl⟩
   have A5 : Adds K4 K5:=⟨_,hK5⟩
   have l5 : K5.length = K4.length + 1:=by rw [hK5]; simp
   have g5:=g4.adds A5
   obtain ⟨v',K6,ea,g6,f6,s6,l6,c61,c62⟩:=Gc.push (d:=ty 3 true 56 [.int .i64 0,.nilSl,.nilSl]) rfl (by decide) (by decide) g5 (s:=K4.length) (r:=[.int .i64 id,vc,vt]) (x:=x) (by rw [hK5]; unfold cellsOf; simp) (sr.fr (Fr.adds A5 (fun _=>False)) fun _ _ _ _ h=>h) (fun y hy z hz h=>by
    have h1:=ox y hy z hz
    have h2:=(og z h).2
    omega) (by rw [List.length_take]; omega) (by omega)
   have hs6 : K6[sb]? = some (.rw [vd,vs,nx,kd,pd,.nilSl]):=f6.at (A5.at hs4) fun h=>by have:=(og sb h).1; omega
   have wr2 : zA3 K6 sb 1 [v'] = some (K6.set sb (.rw [vd,v',nx,kd,pd,.nilSl])):=by
    rw [zA2 hs6,if_pos ⟨by simp,by simp [c62]⟩]; rfl
   obtain ⟨K7,hK7⟩ : ∃ K7,K7 = K6.set sb (.rw [vd,v',nx,kd,pd,.nilSl]):=⟨_,rfl⟩
   rw [← hK7] at wr2
   have f7 : Fr K6 K7 (· = sb):=by rw [hK7]; exact Fr.set _ _ rfl
   have fH7 : Fr H K7 (· = sb):=by
    refine ⟨by rw [hK7]; simp; omega,fun z hz hn=>?_⟩
    rw [hK7,zAn _ _ _ _ hn,f6.2 z (by omega) (fun h=>by have:=(og z h).1; omega),hK5,List.getElem?_append_left (by omega)]
    exact fH4.2 z hz hn
   have ro2 : ∀ r ∈ rows ++ [[AV.int .i64 id,vc,vt]],∀ y ∈ r,∀ z,slb y = some z → H.length ≤ z:=fun r hr y hy z hz=>by
    rcases List.mem_append.1 hr with hr | hr
    ·exact ro r hr y hy z hz
    ·rw [List.mem_singleton.1 hr] at hy
     have:=ox y hy z hz; omega
   have g7 : Gc K7 H.length v' (SN.take (min i cnt) ++ [x]) (rows ++ [[AV.int .i64 id,vc,vt]]):=g6.frT f7 (fun z hz h=>by rw [s6] at hz; injection hz with hz; omega) fun r hr y hy z hz h=>by have:=ro2 r hr y hy z hz; omega
   have cq7 : cellsOf K7 q = some [.int .i64 (b : Int),.int .i64 s,.int .i64 w,.int .i64 a,.int .i64 r]:=fH7.cells hq ap
   have hs7 : K7[sb]? = some (.rw [vd,v',nx,kd,pd,.nilSl]):=by rw [hK7]; exact zBe _ _ _ (by omega)
   have hK5:=hK5.symm
   simp -implicitDefEqProofs (maxSteps:=5000000) only [go_sem,simprocAttr,itr,itq,hd,v1,v2,v3,v4,v5,v6,d1,d2,d3,d4,d5,d6,d7,cq,cqa,cq2,cq3,cq4,cc.1,cc.2,ct.1,ct.2,zAx,zAe,wr,ix,lx,wc,dl,cs4,c4,hK5,ea,c61,wr2,cq7,e2]
   exact key K7 v' (rows ++ [[AV.int .i64 id,vc,vt]]) _ _ _ _ _ _ _ _ _ _ _ _ _ _ _ _ _ _ _ _ _ _ _ _ _ _ _ _ _ _ _ _ _ _ _ _ _ _ _ _ _ _ _ _ _ _ _ _ _ _ _ _ _ _ _ _ fH7 hs7 g7 ro2 (by omega)
  ·have dl : decide ((i : Int) < (cnt : Int)) = false:=decide_eq_false (by omega)
   have tk : min (i + 1) cnt = min i cnt:=by omega
   rw [tk] at key
   simp -implicitDefEqProofs (maxSteps:=5000000) only [go_sem,simprocAttr,itr,itq,hd,v1,v2,v3,v4,v5,v6,d1,d2,d3,d4,d5,d6,d7,cq,cqa,cq2,cq3,cq4,cc.1,cc.2,ct.1,ct.2,zAx,zAe,wr,ix,lx,wc,dl,cs4,c4,e2]
   exact key K4 vs rows _ _ _ _ _ _ _ _ _ _ _ _ _ _ _ _ _ _ _ _ _ _ _ _ _ _ _ _ _ _ _ _ _ _ _ _ _ _ _ _ _ _ _ _ _ _ _ _ _ _ _ _ _ _ _ _ fH4 hs4 g4 ro (by omega)
end
end Go.Proofs.Ythgflkfhjnbheaa.G14
end
section
namespace Go.Proofs.Ythgflkfhjnbheaa.G14
open Go Go.Proofs.Ythgflkfhjnbheaa.Eng
theorem str_ne {H : zAc} {v w : AV} {xs ys : List Int} (b : BS H v xs) (c : BS H w ys) (hx : IsU8 xs) (hy : IsU8 ys) : ∃ s t,zEl .bytesStr v H = some (.str s) ∧ zEl .bytesStr w H = some (.str t) ∧ binV .neq .none (.str s) (.str t) = some (.bool (!decide (xs = ys))):=by
 obtain ⟨s,hs,es⟩:=b.str
 obtain ⟨t,ht,et⟩:=c.str
 refine ⟨s,t,hs,ht,?_⟩
 show some (AV.bool (!(s.toList == t.toList))) = _
 rw [es,et]
 by_cases h : xs = ys
 ·subst h; simp
 ·have : ¬ (xs.map fun n=>UInt8.ofNat n.toNat) = (ys.map fun n=>UInt8.ofNat n.toNat):=fun q=>h (zRc hx hy q)
  simp [h,this]
theorem enc_four (b : Int) (S : StS) : (encT b S)[4]? = some (u8w S.snaps.length):=by
 unfold encT
 rw [List.getElem?_append_right (by rw [zA5]; omega),zA5]
 rfl
section
variable {b s w a r : Int} {H : zAc} {v : AV} {z : List Int} (bz : BS H v z)
include bz
set_option maxHeartbeats 4000000 in
theorem rdecBadG (hg : Gm.goodB b s w a r = false) : (envL prog).call 12 [.agg [.int .i64 b,.int .i64 s,.int .i64 w,.int .i64 a,.int .i64 r],v] H = some (.tup [.agg [.nilSl,.nilSl,.int .i64 0,.int .i64 0,.int .i64 0,.nilSl],.int .i64 1],H):=by
 have eg:=Gm.goodR b s w a r
 unfold Gm.geo at eg
 rw [hg] at eg
 rw [c12]
 unfold b12
 simp -implicitDefEqProofs (maxSteps:=5000000) only [go_sem,simprocAttr,itr,itq,eg]
theorem ofN (hg : Gm.goodB b s w a r = true) : ∃ i1 i3 i4 i5 i6 i7 : Int,∀ K,(envL prog).call 41 [.agg [.int .i64 b,.int .i64 s,.int .i64 w,.int .i64 a,.int .i64 r]] K = some (.agg [.int .i64 (zC0 (s * w).toNat (Bt.newN b) b.toNat : Int),.int .i64 i1,.int .i64 (IntKind.i64.wrap (s * w)),.int .i64 i3,.int .i64 i4,.int .i64 i5,.int .i64 i6,.int .i64 i7],K):=by
 have eo:=Gm.ofR b s w a r
 unfold Gm.geo Gm.ofL at eo
 rw [hg,cond_true,zHw (zDb hg)] at eo
 exact ⟨_,_,_,_,_,_,eo⟩
set_option maxHeartbeats 4000000 in
theorem rdecBadL (hg : Gm.goodB b s w a r = true) (hl : z.length ≠ zC0 (s * w).toNat (Bt.newN b) b.toNat) : (envL prog).call 12 [.agg [.int .i64 b,.int .i64 s,.int .i64 w,.int .i64 a,.int .i64 r],v] H = some (.tup [.agg [.nilSl,.nilSl,.int .i64 0,.int .i64 0,.int .i64 0,.nilSl],.int .i64 11],H):=by
 have eg:=Gm.goodR b s w a r
 unfold Gm.geo at eg
 obtain ⟨i1,i3,i4,i5,i6,i7,eo⟩:=ofN (H:=H) bz hg
 rw [hg] at eg
 have wl:=bz.len
 have hn : ((z.length : Int) != (zC0 (s * w).toNat (Bt.newN b) b.toNat : Int)) = true:=bne_iff_ne.2 (by omega)
 rw [c12]
 unfold b12
 simp -implicitDefEqProofs (maxSteps:=5000000) only [go_sem,simprocAttr,itr,itq,zAe,eg,eo,wl,hn]
set_option maxHeartbeats 4000000 in
theorem rdecBadC (hg : Gm.goodB b s w a r = true) (hl : z.length = zC0 (s * w).toNat (Bt.newN b) b.toNat) {c : Int} (hc : z[4]? = some c) (h8 : 8 < c) : (envL prog).call 12 [.agg [.int .i64 b,.int .i64 s,.int .i64 w,.int .i64 a,.int .i64 r],v] H = some (.tup [.agg [.nilSl,.nilSl,.int .i64 0,.int .i64 0,.int .i64 0,.nilSl],.int .i64 11],H):=by
 have eg:=Gm.goodR b s w a r
 unfold Gm.geo at eg
 obtain ⟨i1,i3,i4,i5,i6,i7,eo⟩:=ofN (H:=H) bz hg
 rw [hg] at eg
 rw [← hl] at eo
 have wl:=bz.len
 have hn : ((z.length : Int) != (z.length : Int)) = false:=by simp
 have gc : decide (c > 8) = true:=decide_eq_true h8
 obtain ⟨ax,ix,_⟩:=bz.idx hc .i64
 have lx : ∀ G,zDl 1 false ax (H ++ G) = some (.int .u8 c):=fun G=>by
  obtain ⟨ax',ix',lx'⟩:=(bz.mono G).idx hc .i64
  rw [ix] at ix'; injection ix' with h; rw [h]; exact lx'
 rw [show ((4 : Nat) : Int) = 4 from rfl] at ix
 rw [c12]
 unfold b12
 simp -implicitDefEqProofs (maxSteps:=5000000) only [go_sem,simprocAttr,itr,itq,zAe,eg,eo,wl,hn,ix,lx,gc]
end
end Go.Proofs.Ythgflkfhjnbheaa.G14
end
section
namespace Go.Proofs.Ythgflkfhjnbheaa.G14
open Go Go.Proofs.Ythgflkfhjnbheaa.Eng
section
variable {s w a r : Int} {bN n nb : Nat} {H : zAc} {v : AV} {z : List Int} (bz : BS H v z) (ok : zFw v) (uz : IsU8 z) (hg : Gm.goodB (bN : Int) s w a r = true) (hn : s * w = (n : Int)) (hnb : Bt.newN (bN : Int) = nb) (hlen : z.length = zC0 n nb bN)
include bz ok uz hg hn hnb hlen
set_option maxHeartbeats 32000000 in
theorem rdecodeC : ∃ K,Adds H K ∧ ((zCp bN s w a (rawT n nb bN z) = true ∧ encT bN (rawT n nb bN z) = z ∧ ∃ vd vs vp,(envL prog).call 12 [.agg [.int .i64 (bN : Int),.int .i64 s,.int .i64 w,.int .i64 a,.int .i64 r],v] H = some (.tup [.agg [vd,vs,.int .i64 (rawT n nb bN z).next,.int .i64 (rawT n nb bN z).kind,.int .i64 (rawT n nb bN z).pid,vp],.int .i64 0],K) ∧ ∀ K',Fr K K' (· < H.length) → StA K' vd vs vp (rawT n nb bN z)) ∨ (¬ (zCp bN s w a (rawT n nb bN z) = true ∧ encT bN (rawT n nb bN z) = z) ∧ (envL prog).call 12 [.agg [.int .i64 (bN : Int),.int .i64 s,.int .i64 w,.int .i64 a,.int .i64 r],v] H = some (.tup [.agg [.nilSl,.nilSl,.int .i64 0,.int .i64 0,.int .i64 0,.nilSl],.int .i64 11],K))):=by
 have gg:=zDb hg
 obtain ⟨n',hn',n1,n2⟩:=gg.sw
 obtain rfl : n = n':=by omega
 obtain ⟨_,nb1,nb2⟩:=zHr gg.b1
 rw [hnb] at nb1 nb2
 have bb:=gg.b1
 have hl2 : z.length = zC0 (s * w).toNat (Bt.newN (bN : Int)) (bN : Int).toNat:=by rw [hn,hnb,Int.toNat_natCast,Int.toNat_natCast]; exact hlen
 have eg:=Gm.goodR bN s w a r
 unfold Gm.geo at eg
 obtain ⟨i1,i3,i4,i5,i6,i7,eo⟩:=ofN (H:=H) bz hg
 have wm : IntKind.i64.wrap (s * w) = (n : Int):=by rw [zAk (by omega) (by omega)]; exact hn
 rw [← hl2,wm] at eo
 rw [hg] at eg
 unfold zC0 at hlen
 have wl:=bz.len
 have h0 : z ≠ []:=fun e=>by rw [e,List.length_nil] at hlen; omega
 have hne : ((z.length : Int) != (z.length : Int)) = false:=by simp
 have fit:=zNd (n:=n) uz (show nb ≤ 1000 by omega) (show bN ≤ 1000 by omega)
 obtain ⟨c4,hc4⟩ : ∃ c4,z[4]? = some c4:=⟨_,List.getElem?_eq_getElem (by omega)⟩
 obtain ⟨kd,hkd⟩ : ∃ c,z[5]? = some c:=⟨_,List.getElem?_eq_getElem (by omega)⟩
 have u4:=uz _ (List.mem_of_getElem? hc4)
 have u5:=uz _ (List.mem_of_getElem? hkd)
 have rs:=zLs (n:=n) (nb:=nb) (b:=bN) hc4
 by_cases h8 : 8 < c4
 ·refine ⟨H,Adds.refl H,.inr ⟨fun h=>?_,rdecBadC bz hg hl2 hc4 h8⟩⟩
  have e4:=enc_four bN (rawT n nb bN z)
  rw [h.2,hc4] at e4
  injection e4 with e4
  have ls : (rawT n nb bN z).snaps.length ≤ 8:=by rw [rs,List.length_take]; omega
  rw [zK7 (by omega)] at e4
  omega
 obtain ⟨cnt,rfl⟩ : ∃ cnt : Nat,c4 = cnt:=⟨c4.toNat,by omega⟩
 rw [Int.toNat_natCast] at rs
 have gc : decide ((cnt : Int) > 8) = false:=decide_eq_false h8
 have rk : (rawT n nb bN z).kind = kd:=by show (z[5]?).getD 0 = kd; rw [hkd]; rfl
 have rn : (rawT n nb bN z).next = getS (z.take 4):=rfl
 have rp : (rawT n nb bN z).pid = getS ((z.drop 6).take 4):=rfl
 generalize hnx : (rawT n nb bN z).next = nx at *
 generalize hpd : (rawT n nb bN z).pid = pd at *
 obtain ⟨H1,hH1⟩ : ∃ H1,H1 = H ++ [ABlk.rw [.int .i64 (bN : Int),.int .i64 s,.int .i64 w,.int .i64 a,.int .i64 r],.rw [.nilSl,.nilSl,.int .i64 0,.int .i64 0,.int .i64 0,.nilSl]]:=⟨_,rfl⟩
 have A1 : Adds H H1:=⟨_,hH1⟩
 have l1 : H1.length = H.length + 2:=by rw [hH1]; simp
 have c0 : cellsOf H1 H.length = some [.int .i64 (bN : Int),.int .i64 s,.int .i64 w,.int .i64 a,.int .i64 r]:=by rw [hH1]; unfold cellsOf; simp
 have b0 : H1[H.length + 1]? = some (.rw [.nilSl,.nilSl,.int .i64 0,.int .i64 0,.int .i64 0,.nilSl]):=by rw [hH1]; simp
 obtain ⟨H2,hH2⟩ : ∃ H2,H2 = H1 ++ [ABlk.rw [.int .i64 (z.length : Int),.int .i64 i1,.int .i64 (n : Int),.int .i64 i3,.int .i64 i4,.int .i64 i5,.int .i64 i6,.int .i64 i7]]:=⟨_,rfl⟩
 have A2 : Adds H1 H2:=⟨_,hH2⟩
 have l2 : H2.length = H1.length + 1:=by rw [hH2]; simp
 have w2 : zA3 (H1 ++ [ABlk.rw [.int .i64 0,.int .i64 0,.int .i64 0,.int .i64 0,.int .i64 0,.int .i64 0,.int .i64 0,.int .i64 0]]) H1.length 0 [.int .i64 (z.length : Int),.int .i64 i1,.int .i64 (n : Int),.int .i64 i3,.int .i64 i4,.int .i64 i5,.int .i64 i6,.int .i64 i7] = some H2:=by
  rw [zC1,if_pos ⟨by simp,rfl⟩,hH2]; rfl
 have z2 : cellsOf H2 H1.length = some [.int .i64 (z.length : Int),.int .i64 i1,.int .i64 (n : Int),.int .i64 i3,.int .i64 i4,.int .i64 i5,.int .i64 i6,.int .i64 i7]:=by rw [hH2]; unfold cellsOf; simp
 have c2:=A2.cells c0
 have b2 : BS H2 v z:=(A1.trans A2).bs bz
 obtain ⟨a4,ix4,lx4⟩:=b2.idx hc4 .i64
 obtain ⟨a5,ix5,lx5⟩:=b2.idx hkd .i64
 rw [show ((4 : Nat) : Int) = 4 from rfl] at ix4
 rw [show ((5 : Nat) : Int) = 5 from rfl] at ix5
 have wk : IntKind.i64.wrap kd = kd:=zAk (by omega) (by omega)
 obtain ⟨w1,s1,q1,o1⟩:=bs_to b2 ok h0 (show 4 ≤ z.length by omega)
 obtain ⟨w3,s3,q3,o3⟩:=zJq b2 ok h0 (show 6 ≤ 10 by omega) (by omega)
 rw [show ((4 : Nat) : Int) = 4 from rfl] at s1
 rw [show ((6 : Nat) : Int) = 6 from rfl,show ((10 : Nat) : Int) = 10 from rfl] at s3
 rw [show 10 - 6 = 4 from rfl] at q3
 have um : IsU8 (z.take 4):=fun y hy=>uz y (List.mem_of_mem_take hy)
 have um3 : IsU8 ((z.drop 6).take 4):=fun y hy=>uz y (List.mem_of_mem_drop (List.mem_of_mem_take hy))
 have lm : (z.take 4).length = 4:=by rw [List.length_take]; omega
 have lm3 : ((z.drop 6).take 4).length = 4:=by rw [List.length_take,List.length_drop]; omega
 have e1:=fun {K : zAc} (A : Adds H2 K)=>Pg.rgetC (A.bs q1) um (by rw [lm]; omega)
 have e3:=fun {K : zAc} (A : Adds H2 K)=>Pg.rgetC (A.bs q3) um3 (by rw [lm3]; omega)
 have gl1:=zEy um
 have gl3:=zEy um3
 rw [lm] at gl1
 rw [lm3] at gl3
 rw [← rn] at e1 gl1
 rw [← rp] at e3 gl3
 have v1 : IntKind.i64.wrap nx = nx:=zAk (by omega) (by omega)
 have v3 : IntKind.i64.wrap pd = pd:=zAk (by omega) (by omega)
 have A3 : Adds H2 (H2 ++ [ABlk.rw [.nilSl,.nilSl,.int .i64 0,.int .i64 0,.int .i64 0,.nilSl]]):=⟨_,rfl⟩
 have e1':=e1 A3
 have e3':=e3 A3
 have lx5' : zDl 1 false a5 (H2 ++ [ABlk.rw [.nilSl,.nilSl,.int .i64 0,.int .i64 0,.int .i64 0,.nilSl]]) = some (.int .u8 kd):=by
  obtain ⟨ax',ix',lx'⟩:=(A3.bs b2).idx hkd .i64
  rw [show ((5 : Nat) : Int) = 5 from rfl,ix5] at ix'; injection ix' with h; rw [h]; exact lx'
 obtain ⟨H4,hH4⟩ : ∃ H4,H4 = H2 ++ [ABlk.rw [.nilSl,.nilSl,.int .i64 nx,.int .i64 kd,.int .i64 pd,.nilSl]]:=⟨_,rfl⟩
 have A4 : Adds H2 H4:=⟨_,hH4⟩
 have l4 : H4.length = H2.length + 1:=by rw [hH4]; simp
 have s4 : H4[H2.length]? = some (.rw [.nilSl,.nilSl,.int .i64 nx,.int .i64 kd,.int .i64 pd,.nilSl]):=by rw [hH4]; simp
 have w4 : zA3 (H2 ++ [ABlk.rw [.nilSl,.nilSl,.int .i64 0,.int .i64 0,.int .i64 0,.nilSl]]) H2.length 0 [.nilSl,.nilSl,.int .i64 nx,.int .i64 kd,.int .i64 pd,.nilSl] = some H4:=by
  rw [zC1,if_pos ⟨by simp,rfl⟩,hH4]; rfl
 have b4 : BS H4 v z:=A4.bs b2
 have av : ∀ b,slb v = some b → b ≠ H2.length:=fun b hb=>by have:=b2.lt b hb; omega
 have z4:=A4.cells z2
 have l0:=rdecL0 (H:=H4) (zb:=H1.length) (sb:=H2.length) (nx:=.int .i64 nx) (kd:=.int .i64 kd) (pd:=.int .i64 pd) uz (by omega) b4 z4 (by omega) av (by omega) (k0:=10) (by omega) (m:=n) (i:=0) (K:=H4) (vd:=.nilSl)
 rw [show ((0 : Nat) : Int) = 0 from rfl,show ((10 + 0 : Nat) : Int) = 10 from rfl] at l0
 have hH1':=hH1.symm
 have hH2':=hH2.symm
 have hH4':=hH4.symm
 have key : Outs (runC (envL prog) (b12 (envL prog)) ([.agg [.int .i64 (bN : Int),.int .i64 s,.int .i64 w,.int .i64 a,.int .i64 r],v] ++ List.replicate (148 - [AV.agg [.int .i64 (bN : Int),.int .i64 s,.int .i64 w,.int .i64 a,.int .i64 r],v].length) .undef) H) fun e' t K=>Adds H K ∧ ((zCp bN s w a (rawT n nb bN z) = true ∧ encT bN (rawT n nb bN z) = z ∧ ∃ vd vs vt,fin [.cell 4 6 true,.tmp 5] (some (e',t,K)) = some (.tup [.agg [vd,vs,.int .i64 nx,.int .i64 kd,.int .i64 pd,vt],.int .i64 0],K) ∧ (∀ K',Fr K K' (· < H.length) → StA K' vd vs vt (rawT n nb bN z)) ∧ vd.under H.length = false) ∨ (¬ (zCp bN s w a (rawT n nb bN z) = true ∧ encT bN (rawT n nb bN z) = z) ∧ fin [.cell 4 6 true,.tmp 5] (some (e',t,K)) = some (.tup [.agg [.nilSl,.nilSl,.int .i64 0,.int .i64 0,.int .i64 0,.nilSl],.int .i64 11],K))):=by
  unfold b12
  generalize hQ : (fun (e' : Ex) (t : T) (K : zAc)=>Adds H K ∧ ((zCp bN s w a (rawT n nb bN z) = true ∧ encT bN (rawT n nb bN z) = z ∧ ∃ vd vs vt,fin [.cell 4 6 true,.tmp 5] (some (e',t,K)) = some (.tup [.agg [vd,vs,.int .i64 nx,.int .i64 kd,.int .i64 pd,vt],.int .i64 0],K) ∧ (∀ K',Fr K K' (· < H.length) → StA K' vd vs vt (rawT n nb bN z)) ∧ vd.under H.length = false) ∨ (¬ (zCp bN s w a (rawT n nb bN z) = true ∧ encT bN (rawT n nb bN z) = z) ∧ fin [.cell 4 6 true,.tmp 5] (some (e',t,K)) = some (.tup [.agg [.nilSl,.nilSl,.int .i64 0,.int .i64 0,.int .i64 0,.nilSl],.int .i64 11],K)))) = Q
  simp -implicitDefEqProofs (maxSteps:=5000000) only [go_sem,simprocAttr,itr,itq,zAi,hH1',hH2',hH4',c0,eg,eo,zAe,zAx,w2,wl,z2,hne,ix4,lx4,gc,ix5,lx5,lx5',wk,s1,s3,e1',e3',v1,v3,w4]
  unfold LP1 at l0
  generalize (envL prog).loop (runC (envL prog) (l12x0 (envL prog))) = L0 at l0 ⊢
  refine zAq (fun r=>seqR (zAt 0 r) _) (l0 _ _ _ _ _ _ _ _ _ _ _ _ _ _ _ _ _ _ _ _ _ _ _ _ _ _ _ _ _ _ _ _ _ _ _ _ _ _ _ _ _ _ _ _ _ _ _ _ _ _ _ _ _ _ _ _ _ _ _ _ _ _ _ _ _ _ _ _ _ _ _ _ _ _ _ _ _ _ _ _ _ _ _ _ _ _ _ _ _ _ _ _ _ _ _ _ _ _ _ _ _ _ _ _ _ _ _ _ _ _ _ _ _ _ _ _ _ _ _ _ _ _ _ _ _ _ _ _ _ _ _ _ _ _ _ _ _ _ _ _ _ _ _ (Fr.refl _ _) s4 (.inl ⟨rfl,rfl⟩) (by omega)) ?_
  rintro e t K5 ⟨rfl,⟨vd,f5,s5,g5⟩,fv,rfl⟩
  have k5:=f5.1
  have c5:=f5.cells (A4.cells c2) (by show ¬ H.length = H2.length; omega)
  obtain ⟨vn,G,on,en⟩:=Bt.newR (bN : Int) K5
  obtain ⟨K6,hK6⟩ : ∃ K6,K6 = K5 ++ G:=⟨_,rfl⟩
  rw [← hK6] at en
  have A6 : Adds K5 K6:=⟨_,hK6⟩
  have l6:=A6.len
  have ln:=on.bs.len
  rw [List.length_replicate,hnb] at ln
  have f46 : Fr H4 K6 (· = H2.length):=f5.trans (Fr.adds A6 _) fun _ _ h=>h
  have s6:=A6.at s5
  have g6 : FS K6 H4.length vd _:=g5.frT (Fr.adds A6 (fun _=>False)) fun _ _ h=>h
  have o6:=FS.out g6
  have c6:=A6.cells c5
  have b6 : BS K6 v z:=b4.fr f46 fun b hb=>av b hb
  have cd:=FS.cell g6
  obtain ⟨kz,hkz⟩ : ∃ kz,kz = 10 + n + 8 * (4 + nb + bN):=⟨_,rfl⟩
  have l1':=rdecL1 (H:=K6) (sb:=H2.length) (q:=H.length) (nb:=nb) (b:=bN) (kz:=kz) (hkz:=hkz) (k1:=10 + n) (cnt:=cnt) (nx:=.int .i64 nx) (kd:=.int .i64 kd) (pd:=.int .i64 pd) (vd:=vd) uz (by omega) ok b6 c6 (by omega) av (by omega) nb1 (by omega) (by omega) (by omega) cd.2 hc4 (by omega) (m:=8) (i:=0) (K:=K6) (vs:=.nilSl) (rows:=[])
  rw [show ((0 : Nat) : Int) = 0 from rfl,Nat.zero_mul,Nat.add_zero] at l1'
  simp -implicitDefEqProofs (maxSteps:=5000000) only [go_sem,simprocAttr,itr,itq,zAi,c5,en,ln]
  unfold LP1 at l1'
  generalize (envL prog).loop (runC (envL prog) (l12x1 (envL prog))) = L1 at l1' ⊢
  refine zAq (fun r=>seqR (zAt 2 r) _) (l1' _ _ _ _ _ _ _ _ _ _ _ _ _ _ _ _ _ _ _ _ _ _ _ _ _ _ _ _ _ _ _ _ _ _ _ _ _ _ _ _ _ _ _ _ _ _ _ _ _ _ _ _ _ _ _ _ _ _ _ _ _ _ _ _ _ _ _ _ _ _ _ _ _ _ _ _ _ _ _ _ _ _ _ _ _ _ _ _ _ _ _ _ _ _ _ _ _ _ _ _ _ _ _ _ _ _ _ _ _ _ _ _ _ _ _ _ _ _ _ _ _ _ _ _ _ _ _ _ _ _ _ _ _ _ _ _ _ _ _ _ _ _ (Fr.refl _ _) s6 (by rw [Nat.zero_min,List.take_zero]; exact Gc.nil _ _) (fun r hr=>by cases hr) (by omega)) ?_
  rintro e t K8 ⟨rfl,⟨vs,rows,f8,s8,g8,o8⟩,fw,rfl⟩
  rw [← rs] at g8
  have k8:=f8.1
  have c8:=f8.cells c6 (by show ¬ H.length = H2.length; omega)
  have b8 : BS K8 v z:=b6.fr f8 fun b hb=>av b hb
  obtain ⟨w9,s9,q9,o9⟩:=bs_from b8 ok h0 (show kz ≤ z.length by omega)
  have tz : z.drop (10 + n + 8 * (4 + nb + bN)) = (z.drop (10 + n + 8 * (4 + nb + bN))).take bN:=by rw [List.take_of_length_le (by rw [List.length_drop]; omega)]
  rw [hkz,tz] at q9
  obtain ⟨vt,K11,e11,A11,gt⟩:=zSa q9 (fun y hy=>uz y (List.mem_of_mem_drop (List.mem_of_mem_take hy))) (by rw [List.length_take]; omega)
  have l11:=A11.len
  have s11 : K11[H2.length]? = some (.rw [vd,vs,.int .i64 nx,.int .i64 kd,.int .i64 pd,.nilSl]):=A11.at s8
  have ct:=gt.isP.cell
  have w12 : zA3 K11 H2.length 5 [vt] = some (K11.set H2.length (.rw [vd,vs,.int .i64 nx,.int .i64 kd,.int .i64 pd,vt])):=by
   rw [zA2 s11,if_pos ⟨by simp,by simp [ct.2]⟩]; rfl
  obtain ⟨K12,hK12⟩ : ∃ K12,K12 = K11.set H2.length (.rw [vd,vs,.int .i64 nx,.int .i64 kd,.int .i64 pd,vt]):=⟨_,rfl⟩
  rw [← hK12] at w12
  have f12 : Fr K8 K12 (· = H2.length):=by
   rw [hK12]; exact (Fr.adds A11 _).trans (Fr.set (F:=(· = H2.length)) _ _ rfl) fun _ _ h=>h
  have og8:=g8.g.out
  have ogt:=gt.out
  have mkSt : ∀ {K' : zAc},Fr K12 K' (· < H1.length) → StA K' vd vs vt (rawT n nb bN z):=by
   intro K' f'
   have f13 : Fr K8 K' (fun x=>x = H2.length ∨ x < H1.length):=(f12.mono fun _ _ h=>.inl h).trans f' fun _ _ h=>.inr h
   refine ⟨?_,?_,?_,?_⟩
   ·rw [zEv]
    have h1:=FS.is ((g6.frT f8 fun x hx h=>by have:=(o6 x hx).1; omega).frT f13 fun x hx h=>by have:=(o6 x hx).1; omega)
    exact h1
   ·intro b o s' n' l e he
    rcases g6 with ⟨_,rfl⟩ | ⟨_,_,_,rfl,_⟩
    ·cases he
    ·injection he; omega
   ·exact (g8.frT f13 (fun x hx h=>by have:=(og8 x hx).1; omega) fun r hr y hy x hx h=>by have:=o8 r hr y hy x hx; omega).isC
   ·rw [zLt]
    have h1:=gt.isP.fr (((Fr.set (F:=(· = H2.length)) K11 (.rw [vd,vs,.int .i64 nx,.int .i64 kd,.int .i64 pd,vt]) rfl).mono (G:=fun x=>x = H2.length ∨ x < H1.length) fun _ _ h=>.inl h).trans (hK12 ▸ f') fun _ _ h=>.inr h) fun x hx h=>by have:=(ogt x hx).1; omega
    exact h1
  have st:=mkSt (Fr.refl _ _)
  have ff : Fr H2 K12 (· = H2.length):=(((Fr.adds A4 _).trans f46 fun _ _ h=>h).trans f8 fun _ _ h=>h).trans f12 fun _ _ h=>h
  have a12 : Adds H K12:=ff.old (A1.trans A2) fun b hb h=>by omega
  have b12:=ff.at (A2.at b0) (by show ¬ H.length + 1 = H2.length; omega)
  have q12:=f12.cells c8 (by show ¬ H.length = H2.length; omega)
  have c12 : cellsOf K12 H2.length = some [vd,vs,.int .i64 nx,.int .i64 kd,.int .i64 pd,vt]:=zAl (by rw [hK12]; exact zBe _ _ _ (zA8 s11))
  have lD : (rawT n nb bN z).dirty.length ≤ 9223372036854775807:=by rw [zEv,List.length_map,List.length_take]; omega
  have cs:=g8.isC.cell
  have ud : vd.under H.length = false:=by
   rcases g6 with ⟨e,_⟩ | ⟨_,b,hb,rfl,_⟩
   ·have:=congrArg List.length e
    rw [List.length_map,List.length_map,List.length_take,List.length_drop,List.length_nil] at this
    omega
   ·simp [AV.under]; omega
  have wr : ∀ {K : zAc} {cs : List AV},K[H.length + 1]? = some (.rw [.nilSl,.nilSl,.int .i64 0,.int .i64 0,.int .i64 0,.nilSl]) → cs.length = 6 → cs.all AV.isCell = true → zA3 K (H.length + 1) 0 cs = some (K.set (H.length + 1) (.rw cs)):=by
   intro K cs hb hl hc
   rw [zA2 hb,if_pos ⟨by rw [hl]; simp,hc⟩]
   obtain ⟨x1,x2,x3,x4,x5,x6,rfl⟩ : ∃ x1 x2 x3 x4 x5 x6,cs = [x1,x2,x3,x4,x5,x6]:=by
    match cs,hl with
    | [x1,x2,x3,x4,x5,x6],_=>exact ⟨_,_,_,_,_,_,rfl⟩
   rfl
  have aset : ∀ {K : zAc} (k : ABlk),Adds H K → H.length + 1 < K.length → Adds H (K.set (H.length + 1) k):=fun k a _=>Adds.of_get (by rw [List.length_set]; exact a.len) fun x hx=>by
   rw [zAn _ _ _ _ (by omega)]; obtain ⟨G,rfl⟩:=a; rw [List.getElem?_append_left hx]
  by_cases hgd : zCp bN s w a (rawT n nb bN z) = true
  ·obtain ⟨v13,K13,e13,A13',g13⟩:=rencC st fit lD (r:=r) (by rw [hg,hgd]; rfl)
   rw [hnx,rk,hpd] at e13
   have GT:=zDm bb gg.a1.2 (fun x hx=>(fit.s.2 x hx).u8) hgd
   obtain ⟨t1,t2,x1,x2,q13⟩:=str_ne g13.bs (A13'.bs (a12.bs bz)) (zNs GT.sn) uz
   have b13:=A13'.at b12
   have c13:=A13'.cells c12
   have t13:=zA8 b13
   have cv13:=g13.bs.cell
   by_cases hez : encT bN (rawT n nb bN z) = z
   ·rw [decide_eq_true hez] at q13
    have w14:=wr (cs:=[vd,vs,.int .i64 nx,.int .i64 kd,.int .i64 pd,vt]) b13 rfl (by simp only [List.all_cons,cd.2,cs.2,ct.2]; rfl)
    have c14 : cellsOf (K13.set (H.length + 1) (.rw [vd,vs,.int .i64 nx,.int .i64 kd,.int .i64 pd,vt])) (H.length + 1) = some [vd,vs,.int .i64 nx,.int .i64 kd,.int .i64 pd,vt]:=zAl (zBe _ _ _ t13)
    simp -implicitDefEqProofs (maxSteps:=5000000) only [go_sem,simprocAttr,itr,itq,s9,e11,zAx,w12,q12,c12,e13,x1,x2,q13,c13,w14,zAe,cd.1,cs.1,ct.1,cd.2,cs.2,ct.2,cv13.1,cv13.2,zAb]
    subst hQ
    refine ⟨aset _ (a12.trans A13') t13,.inl ⟨hgd,hez,vd,vs,vt,?_,fun K' f'=>mkSt (((Fr.adds A13' _).trans (Fr.set (F:=(· = H.length + 1)) _ _ rfl) fun x _ h=>by show x < H1.length; omega).trans f' fun x _ h=>by show x < H1.length; have : x < H.length:=h; omega),ud⟩⟩
    simp -implicitDefEqProofs (maxSteps:=5000000) only [go_sem,simprocAttr,itr,itq,c14]
   ·rw [decide_eq_false hez] at q13
    have w14:=wr (cs:=[.nilSl,.nilSl,.int .i64 0,.int .i64 0,.int .i64 0,.nilSl]) b13 rfl rfl
    have c14 : cellsOf (K13.set (H.length + 1) (.rw [.nilSl,.nilSl,.int .i64 0,.int .i64 0,.int .i64 0,.nilSl])) (H.length + 1) = some [.nilSl,.nilSl,.int .i64 0,.int .i64 0,.int .i64 0,.nilSl]:=zAl (zBe _ _ _ t13)
    simp -implicitDefEqProofs (maxSteps:=5000000) only [go_sem,simprocAttr,itr,itq,s9,e11,zAx,w12,q12,c12,e13,x1,x2,q13,c13,w14,zAe,cd.1,cs.1,ct.1,cd.2,cs.2,ct.2,cv13.1,cv13.2,zAb]
    subst hQ
    refine ⟨aset _ (a12.trans A13') t13,.inr ⟨fun h=>hez h.2,?_⟩⟩
    simp -implicitDefEqProofs (maxSteps:=5000000) only [go_sem,simprocAttr,itr,itq,c14]
  ·have e13:=zSe st fit lD (b:=bN) (s:=s) (w:=w) (a:=a) (r:=r) (by rw [hg,Bool.eq_false_iff.2 hgd]; rfl)
   rw [hnx,rk,hpd] at e13
   have t13:=zA8 b12
   have w14:=wr (cs:=[.nilSl,.nilSl,.int .i64 0,.int .i64 0,.int .i64 0,.nilSl]) b12 rfl rfl
   have c14 : cellsOf (K12.set (H.length + 1) (.rw [.nilSl,.nilSl,.int .i64 0,.int .i64 0,.int .i64 0,.nilSl])) (H.length + 1) = some [.nilSl,.nilSl,.int .i64 0,.int .i64 0,.int .i64 0,.nilSl]:=zAl (zBe _ _ _ t13)
   simp -implicitDefEqProofs (maxSteps:=5000000) only [go_sem,simprocAttr,itr,itq,s9,e11,zAx,w12,q12,c12,e13,w14,zAe,cd.1,cs.1,ct.1,cd.2,cs.2,ct.2,zAb]
   subst hQ
   refine ⟨aset _ a12 t13,.inr ⟨fun h=>hgd h.1,?_⟩⟩
   simp -implicitDefEqProofs (maxSteps:=5000000) only [go_sem,simprocAttr,itr,itq,c14]
 obtain ⟨e',t,K,hr,aK,h⟩:=key
 rcases h with ⟨h1,h2,vd,vs,vt,hf,st,ud⟩ | ⟨h1,hf⟩
 ·refine ⟨K,aK,.inl ⟨h1,h2,vd,vs,vt,?_,st⟩⟩
  rw [c12,hr,hf,rk]
  exact zA6 (by simp [AV.under,zBc,ud])
 ·refine ⟨H,Adds.refl H,.inr ⟨h1,?_⟩⟩
  rw [c12,hr,hf]
  exact Adds.trimS aK rfl
end
end Go.Proofs.Ythgflkfhjnbheaa.G14
end
section
namespace Go.Proofs.Ythgflkfhjnbheaa.G14
open Go Go.Proofs.Ythgflkfhjnbheaa.Eng
section
variable {H : zAc} {vd vs vp : AV} {nx kd pd : Int} {L : List SnS} {P : List PrS} {nd : Nat} (gs : IsC H vs L) (gp : IsP H vp P) (wd : zD3 vd = some (.int .i64 (nd : Int))) (cd : vd.isCell = true) (fb : L.length ≤ 9223372036854775807 ∧ ∀ s ∈ L,s.ch.length ≤ 9223372036854775807 ∧ s.tb.length ≤ 9223372036854775807)
include gs gp wd cd fb
set_option maxHeartbeats 4000000 in
theorem fairL12 {q : Nat} (hq : cellsOf H q = some [vd,vs,.int .i64 nx,.int .i64 kd,.int .i64 pd,vp]) (x0 x29 x30 x31 x32 x33 x34 x35 x36 x37 x38 x39 x40 x41 x42 x43 x44 x45 : AV) : ∀ (k i : Nat) (j4 j5 j6 j7 j8 j9 j10 j11 j12 j13 j14 j15 j16 j17 j18 j19 j20 j21 j22 j23 j24 j25 j26 j27 j28 : AV),i + k = L.length →
  Outs (LP1 l6x0 [x0,.ptr q 0,.bool false,.int .i64 (i : Int),j4,j5,j6,j7,j8,j9,j10,j11,j12,j13,j14,j15,j16,j17,j18,j19,j20,j21,j22,j23,j24,j25,j26,j27,j28,x29,x30,x31,x32,x33,x34,x35,x36,x37,x38,x39,x40,x41,x42,x43,x44,x45] H) fun e t K=>K = H ∧ ∃ fv : Nat → AV,t = [x0,.ptr q 0,(fv 2),(fv 3),(fv 4),(fv 5),(fv 6),(fv 7),(fv 8),(fv 9),(fv 10),(fv 11),(fv 12),(fv 13),(fv 14),(fv 15),(fv 16),(fv 17),(fv 18),(fv 19),(fv 20),(fv 21),(fv 22),(fv 23),(fv 24),(fv 25),(fv 26),(fv 27),(fv 28),x29,x30,x31,x32,x33,x34,x35,x36,x37,x38,x39,x40,x41,x42,x43,x44,x45] ∧ ((e = .exit 0 ∧ (L.drop i).all (fun s=>decide (s.ch.length ≤ 40) && decide (s.tb.length ≤ 80)) = true) ∨ (e = .ret ∧ fv 2 = .bool false ∧ (L.drop i).all (fun s=>decide (s.ch.length ≤ 40) && decide (s.tb.length ≤ 80)) = false)):=by
 intro k
 obtain ⟨L0,hL0⟩ : ∃ L,L = LP1 l6x0:=⟨_,rfl⟩
 have lo:=zAp hL0
 have fl:=fb.1
 have wl:=gs.len
 rw [← hL0]
 induction k with
 | zero =>
  intro i j4 j5 j6 j7 j8 j9 j10 j11 j12 j13 j14 j15 j16 j17 j18 j19 j20 j21 j22 j23 j24 j25 j26 j27 j28 hi
  obtain rfl : i = L.length:=by omega
  have hd : decide ((L.length : Int) < (L.length : Int)) = false:=by simp
  rw [List.drop_length,lo]
  unfold l6x0
  simp -implicitDefEqProofs (maxSteps:=5000000) only [go_sem,simprocAttr,itr,itq,hq,wl,hd,zAg,zAb]
  exact exF2 rfl (.inl (by first | rfl | trivial))
 | succ k ih =>
  intro i j4 j5 j6 j7 j8 j9 j10 j11 j12 j13 j14 j15 j16 j17 j18 j19 j20 j21 j22 j23 j24 j25 j26 j27 j28 hi
  have hlt : i < L.length:=by omega
  have hd : decide ((i : Int) < (L.length : Int)) = true:=decide_eq_true (by omega)
  have e2 : IntKind.i64.wrap ((i : Int) + 1) = ((i + 1 : Nat) : Int):=by rw [zAk (by omega) (by omega)]; omega
  have hx:=List.getElem?_eq_getElem hlt
  have hm:=fb.2 _ (List.getElem_mem hlt)
  rw [List.drop_eq_getElem_cons hlt,List.all_cons]
  generalize L[i] = s at *
  obtain ⟨bb,cs,vc,vt,sb,ix,hc,h1,h2,h3,ht,hle,hbs,hip⟩:=gs.idx hx
  have w1:=hbs.len
  have w2:=hip.len
  rw [lo]
  unfold l6x0
  by_cases h : (s.ch.length : Int) > 40
  ·have d1:=decide_eq_true h
   rw [decide_eq_false (show ¬ s.ch.length ≤ 40 by omega)]
   simp -implicitDefEqProofs (maxSteps:=5000000) only [go_sem,simprocAttr,itr,itq,hq,wl,hd,ix,hc,h2,h3,w1,w2,d1,zAj,zAb]
   exact exF2 rfl (.inr rfl)
  ·have d1:=decide_eq_false h
   rw [decide_eq_true (show s.ch.length ≤ 40 by omega)]
   by_cases h' : (s.tb.length : Int) > 80
   ·have d2:=decide_eq_true h'
    rw [decide_eq_false (show ¬ s.tb.length ≤ 80 by omega)]
    simp -implicitDefEqProofs (maxSteps:=5000000) only [go_sem,simprocAttr,itr,itq,hq,wl,hd,ix,hc,h2,h3,w1,w2,d1,d2,zAj,zAb]
    exact exF2 rfl (.inr rfl)
   ·have d2:=decide_eq_false h'
    rw [decide_eq_true (show s.tb.length ≤ 80 by omega)]
    simp -implicitDefEqProofs (maxSteps:=5000000) only [go_sem,simprocAttr,itr,itq,hq,wl,hd,ix,hc,h2,h3,w1,w2,d1,d2,e2]
    exact ih (i + 1) _ _ _ _ _ _ _ _ _ _ _ _ _ _ _ _ _ _ _ _ _ _ _ _ _ (by omega)
def zEp (L : List SnS) (nd : Nat) (P : List PrS) : Bool:=zTu L && (decide (nd ≤ 80) && decide (P.length ≤ 80))
theorem zNq : (envL prog).call 6 [.agg [vd,vs,.int .i64 nx,.int .i64 kd,.int .i64 pd,vp]] H = some (.bool (zEp L nd P),H):=by
 obtain ⟨H1,hH1⟩ : ∃ K,K = H ++ [ABlk.rw [vd,vs,.int .i64 nx,.int .i64 kd,.int .i64 pd,vp]]:=⟨_,rfl⟩
 have A1 : Adds H H1:=⟨_,hH1⟩
 have hq : cellsOf H1 H.length = some [vd,vs,.int .i64 nx,.int .i64 kd,.int .i64 pd,vp]:=by rw [hH1]; unfold cellsOf; simp
 have l0:=fairL12 (gs.adds A1) (gp.adds A1) wd cd fb hq (k:=L.length) (i:=0)
 rw [show ((0 : Nat) : Int) = 0 from rfl,List.drop_zero] at l0
 have wl:=gs.len
 have wp:=gp.len
 have k2:=gs.cell.2
 have k3:=gp.cell.2
 have hH1:=hH1.symm
 have key : Outs (runC (envL prog) (b6 (envL prog)) ([AV.agg [vd,vs,.int .i64 nx,.int .i64 kd,.int .i64 pd,vp]] ++ List.replicate (46 - [AV.agg [vd,vs,.int .i64 nx,.int .i64 kd,.int .i64 pd,vp]].length) .undef) H) fun e' t K=>Adds H K ∧ fin [.tmp 2] (some (e',t,K)) = some (.bool (zEp L nd P),K):=by
  unfold b6
  generalize hQ : (fun (e' : Ex) (t : T) (K : zAc)=>Adds H K ∧ fin [.tmp 2] (some (e',t,K)) = some (AV.bool (zEp L nd P),K)) = Q
  simp -implicitDefEqProofs (maxSteps:=5000000) only [go_sem,simprocAttr,itr,itq,zAi,zAe,cd,k2,k3,hH1]
  unfold LP1 at l0
  generalize (envL prog).loop (runC (envL prog) (l6x0 (envL prog))) = L0 at l0 ⊢
  refine zAq (fun r=>seqR (zAt 0 r) _) (l0 _ _ _ _ _ _ _ _ _ _ _ _ _ _ _ _ _ _ _ _ _ _ _ _ _ _ _ _ _ _ _ _ _ _ _ _ _ _ _ _ _ _ _ (by omega)) ?_
  rintro e t K ⟨rfl,fv,rfl,⟨rfl,ho⟩ | ⟨rfl,f4,ho⟩⟩
  ·have hf : zEp L nd P = (decide (L.length ≤ 12) && (decide (nd ≤ 80) && decide (P.length ≤ 80))):=by unfold zEp zTu; rw [ho]; rfl
   have cast : ∀ a b : Nat,decide ((a : Int) ≤ (b : Int)) = decide (a ≤ b):=fun a b=>by
    by_cases h : a ≤ b
    ·rw [decide_eq_true h,decide_eq_true (by omega)]
    ·rw [decide_eq_false h,decide_eq_false (by omega)]
   have c1:=cast L.length 12
   have c2:=cast nd 80
   have c3:=cast P.length 80
   rw [show ((12 : Nat) : Int) = 12 from rfl] at c1
   rw [show ((80 : Nat) : Int) = 80 from rfl] at c2 c3
   rcases b1 : decide (L.length ≤ 12) with _ | _ <;> rw [b1] at c1
   ·simp -implicitDefEqProofs (maxSteps:=5000000) only [go_sem,simprocAttr,itr,itq,hq,wl,c1,zAb]
    subst hQ
    rw [hf,b1]
    refine ⟨A1,?_⟩
    simp -implicitDefEqProofs (maxSteps:=5000000) only [go_sem,simprocAttr,itr,itq]
   rcases b2 : decide (nd ≤ 80) with _ | _ <;> rw [b2] at c2
   ·simp -implicitDefEqProofs (maxSteps:=5000000) only [go_sem,simprocAttr,itr,itq,hq,wl,wd,c1,c2,zAb]
    subst hQ
    rw [hf,b1,b2]
    refine ⟨A1,?_⟩
    simp -implicitDefEqProofs (maxSteps:=5000000) only [go_sem,simprocAttr,itr,itq]
   rcases b3 : decide (P.length ≤ 80) with _ | _ <;> rw [b3] at c3
   ·simp -implicitDefEqProofs (maxSteps:=5000000) only [go_sem,simprocAttr,itr,itq,hq,wl,wd,wp,c1,c2,c3,zAb]
    subst hQ
    rw [hf,b1,b2,b3]
    refine ⟨A1,?_⟩
    simp -implicitDefEqProofs (maxSteps:=5000000) only [go_sem,simprocAttr,itr,itq]
   ·simp -implicitDefEqProofs (maxSteps:=5000000) only [go_sem,simprocAttr,itr,itq,hq,wl,wd,wp,c1,c2,c3,zAb]
    subst hQ
    rw [hf,b1,b2,b3]
    refine ⟨A1,?_⟩
    simp -implicitDefEqProofs (maxSteps:=5000000) only [go_sem,simprocAttr,itr,itq]
  ·simp -implicitDefEqProofs (maxSteps:=5000000) only [go_sem,simprocAttr,zAb]
   subst hQ
   have : zEp L nd P = false:=by unfold zEp zTu; rw [ho]; rfl
   rw [this]
   refine ⟨A1,?_⟩
   simp -implicitDefEqProofs (maxSteps:=5000000) only [go_sem,simprocAttr,f4]
 obtain ⟨e',t,K,hr,aK,hf⟩:=key
 rw [c6,hr,hf]; exact aK.trimS rfl
end
section
variable {H : zAc} {v w : AV} {l m : List Int} (g : IS H v l) (f : IS H w m) (hl : l.length ≤ 1000000)
include g f hl
set_option maxHeartbeats 4000000 in
theorem intsSL (he : l.length = m.length) (x2 x3 x6 x7 x8 x9 x10 : AV) : ∀ (k i : Nat) (j11 j12 j13 j14 j15 j16 j17 j18 j19 j20 j21 j22 j23 j24 j25 : AV),i + k = l.length →
  Outs (LP1 l51x0 [v,w,x2,x3,.bool false,.int .i64 (i : Int),x6,x7,x8,x9,x10,j11,j12,j13,j14,j15,j16,j17,j18,j19,j20,j21,j22,j23,j24,j25] H) fun e t K=>K = H ∧ ∃ fv : Nat → AV,t = [v,w,x2,x3,(fv 4),(fv 5),x6,x7,x8,x9,x10,(fv 11),(fv 12),(fv 13),(fv 14),(fv 15),(fv 16),(fv 17),(fv 18),(fv 19),(fv 20),(fv 21),(fv 22),(fv 23),(fv 24),(fv 25)] ∧ ((e = .exit 0 ∧ l.drop i = m.drop i) ∨ (e = .ret ∧ fv 4 = .bool false ∧ l.drop i ≠ m.drop i)):=by
 intro k
 obtain ⟨L0,hL0⟩ : ∃ L,L = LP1 l51x0:=⟨_,rfl⟩
 have lo:=zAp hL0
 have wl:=g.len
 rw [← hL0]
 induction k with
 | zero =>
  intro i j11 j12 j13 j14 j15 j16 j17 j18 j19 j20 j21 j22 j23 j24 j25 hi
  obtain rfl : i = l.length:=by omega
  have hd : decide ((l.length : Int) < (l.length : Int)) = false:=by simp
  rw [lo]
  unfold l51x0
  simp -implicitDefEqProofs (maxSteps:=5000000) only [go_sem,simprocAttr,wl,hd,zAg,zAb]
  exact exF2 rfl (.inl (by rw [List.drop_length,he,List.drop_length]))
 | succ k ih =>
  intro i j11 j12 j13 j14 j15 j16 j17 j18 j19 j20 j21 j22 j23 j24 j25 hi
  have hlt : i < l.length:=by omega
  have hlt2 : i < m.length:=by omega
  have hd : decide ((i : Int) < (l.length : Int)) = true:=decide_eq_true (by omega)
  have e2 : IntKind.i64.wrap ((i : Int) + 1) = ((i + 1 : Nat) : Int):=by rw [zAk (by omega) (by omega)]; omega
  have hx:=List.getElem?_eq_getElem hlt
  have hy:=List.getElem?_eq_getElem hlt2
  rw [List.drop_eq_getElem_cons hlt,List.drop_eq_getElem_cons hlt2]
  generalize l[i] = p at *
  generalize m[i] = q at *
  obtain ⟨ax,ix,hc⟩:=g.idx hx .i64
  obtain ⟨ay,ix2,hc2⟩:=f.idx hy .i64
  rw [lo]
  unfold l51x0
  by_cases h : p = q
  ·have ne : (p != q) = false:=by simp [h]
   simp -implicitDefEqProofs (maxSteps:=5000000) only [go_sem,simprocAttr,itr,itq,wl,hd,ix,hc,ix2,hc2,ne,e2]
   refine (ih (i + 1) _ _ _ _ _ _ _ _ _ _ _ _ _ _ _ (by omega)).mono ?_
   rintro e t K ⟨h1,fv,h2,h3⟩
   refine ⟨h1,fv,h2,?_⟩
   subst h
   rcases h3 with ⟨h3,h4⟩ | ⟨h3,h4,h5⟩
   ·exact .inl ⟨h3,by rw [h4]⟩
   ·exact .inr ⟨h3,h4,fun e=>h5 (List.cons.inj e).2⟩
  ·have ne : (p != q) = true:=by simp [h]
   simp -implicitDefEqProofs (maxSteps:=5000000) only [go_sem,simprocAttr,itr,itq,wl,hd,ix,hc,ix2,hc2,ne,zAj,zAb]
   exact exF2 rfl (.inr ⟨rfl,fun e=>h (List.cons.inj e).1⟩)
theorem intsS : (envL prog).call 51 [v,w] H = some (.bool (decide (l = m)),H):=by
 have wl:=g.len
 have wm:=f.len
 by_cases he : l.length = m.length
 ·have l0:=intsSL g f hl he (k:=l.length) (i:=0)
  rw [show ((0 : Nat) : Int) = 0 from rfl,List.drop_zero,List.drop_zero] at l0
  have nn : ((l.length : Int) != (m.length : Int)) = false:=by rw [he]; simp
  have key : Outs (runC (envL prog) (b51 (envL prog)) ([v,w] ++ List.replicate (26 - [v,w].length) .undef) H) fun e' t K=>K = H ∧ fin [.tmp 4] (some (e',t,K)) = some (.bool (decide (l = m)),K):=by
   unfold b51
   generalize hQ : (fun (e' : Ex) (t : T) (K : zAc)=>K = H ∧ fin [.tmp 4] (some (e',t,K)) = some (AV.bool (decide (l = m)),K)) = Q
   simp -implicitDefEqProofs (maxSteps:=5000000) only [go_sem,simprocAttr,itr,itq,zAi,wl,wm,nn]
   unfold LP1 at l0
   generalize (envL prog).loop (runC (envL prog) (l51x0 (envL prog))) = L0 at l0 ⊢
   refine zAq (fun r=>seqR (zAt 0 r) _) (l0 _ _ _ _ _ _ _ _ _ _ _ _ _ _ _ _ _ _ _ _ _ _ (by omega)) ?_
   rintro e t K ⟨rfl,fv,rfl,⟨rfl,ho⟩ | ⟨rfl,f4,ho⟩⟩
   ·simp -implicitDefEqProofs (maxSteps:=5000000) only [go_sem,simprocAttr,zAb]
    subst hQ
    rw [decide_eq_true ho]
    refine ⟨rfl,?_⟩
    simp -implicitDefEqProofs (maxSteps:=5000000) only [go_sem,simprocAttr]
   ·simp -implicitDefEqProofs (maxSteps:=5000000) only [go_sem,simprocAttr,zAb]
    subst hQ
    rw [decide_eq_false ho]
    refine ⟨rfl,?_⟩
    simp -implicitDefEqProofs (maxSteps:=5000000) only [go_sem,simprocAttr,f4]
  obtain ⟨e',t,K,hr,rfl,hf⟩:=key
  rw [c51,hr,hf]; exact zBo rfl
 ·have nn : ((l.length : Int) != (m.length : Int)) = true:=by simp; omega
  rw [decide_eq_false (fun e=>he (by rw [e]))]
  rw [c51]
  unfold b51
  simp -implicitDefEqProofs (maxSteps:=5000000) only [go_sem,simprocAttr,itr,itq,wl,wm,nn]
end
theorem zK2 {k n : Nat} {d : TyD} (hk : 1 ≤ k) (hd : d.size = k) (hb : 1 ≤ d.bytes) {K : zAc} {b : Nat} {y : AV} {cs : List AV} (hK : K[b]? = some (.rw [])) (s : Src k K y n cs) (room : n * d.bytes ≤ roomy) :
  ∃ v' K',app d (.sl b 0 k 0 0 true) y K = some (v',K') ∧ ((n = 0 ∧ v' = .sl b 0 k 0 0 true ∧ K' = K) ∨ (n ≠ 0 ∧ v' = .sl K.length 0 k n n false ∧ K' = K ++ [.rw cs])):=by
 unfold app
 rw [s.sl]
 simp only [Option.bind_some,hd,s.cells]
 unfold zB6
 simp only [hd]
 by_cases hn : n = 0
 ·subst hn
  exact ⟨.sl b 0 k 0 0 true,K,by rw [if_neg (by omega)]; simp,.inl ⟨rfl,rfl,rfl⟩⟩
 ·refine ⟨.sl K.length 0 k n n false,K ++ [.rw cs],?_,.inr ⟨hn,rfl,rfl⟩⟩
  have hrd : zB0 K b 0 (0 * k) = some []:=by unfold zB0; rw [zAl hK]; simp
  rw [if_neg (by omega),if_neg hn,if_neg (by omega),if_pos ⟨hb,by rw [Nat.zero_add]; exact room⟩,hrd]
  simp
theorem is_src {H : zAc} {v : AV} {zs : List Int} (g : IS H v zs) : Src 1 H v zs.length (i64s zs):=by
 refine ⟨g.len,?_,?_,by rw [zC9,Nat.mul_one],zL5 zs⟩
 ·rcases g with ⟨rfl,rfl⟩ | ⟨b,o,l,e,cs,rfl,_⟩ <;> rfl
 ·rcases g with ⟨rfl,rfl⟩ | ⟨b,o,l,e,cs,rfl,hc,hg,hl⟩
  ·rfl
  ·unfold zA4 zB0
   simp only [if_true,hc,Option.bind_some,Nat.mul_one,if_pos hl,Option.some.injEq]
   apply List.ext_getElem?
   intro i
   by_cases hi : i < zs.length
   ·rw [List.getElem?_take,if_pos hi,List.getElem?_drop,hg i _ (List.getElem?_eq_getElem hi),zKh (List.getElem?_eq_getElem hi)]
   ·rw [List.getElem?_take,if_neg hi,List.getElem?_eq_none (by rw [zC9]; omega)]
theorem is_app {K : zAc} {b : Nat} {y : AV} {zs : List Int} (hb : K[b]? = some (.rw [])) (g : IS K y zs) (hn : zs.length ≤ 1000000) :
  ∃ v' K',app (ty 1 false 8 [.int .i64 0]) (.sl b 0 1 0 0 true) y K = some (v',K') ∧ Adds K K' ∧ IS K' v' zs ∧ zFw v' ∧ (slb v' = some b ∨ slb v' = some K.length):=by
 have hr : (roomy : Nat) = 140737488355328:=rfl
 obtain ⟨v',K',e,h⟩:=zK2 (Nat.le_refl 1) rfl (show 1 ≤ (ty 1 false 8 [AV.int .i64 0]).bytes by decide) hb (is_src g) (by show zs.length * 8 ≤ _; omega)
 refine ⟨v',K',e,?_⟩
 rcases h with ⟨h0,rfl,rfl⟩ | ⟨h0,rfl,rfl⟩
 ·obtain rfl:=List.length_eq_zero_iff.1 h0
  refine ⟨Adds.refl _,.inr ⟨b,0,0,true,[],rfl,zAl hb,fun i z h=>by simp at h,by simp⟩,fun _ _ _ _ _ _ h=>by injection h; omega,.inl rfl⟩
 ·exact ⟨⟨_,rfl⟩,IS.block (by simp),fun _ _ _ _ _ _ h=>by injection h; omega,.inr rfl⟩
section
variable {H : zAc} {v : AV} {L : List SnS} (g : IsC H v L) (fi : Fits L)
include g fi
set_option maxHeartbeats 8000000 in
theorem copyBL (x1 x2 x34 : AV) : ∀ (k i : Nat) (K : zAc) (w : AV) (rows : List (List AV)) (j5 j6 j7 j8 j9 j10 j11 j12 j13 j14 j15 j16 j17 j18 j19 j20 j21 j22 j23 j24 j25 j26 j27 j28 j29 j30 j31 j32 j33 : AV),Adds H K → Gc K H.length w (L.take i) rows → (∀ r ∈ rows,∀ x ∈ r,∀ z,slb x = some z → H.length ≤ z) → i + k = L.length →
  Outs (LP1 l23x0 [v,x1,x2,w,.int .i64 (i : Int),j5,j6,j7,j8,j9,j10,j11,j12,j13,j14,j15,j16,j17,j18,j19,j20,j21,j22,j23,j24,j25,j26,j27,j28,j29,j30,j31,j32,j33,x34] K) fun e t K'=>e = .exit 0 ∧ Adds H K' ∧ ∃ fv : Nat → AV,t = [v,x1,x2,(fv 3),(fv 4),(fv 5),(fv 6),(fv 7),(fv 8),(fv 9),(fv 10),(fv 11),(fv 12),(fv 13),(fv 14),(fv 15),(fv 16),(fv 17),(fv 18),(fv 19),(fv 20),(fv 21),(fv 22),(fv 23),(fv 24),(fv 25),(fv 26),(fv 27),(fv 28),(fv 29),(fv 30),(fv 31),(fv 32),(fv 33),x34] ∧ ∃ rows,Gc K' H.length (fv 3) L rows ∧ (∀ r ∈ rows,∀ x ∈ r,∀ z,slb x = some z → H.length ≤ z):=by
 intro k
 obtain ⟨L0,hL0⟩ : ∃ L,L = LP1 l23x0:=⟨_,rfl⟩
 have lo:=zAp hL0
 have wl:=g.len
 have fl:=fi.1
 rw [← hL0]
 induction k with
 | zero =>
  intro i K w rows j5 j6 j7 j8 j9 j10 j11 j12 j13 j14 j15 j16 j17 j18 j19 j20 j21 j22 j23 j24 j25 j26 j27 j28 j29 j30 j31 j32 j33 aK gw ro hi
  obtain rfl : i = L.length:=by omega
  have hd : decide ((L.length : Int) < (L.length : Int)) = false:=by simp
  rw [List.take_length] at gw
  rw [lo]
  unfold l23x0
  simp -implicitDefEqProofs (maxSteps:=5000000) only [go_sem,simprocAttr,wl,hd,zAg,zAb]
  exact ⟨aK,exF2 rfl ⟨_,gw,ro⟩⟩
 | succ k ih =>
  intro i K w rows j5 j6 j7 j8 j9 j10 j11 j12 j13 j14 j15 j16 j17 j18 j19 j20 j21 j22 j23 j24 j25 j26 j27 j28 j29 j30 j31 j32 j33 aK gw ro hi
  have hlt : i < L.length:=by omega
  have hd : decide ((i : Int) < (L.length : Int)) = true:=decide_eq_true (by omega)
  have e2 : IntKind.i64.wrap ((i : Int) + 1) = ((i + 1 : Nat) : Int):=by rw [zAk (by omega) (by omega)]; omega
  have hx:=List.getElem?_eq_getElem hlt
  have tk : L.take (i + 1) = L.take i ++ [L[i]]:=by rw [List.take_add_one,hx]; rfl
  have ft:=zCl fi hx
  generalize L[i] = s at *
  obtain ⟨bb,cs,vc,vt,sb,ix,hc,h1,h2,h3,ht,hle,hbs,hip⟩:=g.idx hx
  obtain ⟨K1,hK1⟩ : ∃ K1,K1 = K ++ [ABlk.rw [],.rw []]:=⟨_,rfl⟩
  have A1 : Adds K K1:=⟨_,hK1⟩
  have l1 : K1.length = K.length + 2:=by rw [hK1]; simp
  have a01:=aK.trans A1
  obtain ⟨vc',K2,ea,A2,b2,s2⟩:=zUs (K:=K1) (b:=K.length) (by rw [hK1]; simp) (a01.bs hbs) (by have:=ft.lc; omega)
  have hr : (roomy : Nat) = 140737488355328:=rfl
  have q2 : K2[K.length + 1]? = some (ABlk.rw []):=A2.at (by rw [hK1]; simp)
  have a02:=a01.trans A2
  have g0 : Gp K2 (K.length + 1) (.sl (K.length + 1) 0 2 0 0 true) []:=.inr (.inl ⟨rfl,K.length + 1,Nat.le_refl _,rfl,q2⟩)
  obtain ⟨vt',K3,eb,g3,fr3,n3,_⟩:=zL9 g0 (by have:=A2.len; omega) (hip.adds a02).src.1 (hip.adds a02).src.2 (by have:=ft.lt; rw [List.length_nil]; omega)
  rw [List.nil_append] at g3
  have A3 : Adds K K3:=fr3.old (A1.trans A2) fun x hx h=>by (injection h with h; omega)
  have b3 : BS K3 vc' s.ch:=b2.fr fr3 fun b h h'=>by
   injection h' with h'
   rcases s2 with q | q <;> rw [q] at h <;> injection h with h <;> omega
  obtain ⟨K4,hK4⟩ : ∃ K4,K4 = K3 ++ [ABlk.rw [.int .i64 s.id,vc',vt']]:=⟨_,rfl⟩
  have A4 : Adds K3 K4:=⟨_,hK4⟩
  have A04:=A3.trans A4
  have c4 : cellsOf K4 K3.length = some [.int .i64 s.id,vc',vt']:=by rw [hK4]; unfold cellsOf; simp
  obtain ⟨w',K5,ec,g5,fr5,sb5,l5,c5,c5'⟩:=Gc.push tySn (by rw [tySb]; omega) (by rw [tySb]; omega) (gw.adds A04) c4 ⟨vc',vt',rfl,A4.bs b3,(g3.isP).adds A4⟩ (fun y hy b h h'=>by
   have hb:=(gw.g.out b h').2
   simp only [List.mem_cons,List.mem_nil_iff,or_false] at hy
   rcases hy with rfl | rfl | rfl
   ·cases h
   ·rcases s2 with q | q <;> rw [q] at h <;> injection h with h <;> omega
   ·have:=(g3.out b h).1; omega) (by rw [List.length_take]; omega) (by have:=aK.len; have:=A04.len; omega)
  rw [← tk] at g5
  have a5 : Adds H K5:=fr5.old (aK.trans A04) fun b hb h=>by have:=(gw.g.out b h).1; omega
  have k1:=b3.cell
  have k2:=g3.isP.cell
  have hK1:=hK1.symm
  have hK4:=hK4.symm
  have cK:=fun {b cs} (h : cellsOf H b = some cs)=>aK.cells h
  have hcK:=aK.cells hc
  have hcK1:=a01.cells hc
  have hcA2:=a02.cells hc
  have hcA3:=(aK.trans A3).cells hc
  have hcA4:=(aK.trans A04).cells hc
  have hcK2:=(aK.trans (⟨[ABlk.rw []],rfl⟩ : Adds K (K ++ [ABlk.rw []]))).cells hc
  have key:=ih (i + 1) K5 w' (rows ++ [[.int .i64 s.id,vc',vt']])
  rw [lo]
  unfold l23x0
  simp -implicitDefEqProofs (maxSteps:=5000000) only [go_sem,simprocAttr,itr,itq,wl,hd,ix,hcK,hcK1,hcK2,hcA2,hcA3,hcA4,h1,h2,h3,hK1,ea,eb,k1.1,k1.2,k2.1,k2.2,hK4,ec,e2]
  have ro2 : ∀ r ∈ rows ++ [[AV.int .i64 s.id,vc',vt']],∀ x ∈ r,∀ z,slb x = some z → H.length ≤ z:=fun r hr x hx z hz=>by
   have la:=aK.len
   rcases List.mem_append.1 hr with hr | hr
   ·exact ro r hr x hx z hz
   ·rw [List.mem_singleton.1 hr] at hx
    simp only [List.mem_cons,List.not_mem_nil,or_false] at hx
    rcases hx with rfl | rfl | rfl
    ·cases hz
    ·rcases s2 with q | q <;> rw [q] at hz <;> injection hz with hz <;> omega
    ·have:=(g3.out z hz).1; omega
  exact key _ _ _ _ _ _ _ _ _ _ _ _ _ _ _ _ _ _ _ _ _ _ _ _ _ _ _ _ _ a5 g5 ro2 (by omega)
theorem copyB : ∃ v' K,(envL prog).call 23 [v] H = some (v',K) ∧ Adds H K ∧ ∃ rows,Gc K H.length v' L rows ∧ (∀ r ∈ rows,∀ x ∈ r,∀ z,slb x = some z → H.length ≤ z):=by
 have l0:=copyBL g fi (k:=L.length) (i:=0) (K:=H) (w:=.nilSl) (rows:=[])
 rw [show ((0 : Nat) : Int) = 0 from rfl,List.take_zero] at l0
 have key : Outs (runC (envL prog) (b23 (envL prog)) ([v] ++ List.replicate (35 - [v].length) .undef) H) fun e' t K=>∃ v',Adds H K ∧ (∃ rows,Gc K H.length v' L rows ∧ (∀ r ∈ rows,∀ x ∈ r,∀ z,slb x = some z → H.length ≤ z)) ∧ fin [.tmp 2] (some (e',t,K)) = some (v',K):=by
  unfold b23
  generalize hQ : (fun (e' : Ex) (t : T) (K : zAc)=>∃ v',Adds H K ∧ (∃ rows,Gc K H.length v' L rows ∧ (∀ r ∈ rows,∀ x ∈ r,∀ z,slb x = some z → H.length ≤ z)) ∧ fin [.tmp 2] (some (e',t,K)) = some (v',K)) = Q
  simp -implicitDefEqProofs (maxSteps:=5000000) only [go_sem,simprocAttr,itr,itq,zAi]
  unfold LP1 at l0
  generalize (envL prog).loop (runC (envL prog) (l23x0 (envL prog))) = L0 at l0 ⊢
  refine zAq (fun r=>seqR (zAt 0 r) _) (l0 _ _ _ _ _ _ _ _ _ _ _ _ _ _ _ _ _ _ _ _ _ _ _ _ _ _ _ _ _ _ _ _ (Adds.refl H) (Gc.nil H _) (fun r hr=>by cases hr) (by omega)) ?_
  rintro e t K ⟨rfl,aK,fv,rfl,rows,gk,ro⟩
  simp -implicitDefEqProofs (maxSteps:=5000000) only [go_sem,simprocAttr,zAb]
  subst hQ
  refine ⟨fv 3,aK,⟨rows,gk,ro⟩,?_⟩
  simp -implicitDefEqProofs (maxSteps:=5000000) only [go_sem,simprocAttr]
 obtain ⟨e',t,K,hr,v',aK,⟨rows,gk,ro⟩,hf⟩:=key
 have tr : ∃ K',trim H (some (v',K)) = some (v',K') ∧ Adds H K' ∧ ∃ rows,Gc K' H.length v' L rows ∧ (∀ r ∈ rows,∀ x ∈ r,∀ z,slb x = some z → H.length ≤ z):=by
  rcases zD7 (v:=v') aK with e | ⟨u,e⟩
  ·exact ⟨K,e,aK,rows,gk,ro⟩
  ·refine ⟨H,e,Adds.refl H,?_⟩
   rcases gk.g with ⟨rfl,rfl⟩ | ⟨_,b,hb,rfl,_⟩
   ·have : L = []:=List.length_eq_zero_iff.1 gk.ch.len.symm
    subst this; exact ⟨[],Gc.nil H _,fun r hr=>by cases hr⟩
   ·simp [AV.under] at u; omega
 obtain ⟨K',e,a,r⟩:=tr
 exact ⟨v',K',by rw [c23,hr,hf]; exact e,a,r⟩
end
section
variable {H : zAc} {vd vs vp : AV} {S : StS} (g : StA H vd vs vp S) (fi : FitS S) (lD : S.dirty.length ≤ 1000000)
include g fi lD
set_option maxHeartbeats 16000000 in
theorem zQc : ∃ wd ws wp K,(envL prog).call 8 [.agg [vd,vs,.int .i64 S.next,.int .i64 S.kind,.int .i64 S.pid,vp]] H = some (.agg [wd,ws,.int .i64 S.next,.int .i64 S.kind,.int .i64 S.pid,wp],K) ∧ Adds H K ∧ StA K wd ws wp S ∧ (∀ x ∈ [wd,ws,wp],∀ b,slb x = some b → H.length ≤ b) ∧ (∃ rows,Gc K H.length ws S.snaps rows ∧ ∀ r ∈ rows,∀ x ∈ r,∀ z,slb x = some z → H.length ≤ z):=by
 have cd:=IS.cell g.d
 have cc:=g.s.cell
 have cp:=g.p.cell
 obtain ⟨H1,hH1⟩ : ∃ H1,H1 = H ++ [ABlk.rw [vd,vs,.int .i64 S.next,.int .i64 S.kind,.int .i64 S.pid,vp],.rw [.nilSl,.nilSl,.int .i64 0,.int .i64 0,.int .i64 0,.nilSl],.rw [],.rw []]:=⟨_,rfl⟩
 have A1 : Adds H H1:=⟨_,hH1⟩
 have l1 : H1.length = H.length + 4:=by rw [hH1]; simp
 have c1 : cellsOf H1 H.length = some [vd,vs,.int .i64 S.next,.int .i64 S.kind,.int .i64 S.pid,vp]:=by rw [hH1]; unfold cellsOf; simp
 have b1 : H1[H.length + 1]? = some (.rw [.nilSl,.nilSl,.int .i64 0,.int .i64 0,.int .i64 0,.nilSl]):=by rw [hH1]; simp
 obtain ⟨wd,K2,e2,A2,g2,ok2,s2⟩:=is_app (K:=H1) (b:=H.length + 2) (by rw [hH1]; simp) (A1.is g.d) lD
 obtain ⟨ws,K3,e3,A3,rows,g3,ro⟩:=copyB ((g.s.adds A1).adds A2) fi.s
 have l2:=A2.len
 have l3:=A3.len
 have o3:=g3.g.out
 have q3 : K3[H.length + 3]? = some (.rw []):=(A2.trans A3).at (by rw [hH1]; simp)
 have g0 : Gp K3 (H.length + 3) (.sl (H.length + 3) 0 2 0 0 true) []:=.inr (.inl ⟨rfl,H.length + 3,Nat.le_refl _,rfl,q3⟩)
 have hr : (roomy : Nat) = 140737488355328:=rfl
 have ps:=((g.p.adds A1).adds A2).adds A3
 obtain ⟨wp,K4,e4,g4,fr4,n4,n5⟩:=zL9 g0 (by omega) ps.src.1 ps.src.2 (by have:=fi.p; rw [List.length_nil]; omega)
 rw [List.nil_append] at g4
 have l4:=fr4.1
 have o4:=g4.out
 have A4 : Adds H K4:=fr4.old ((A1.trans A2).trans A3) fun x hx h=>by (injection h with h; omega)
 have b4 : K4[H.length + 1]? = some (.rw [.nilSl,.nilSl,.int .i64 0,.int .i64 0,.int .i64 0,.nilSl]):=fr4.at ((A2.trans A3).at b1) fun h=>by (injection h with h; omega)
 have kd:=IS.cell g2
 have ks:=g3.isC.cell
 have kp:=g4.isP.cell
 have sd : ∀ b,slb wd = some b → H.length ≤ b ∧ b ≠ H.length + 1 ∧ b ≠ H.length + 3:=fun b hb=>by
  rcases s2 with q | q <;> rw [q] at hb <;> injection hb with hb <;> omega
 have wr : zA3 K4 (H.length + 1) 0 [wd,ws,.int .i64 S.next,.int .i64 S.kind,.int .i64 S.pid,wp] = some (K4.set (H.length + 1) (.rw [wd,ws,.int .i64 S.next,.int .i64 S.kind,.int .i64 S.pid,wp])):=by
  rw [zA2 b4,if_pos ⟨by simp,by simp only [List.all_cons,kd.2,ks.2,kp.2]; rfl⟩]; rfl
 obtain ⟨K5,hK5⟩ : ∃ K5,K5 = K4.set (H.length + 1) (.rw [wd,ws,.int .i64 S.next,.int .i64 S.kind,.int .i64 S.pid,wp]):=⟨_,rfl⟩
 rw [← hK5] at wr
 have f5 : Fr K4 K5 (· = H.length + 1):=by rw [hK5]; exact Fr.set _ _ rfl
 have A5 : Adds H K5:=f5.old A4 fun b hb h=>by omega
 have c5 : cellsOf K5 (H.length + 1) = some [wd,ws,.int .i64 S.next,.int .i64 S.kind,.int .i64 S.pid,wp]:=by rw [hK5]; exact zAl (zBe _ _ _ (by omega))
 have f35 : Fr K3 K5 (fun b=>b = H.length + 3 ∨ b = H.length + 1):=(fr4.mono (G:=fun b=>b = H.length + 3 ∨ b = H.length + 1) fun b _ h=>.inl (by injection h with h; exact h.symm)).trans f5 fun b _ h=>.inr h
 have fo : ∀ b,H.length + 4 ≤ b → ¬ (b = H.length + 3 ∨ b = H.length + 1):=fun b hb h=>by omega
 have g5 : Gc K5 H.length ws S.snaps rows:=(g3.frT f35 (fun b hb h=>by have:=(o3 b hb).1; omega) fun r hr x hx b hb h=>by have:=ro r hr x hx b hb; omega).low (by omega)
 have s5 : StA K5 wd ws wp S:=⟨IS.frS g2 ((Fr.adds A3 (fun b=>b = H.length + 3 ∨ b = H.length + 1)).trans f35 fun _ _ h=>h) (fun b hb h=>by have:=sd b hb; omega),ok2,g5.isC,g4.isP.fr f5 fun b hb h=>by
  rcases List.eq_nil_or_concat S.pairs with q | q
  ·have:=(n5 q).1; rw [this] at hb; injection hb with hb; omega
  ·have:=n4 (fun e=>by obtain ⟨_,_,h⟩:=q; rw [e] at h; simp at h); rw [this] at hb; injection hb with hb; omega⟩
 have hH1:=hH1.symm
 have cx:=(A2.cells c1)
 have cy:=A3.cells cx
 have cz:=fr4.cells cy (fun h=>by injection h; omega)
 rw [c8]
 have wb : ∀ x ∈ [wd,ws,wp],∀ b,slb x = some b → H.length ≤ b:=fun x hx b hb=>by
  simp only [List.mem_cons,List.not_mem_nil,or_false] at hx
  rcases hx with rfl | rfl | rfl
  ·exact (sd b hb).1
  ·have:=(o3 b hb).1; omega
  ·have:=(o4 b hb).1; omega
 have u : wd.under H.length = false:=by
  rcases hw : wd.under H.length with _ | _
  ·rfl
  ·rcases s2 with q | q <;> (have:=zB4 hw q; omega)
 refine ⟨wd,ws,wp,K5,?_,A5,s5,wb,rows,g5,fun r hr x hx b hb=>by have:=ro r hr x hx b hb; omega⟩
 unfold b8
 have tk : ∀ vv,trim H (some (AV.agg (wd :: vv),K5)) = some (AV.agg (wd :: vv),K5):=fun vv=>zA6 (by simp [AV.under,zBc,u])
 simp -implicitDefEqProofs (maxSteps:=5000000) only [go_sem,simprocAttr,itr,itq,zAe,cd.1,cd.2,cc.1,cc.2,cp.1,cp.2,hH1,c1,e2,cx,e3,cy,e4,cz,wr,kd.1,kd.2,ks.1,ks.2,kp.1,kp.2,zAx,c5,tk]
end
end Go.Proofs.Ythgflkfhjnbheaa.G14
end
