/- What the functions that the law reaches answer, for every argument. No condition but those in each statement. -/
import Derived.Test.YthgflkfhjnbheaaGRA
import Derived.Test.YthgflkfhjnbheaaN
import Derived.Test.YthgflkfhjnbheaaE6
set_option linter.unusedSimpArgs false
set_option linter.unusedVariables false
set_option linter.unusedSectionVars false
set_option maxRecDepth 10000
section
namespace Go.Proofs.Ythgflkfhjnbheaa.G14.Pg
open Go Go.Proofs.Ythgflkfhjnbheaa.Eng
noncomputable abbrev PutL (s : LoopState) (t : T) : ABlk:=.loop ⟨s,.normal,t,[16],zNl,zNk⟩
structure PutY (H : zAc) (n : Int) (k : Nat) (s : LoopState) (t : T) (i : Nat) (K : zAc) : Prop where
 old : ∀ b,b < H.length → K[b]? = H[b]?
 len : H.length + 4 ≤ K.length
 out : ∃ l,K[H.length]? = some (.rw [l]) ∧ GB K (H.length + 4) l (putS i n)
 num : K[H.length + 1]? = some (.rw [.int .u64 (n / 256 ^ i)])
 siz : K[H.length + 2]? = some (.rw [.int .i64 (k : Int)])
 lp : K[H.length + 3]? = some (PutL s t)
theorem under_of {H : zAc} {B : Nat} {l : AV} {zs : List Int} (g : GB H B l zs) : l.under H.length = true:=by
 rcases g with ⟨rfl,rfl⟩ | ⟨_,b,_,rfl,h⟩
 ·rfl
 ·have:=zA8 h; simp [AV.under]; omega
set_option maxHeartbeats 4000000 in
theorem putRound {H : zAc} {n : Int} {k : Nat} {t : T} (ht : t.length = 22) (h5 : getT t 5 = .ptr H.length 0) {i : Nat} (hi : i ≤ 1000) {K : zAc} (y : PutY H n k .ready t i K) :
  ∃ K',PutY H n k .ready t (i + 1) (K'.set (H.length + 1) (.rw [.int .u64 (n / 256 ^ (i + 1))])) ∧ K'[H.length + 1]? = some (.rw [.int .u64 (n / 256 ^ i)]) ∧ (envL prog).yield (H.length + 3) [.int .u8 (n / 256 ^ i % 256)] K = some (.bool true,K'):=by
 obtain ⟨l,hl,g⟩:=y.out
 have kl:=y.len
 have g1 : GB (K.set (H.length + 3) (PutL .busy t)) (H.length + 4) l (putS i n):=g.fr (Fr.set (F:=(· = H.length + 3)) _ _ rfl) fun b hb=>by have:=g.out b hb; omega
 have l1 : (K.set (H.length + 3) (PutL .busy t)).length = K.length:=by simp
 have a0 : (K.set (H.length + 3) (PutL .busy t))[H.length]? = some (.rw [l]):=by rw [zAn _ _ _ _ (by omega)]; exact hl
 have a1 : (K.set (H.length + 3) (PutL .busy t))[H.length + 1]? = some (.rw [.int .u64 (n / 256 ^ i)]):=by rw [zAn _ _ _ _ (by omega)]; exact y.num
 have a2 : (K.set (H.length + 3) (PutL .busy t))[H.length + 2]? = some (.rw [.int .i64 (k : Int)]):=by rw [zAn _ _ _ _ (by omega)]; exact y.siz
 have a3 : (K.set (H.length + 3) (PutL .busy t))[H.length + 3]? = some (PutL .busy t):=zBe _ _ _ (by omega)
 have ao : ∀ b,b < H.length → (K.set (H.length + 3) (PutL .busy t))[b]? = H[b]?:=fun b hb=>by rw [zAn _ _ _ _ (by omega)]; exact y.old b hb
 have st:=fun {ex : Ex} {t2 : T} {K2 : zAc} (hb : runC (envL prog) (zPj (envL prog)) ((t.set 16 (.int .u8 (n / 256 ^ i % 256))).set 6 (.int .u8 (n / 256 ^ i % 256))) (K.set (H.length + 3) (PutL .busy t)) = some (ex,t2,K2)) (h2 : K2[H.length + 3]? = some (PutL .busy t)) =>
  zPo (P:=prog) (l:=H.length + 3) (args:=[.int .u8 (n / 256 ^ i % 256)]) (K:=K) (eaq25x0 _) (ebq25x0 _) y.lp rfl (t1:=(t.set 16 (.int .u8 (n / 256 ^ i % 256))).set 6 (.int .u8 (n / 256 ^ i % 256))) (by
   unfold aq25x0
   simp -implicitDefEqProofs (maxSteps:=5000000) only [go_sem,simprocAttr,zBm,zBg,ht,List.length_set,Nat.reduceLT]) hb h2
 generalize hK1 : K.set (H.length + 3) (PutL .busy t) = K1 at *
 obtain ⟨P,hP⟩ : ∃ P,P = K1.take (H.length + 4):=⟨_,rfl⟩
 have Pl : P.length = H.length + 4:=by rw [hP,List.length_take]; omega
 have gz : GB (K1 ++ [.rw [.int .u8 (n / 256 ^ i % 256)]]) P.length l (putS i n):=by rw [Pl]; exact g1.fr (Fr.adds ⟨_,rfl⟩ (fun _=>False)) fun _ _ h=>h
 obtain ⟨l',K2,ad,g2,fr,hu,ha⟩:=GB.more (d:=ty 1 false 1 [.int .u8 0]) rfl rfl (P:=P) (H:=K1 ++ [.rw [.int .u8 (n / 256 ^ i % 256)]]) ⟨K1.drop (H.length + 4) ++ [.rw [.int .u8 (n / 256 ^ i % 256)]],by rw [← List.append_assoc,hP,List.take_append_drop]⟩ gz (ys:=[n / 256 ^ i % 256]) (y:=.sl K1.length 0 1 1 1 true) (Src.block (by unfold cellsOf; simp [u8s]) rfl rfl) (by rw [zA5]; simp; omega)
 rw [← zIa,Pl] at g2
 have hu:=hu (by simp)
 have cl:=g2.cells
 have hk2 : ∀ b,b < H.length + 4 → K2[b]? = K1[b]?:=fun b hb=>by
  obtain ⟨G,rfl⟩:=ad
  rw [List.getElem?_append_left (by omega),hP,List.getElem?_take,if_pos hb]
 have l2 : K1.length < K2.length:=by
  have:=fr.1
  rw [List.length_append,List.length_singleton] at this
  omega
 have b0:=(hk2 H.length (by omega)).trans a0
 have wr : zA3 K2 H.length 0 [l'] = some (K2.set H.length (.rw [l'])):=by
  rw [zA2 b0,if_pos ⟨by simp,by simp [cl.2]⟩,zBw]; rfl
 have c0:=zAl a0
 have ob : Outs (runC (envL prog) (zPj (envL prog)) ((t.set 16 (.int .u8 (n / 256 ^ i % 256))).set 6 (.int .u8 (n / 256 ^ i % 256))) K1) fun e _ K'=>e = .normal ∧ K' = K2.set H.length (.rw [l']):=by
  unfold zPj
  simp -implicitDefEqProofs (maxSteps:=5000000) only [go_sem,simprocAttr,zBg,ht,h5,List.length_set,Nat.reduceLT,c0,ha,zAx,cl.1,wr,zAb]
 obtain ⟨e,t2,K',er,rfl,rfl⟩:=ob
 have e1:=st er (by rw [zAn _ _ _ _ (by omega),hk2 _ (by omega)]; exact a3)
 simp only [Ex.isNormal,if_true] at e1
 have k0 : ((K2.set H.length (.rw [l'])).set (H.length + 3) (PutL .ready t))[H.length]? = some (.rw [l']):=by rw [zAn _ _ _ _ (by omega),zBe _ _ _ (by omega)]
 refine ⟨(K2.set H.length (.rw [l'])).set (H.length + 3) (PutL .ready t),⟨fun b hb=>?_,by simp; omega,⟨l',?_,?_⟩,?_,?_,?_⟩,?_,e1.trans ?_⟩
 ·rw [zAn _ _ _ _ (by omega),zAn _ _ _ _ (by omega),zAn _ _ _ _ (by omega),hk2 _ (by omega)]; exact ao b hb
 ·rw [zAn _ _ _ _ (by omega)]; exact k0
 ·refine GB.fr (F:=fun b=>b < H.length + 4) ⟨by simp,fun b hb hn=>?_⟩ g2 fun b hb=>by have:=g2.out b hb; omega
  rw [zAn _ _ _ _ (by omega),zAn _ _ _ _ (by omega),zAn _ _ _ _ (by omega)]
 ·exact zBe _ _ _ (by simp; omega)
 ·rw [zAn _ _ _ _ (by omega),zAn _ _ _ _ (by omega),zAn _ _ _ _ (by omega),hk2 _ (by omega)]; exact a2
 ·rw [zAn _ _ _ _ (by omega)]; exact zBe _ _ _ (by simp; omega)
 ·rw [zAn _ _ _ _ (by omega),zAn _ _ _ _ (by omega),hk2 _ (by omega)]; exact a1
 ·refine zI9 H.length (.rw [l]) (.rw [l']) l' hl k0 (by simp [ABlk.vals]) ?_ ?_
  ·cases h : l'.under K.length with
   | false=>rfl
   | true =>
    rw [zGt (by rw [List.length_append]; omega) h] at hu
    cases hu
  ·intro c hc
   simp only [ABlk.vals,List.mem_cons,List.not_mem_nil,or_false] at hc
   subst hc
   exact under_of g
set_option maxHeartbeats 4000000 in
theorem putC (n : Int) {k : Nat} (k1 : 1 ≤ k) (k2 : k ≤ 16) (H : zAc) : ∃ l K,Adds H K ∧ GB K H.length l (putS k n) ∧ (envL prog).call 25 [.int .u64 n,.int .i64 (k : Int)] H = some (l,K):=by
 have it : ∀ t : T,(t.length = 22 ∧ getT t 5 = .ptr H.length 0) → ∃ K,(envL prog).call 89 [.yld (H.length + 3),.ptr (H.length + 2) 0,.ptr (H.length + 1) 0] (H ++ [.rw [.nilSl],.rw [.int .u64 n],.rw [.int .i64 (k : Int)],PutL .ready t]) = some (.tup [],K) ∧ PutY H n k .ready t k K:=by
  rintro t ⟨ht,h5⟩
  have hY : ByteY (H.length + 3) (H.length + 1) n k (PutY H n k .ready t):=fun i K y hi=>by
   obtain ⟨K',y',yn,e⟩:=putRound ht h5 (by omega) y
   exact ⟨y.num,K',yn,y',e⟩
  have y0 : PutY H n k .ready t 0 (H ++ [.rw [.nilSl],.rw [.int .u64 n],.rw [.int .i64 (k : Int)],PutL .ready t]):=by
   refine ⟨fun b hb=>List.getElem?_append_left hb,by simp,⟨.nilSl,by simp,.inl ⟨rfl,rfl⟩⟩,?_,by simp,by simp⟩
   rw [Int.pow_zero,Int.ediv_one]; simp
  obtain ⟨K',yk,e⟩:=bytesC hY (by omega) (q:=H.length + 2) y0 (by unfold cellsOf; simp)
  refine ⟨K',e.trans ?_,yk⟩
  obtain ⟨l,hl,g⟩:=yk.out
  refine zI9 H.length (.rw [.nilSl]) (.rw [l]) l (by simp) hl (by simp [ABlk.vals]) ?_ ?_
  ·rw [show (H ++ [.rw [.nilSl],.rw [.int .u64 n],.rw [.int .i64 (k : Int)],PutL .ready t]).length = H.length + 4 by simp]
   exact g.under fun e=>by have:=zA5 k n; rw [e] at this; simp at this; omega
  ·intro c hc
   simp only [ABlk.vals,List.mem_cons,List.not_mem_nil,or_false] at hc
   subst hc; rfl
 obtain ⟨KK,hKK⟩:=skolem_c it
 have e1:=fun t h1 h2=>(hKK t ⟨h1,h2⟩).1
 have e2:=fun t h1 h2=>(hKK t ⟨h1,h2⟩).2.lp
 obtain ⟨LL,hLL⟩:=skolem_v fun t ht=>(hKK t ht).2.out
 have e3 : ∀ t,t.length = 22 → getT t 5 = .ptr H.length 0 → cellsOf ((KK t).set (H.length + 3) (PutL .exhausted t)) H.length = some [LL t]:=fun t h1 h2=>by
  rw [zHh _ _ _ _ (by omega)]; exact zAl (hLL t ⟨h1,h2⟩).1
 have l0:=fun B=>bytes0 n (k : Int) (H ++ B)
 have d1 : decide ((k : Int) < 1) = false:=decide_eq_false (by omega)
 have d2 : decide ((k : Int) > 16) = false:=decide_eq_false (by omega)
 have o : Outs (runC (envL prog) (b25 (envL prog)) ([.int .u64 n,.int .i64 (k : Int)] ++ List.replicate (22 - [AV.int .u64 n,.int .i64 (k : Int)].length) .undef) H) fun e' t K=>(∃ t' : T,(t'.length = 22 ∧ getT t' 5 = .ptr H.length 0) ∧ K = (KK t').set (H.length + 3) (PutL .exhausted t') ∧ fin [.tmp 4] (some (e',t,K)) = some (LL t',K)):=by
  unfold b25
  generalize hQ : (fun (e' : Ex) (t : T) (K : zAc)=>∃ t' : T,(t'.length = 22 ∧ getT t' 5 = .ptr H.length 0) ∧ K = (KK t').set (H.length + 3) (PutL .exhausted t') ∧ fin [.tmp 4] (some (e',t,K)) = some (LL t',K)) = Q
  simp -implicitDefEqProofs (maxSteps:=5000000) only [go_sem,simprocAttr,d1,d2,l0,zC4,zPf,e1,zCv,e2,e3,zAb]
  subst hQ
  refine ⟨_,⟨rfl,rfl⟩,rfl,?_⟩
  simp -implicitDefEqProofs (maxSteps:=5000000) only [go_sem,simprocAttr]
 obtain ⟨e',t,K,hr,⟨t',ht,rfl,hf⟩⟩:=o
 obtain ⟨_,y⟩:=hKK t' ht
 obtain ⟨_,g⟩:=hLL t' ht
 have yl:=y.len
 have g2 : GB ((KK t').set (H.length + 3) (PutL .exhausted t')) H.length (LL t') (putS k n):=by
  have:=GB.fr (Fr.set (F:=(· = H.length + 3)) (KK t') (PutL .exhausted t') rfl) g fun b hb=>by have:=g.out b hb; omega
  rcases this with h | ⟨h0,b,hb,h⟩
  ·exact .inl h
  ·exact .inr ⟨h0,b,by omega,h⟩
 refine ⟨LL t',_,⟨((KK t').set (H.length + 3) (PutL .exhausted t')).drop H.length,?_⟩,g2,?_⟩
 ·conv=>lhs; rw [← List.take_append_drop H.length ((KK t').set (H.length + 3) (PutL .exhausted t'))]
  congr 1
  apply List.ext_getElem?
  intro i
  rw [List.getElem?_take]
  split
  ·rw [zAn _ _ _ _ (by omega)]; exact y.old i (by omega)
  ·rw [List.getElem?_eq_none (by omega)]
 ·rw [c25,hr,hf]
  exact zA6 (g2.under fun e=>by have:=zA5 k n; rw [e] at this; simp at this; omega)
end Go.Proofs.Ythgflkfhjnbheaa.G14.Pg
end
section
namespace Go.Proofs.Ythgflkfhjnbheaa.G14.Pg
open Go Go.Proofs.Ythgflkfhjnbheaa.Eng
theorem shlU (z : Int) (i : Nat) : binV .shl .none (.int .u64 z) (.int .i64 ((8 * i : Nat) : Int)) = some (.int .u64 (IntKind.u64.wrap (z * 2 ^ min (8 * i) 64))):=by
 show (if ((8 * i : Nat) : Int) < 0 then none else some (AV.int .u64 (IntKind.u64.wrap (z * 2 ^ min (((8 * i : Nat) : Int)).toNat 64)))) = _
 rw [if_neg (by omega),Int.toNat_natCast]
theorem orU (x y : Int) : binV .or .none (.int .u64 x) (.int .u64 y) = some (.int .u64 (IntKind.u64.wrap ((BitVec.ofInt 64 x ||| BitVec.ofInt 64 y).toNat : Int))):=rfl
section
variable {H : zAc} {w : AV} {zs : List Int} (b : BS H w zs) (hu : IsU8 zs)
include b hu
set_option maxHeartbeats 2000000 in
theorem getL (hl : zs.length ≤ 8) (x0 x1 x2 x6 x7 x8 x9 x25 : AV) : ∀ (m i : Nat) (j4 j5 j13 j14 j15 j16 j17 j18 j19 j20 j21 j22 j23 j24 : AV),i + m = zs.length →
  Outs (LP1 l67x0 [x0,x1,x2,.int .u64 (getS (zs.take i)),j4,j5,x6,x7,x8,x9,w,.int .i64 (zs.length : Int),.int .i64 (i : Int),j13,j14,j15,j16,j17,j18,j19,j20,j21,j22,j23,j24,x25] H) fun e t K'=>e = .exit 0 ∧ K' = H ∧ ∃ k : Nat → AV,t = [x0,x1,x2,.int .u64 (getS zs),(k 4),(k 5),x6,x7,x8,x9,w,.int .i64 (zs.length : Int),(k 12),(k 13),(k 14),(k 15),(k 16),(k 17),(k 18),(k 19),(k 20),(k 21),(k 22),(k 23),(k 24),x25]:=by
 intro m
 obtain ⟨L,hL⟩ : ∃ L,L = LP1 l67x0:=⟨_,rfl⟩
 have lo:=zAp hL
 rw [← hL]
 induction m with
 | zero =>
  intro i j4 j5 j13 j14 j15 j16 j17 j18 j19 j20 j21 j22 j23 j24 hi
  obtain rfl : i = zs.length:=by omega
  have hd : decide ((zs.length : Int) < (zs.length : Int)) = false:=by simp
  rw [lo,List.take_length]
  unfold l67x0
  simp -implicitDefEqProofs (maxSteps:=5000000) only [go_sem,simprocAttr,hd,zAg,zAb]
  exact exF rfl
 | succ m ih =>
  intro i j4 j5 j13 j14 j15 j16 j17 j18 j19 j20 j21 j22 j23 j24 hi
  have hlt : i < zs.length:=by omega
  have hd : decide ((i : Int) < (zs.length : Int)) = true:=decide_eq_true (by omega)
  have e2 : IntKind.i64.wrap ((i : Int) + 1) = ((i + 1 : Nat) : Int):=by rw [zAk (by omega) (by omega)]; omega
  have e8 : IntKind.i64.wrap (8 * (i : Int)) = ((8 * i : Nat) : Int):=by rw [zAk (by omega) (by omega)]; omega
  have hz:=List.getElem?_eq_getElem hlt
  have uz:=hu _ (List.getElem_mem hlt)
  generalize zs[i] = z at *
  obtain ⟨a,ia,la⟩:=b.idx hz .i64
  have wz : IntKind.u64.wrap z = z:=zBv (by omega) (by omega)
  have ut : IsU8 (zs.take i):=fun y hy=>hu y (List.mem_of_mem_take hy)
  have gt:=zEy ut
  have tl : (zs.take i).length = i:=by rw [List.length_take]; omega
  rw [tl] at gt
  have ob:=zSp gt.1 gt.2 uz.1 uz.2 (show i < 8 by omega)
  have es : getS (zs.take (i + 1)) = getS (zs.take i) + z * 256 ^ i:=by
   rw [List.take_add_one,hz]
   show getS (zs.take i ++ [z]) = _
   rw [zIj,tl]
  rw [← es] at ob
  rw [lo]
  unfold l67x0
  simp -implicitDefEqProofs (maxSteps:=5000000) only [go_sem,simprocAttr,hd,ia,la,wz,e8,shlU,orU,ob,e2]
  exact ih (i + 1) _ _ _ _ _ _ _ _ _ _ _ _ _ _ (by omega)
set_option maxHeartbeats 2000000 in
theorem getC (hl : zs.length ≤ 8) (ok : zFw w) : (envL prog).call 67 [w] H = some (.int .u64 (getS zs),H):=by
 have hn:=b.len
 have mn : (if (8 : Int) < (zs.length : Int) then (8 : Int) else (zs.length : Int)) = (zs.length : Int):=if_neg (by omega)
 have ss : zB3 1 w none (some (.int .i64 (zs.length : Int))) none = some w:=by
  rcases b with ⟨rfl,rfl⟩ | ⟨bb,o,l,e,cs,rfl,hc,hg,hle⟩
  ·rfl
  ·have hlen : zs.length ≤ l:=ok _ _ _ _ _ _ rfl
   simp [zB3,asI,hlen]
 have l0:=getL b hu hl (m:=zs.length) (i:=0)
 rw [show ((0 : Nat) : Int) = 0 from rfl,List.take_zero,show getS [] = 0 from rfl] at l0
 have o : Outs (runC (envL prog) (b67 (envL prog)) ([w] ++ List.replicate (26 - [w].length) .undef) H) fun e' t K'=>fin [.tmp 2] (some (e',t,K')) = some (.int .u64 (getS zs),K') ∧ K' = H:=by
  unfold b67
  generalize hQ : (fun (e' : Ex) (t : T) (K' : zAc)=>fin [.tmp 2] (some (e',t,K')) = some (AV.int .u64 (getS zs),K') ∧ K' = H) = Q
  simp -implicitDefEqProofs (maxSteps:=5000000) only [go_sem,simprocAttr,zAi,hn,mn,ss]
  unfold LP1 at l0
  generalize (envL prog).loop (runC (envL prog) (l67x0 (envL prog))) = L0 at l0 ⊢
  refine zAq (fun r=>seqR (zAt 0 r) _) (l0 _ _ _ _ _ _ _ _ _ _ _ _ _ _ _ _ _ _ _ _ _ _ (by omega)) ?_
  rintro e t H' ⟨rfl,rfl,k,rfl⟩
  simp -implicitDefEqProofs (maxSteps:=5000000) only [go_sem,simprocAttr,zAb]
  subst hQ
  refine ⟨?_,rfl⟩
  simp -implicitDefEqProofs (maxSteps:=5000000) only [go_sem,simprocAttr]
 obtain ⟨e',t,H',hr,hf,rfl⟩:=o
 rw [c67,hr,hf]
 exact zBo rfl
end
end Go.Proofs.Ythgflkfhjnbheaa.G14.Pg
end
section
namespace Go.Proofs.Ythgflkfhjnbheaa.G14.Pg
open Go Go.Proofs.Ythgflkfhjnbheaa.Eng
theorem shrU (n : Int) {i : Nat} (hi : i ≤ 8) : binV .shr .none (.int .u64 n) (.int .u64 ((8 * i : Nat) : Int)) = some (.int .u64 (n / 256 ^ i)):=by
 show (if ((8 * i : Nat) : Int) < 0 then none else some (AV.int .u64 (n.fdiv (2 ^ min (((8 * i : Nat) : Int)).toNat 64)))) = _
 rw [if_neg (by omega),Int.toNat_natCast,show min (8 * i) 64 = 8 * i by omega,zLv,Int.fdiv_eq_ediv_of_nonneg _ (Int.pow_nonneg (by omega))]
def putP (k : Nat) (n : Int) (i : Nat) : List Int:=putS i n ++ List.replicate (k - i) 0
theorem putP_len {k : Nat} (n : Int) {i : Nat} (h : i ≤ k) : (putP k n i).length = k:=by simp [putP,zA5]; omega
theorem zSh {k : Nat} (n : Int) {i : Nat} (h : i < k) : (putP k n i).set i (n / 256 ^ i % 256) = putP k n (i + 1):=by
 unfold putP
 rw [List.set_append_right _ _ (by rw [zA5]; omega),zA5,Nat.sub_self,zIa,show k - i = (k - (i + 1)) + 1 by omega,List.replicate_succ,List.set_cons_zero,List.append_assoc]
 rfl
theorem putP_all (k : Nat) (n : Int) : putP k n k = putS k n:=by simp [putP]
set_option maxHeartbeats 2000000 in
theorem rputL {n : Int} {k : Nat} (hk : k ≤ 8) (H : zAc) (x2 x3 x4 x7 x8 x9 x10 x11 x12 x13 x14 x33 : AV) : ∀ (m i : Nat) (j15 j16 j17 j18 j19 j20 j21 j22 j23 j24 j25 j26 j27 j28 j29 j30 j31 j32 : AV),i + m = k →
  Outs (LP1 l28x0 [.int .u64 n,.int .i64 (k : Int),x2,x3,x4,.sl H.length 0 1 k k true,.int .i64 (i : Int),x7,x8,x9,x10,x11,x12,x13,x14,j15,j16,j17,j18,j19,j20,j21,j22,j23,j24,j25,j26,j27,j28,j29,j30,j31,j32,x33] (H ++ [.rw (u8s (putP k n i))])) fun e t K'=>e = .exit 0 ∧ K' = H ++ [.rw (u8s (putS k n))] ∧ ∃ fv : Nat → AV,t = [.int .u64 n,.int .i64 (k : Int),x2,x3,x4,.sl H.length 0 1 k k true,(fv 6),x7,x8,x9,x10,x11,x12,x13,x14,(fv 15),(fv 16),(fv 17),(fv 18),(fv 19),(fv 20),(fv 21),(fv 22),(fv 23),(fv 24),(fv 25),(fv 26),(fv 27),(fv 28),(fv 29),(fv 30),(fv 31),(fv 32),x33]:=by
 intro m
 obtain ⟨L,hL⟩ : ∃ L,L = LP1 l28x0:=⟨_,rfl⟩
 have lo:=zAp hL
 rw [← hL]
 induction m with
 | zero =>
  intro i j15 j16 j17 j18 j19 j20 j21 j22 j23 j24 j25 j26 j27 j28 j29 j30 j31 j32 hi
  obtain rfl : i = k:=by omega
  have hd : decide ((i : Int) < (i : Int)) = false:=by simp
  rw [lo,putP_all]
  unfold l28x0
  simp -implicitDefEqProofs (maxSteps:=5000000) only [go_sem,simprocAttr,hd,zAg,zAb]
  exact exF rfl
 | succ m ih =>
  intro i j15 j16 j17 j18 j19 j20 j21 j22 j23 j24 j25 j26 j27 j28 j29 j30 j31 j32 hi
  have hlt : i < k:=by omega
  have hd : decide ((i : Int) < (k : Int)) = true:=decide_eq_true (by omega)
  have hd8 : decide ((i : Int) < 8) = true:=decide_eq_true (by omega)
  have e2 : IntKind.i64.wrap ((i : Int) + 1) = ((i + 1 : Nat) : Int):=by rw [zAk (by omega) (by omega)]; omega
  have e8 : IntKind.i64.wrap (8 * (i : Int)) = ((8 * i : Nat) : Int):=by rw [zAk (by omega) (by omega)]; omega
  have w8 : IntKind.u64.wrap ((8 * i : Nat) : Int) = ((8 * i : Nat) : Int):=zBv (by omega) (by omega)
  have sh:=shrU n (i:=i) (by omega)
  have ix:=zEh H.length 1 k k i true .i64 (by omega) hlt
  rw [Nat.mul_one] at ix
  have wr : zA3 (H ++ [.rw (u8s (putP k n i))]) H.length i [.int .u8 (n / 256 ^ i % 256)] = some (H ++ [.rw (u8s (putP k n (i + 1)))]):=by
   rw [zC1,if_pos ⟨by rw [zCu,putP_len n (by omega)]; simp; omega,rfl⟩,zBw,zJv,zSh n hlt]
  rw [lo]
  unfold l28x0
  simp -implicitDefEqProofs (maxSteps:=5000000) only [go_sem,simprocAttr,hd,hd8,e8,w8,sh,zOb,ix,zAx,wr,e2]
  exact ih (i + 1) _ _ _ _ _ _ _ _ _ _ _ _ _ _ _ _ _ _ (by omega)
set_option maxHeartbeats 2000000 in
theorem rputC (n : Int) {k : Nat} (k1 : 1 ≤ k) (k2 : k ≤ 8) (H : zAc) : (envL prog).call 28 [.int .u64 n,.int .i64 (k : Int)] H = some (.sl H.length 0 1 k k true,H ++ [.rw (u8s (putS k n))]):=by
 have d1 : decide ((k : Int) < 1) = false:=decide_eq_false (by omega)
 have d2 : decide ((k : Int) > 16) = false:=decide_eq_false (by omega)
 have mk : zBy (ty 1 false 1 [.int .u8 0]) (.int .i64 (k : Int)) (.int .i64 (k : Int)) H = some (.sl H.length 0 1 k k true,H ++ [.rw (u8s (putP k n 0))]):=by
  rw [zIf 1 1 k false [.int .u8 0] (by omega) (by omega) (by unfold roomy; omega)]
  unfold putP u8s
  simp [putS,List.map_replicate]
 have l0:=rputL (n:=n) k2 H (m:=k) (i:=0)
 rw [show ((0 : Nat) : Int) = 0 from rfl] at l0
 have o : Outs (runC (envL prog) (b28 (envL prog)) ([.int .u64 n,.int .i64 (k : Int)] ++ List.replicate (34 - [AV.int .u64 n,.int .i64 (k : Int)].length) .undef) H) fun e' t K'=>fin [.tmp 4] (some (e',t,K')) = some (.sl H.length 0 1 k k true,K') ∧ K' = H ++ [.rw (u8s (putS k n))]:=by
  unfold b28
  generalize hQ : (fun (e' : Ex) (t : T) (K' : zAc)=>fin [.tmp 4] (some (e',t,K')) = some (AV.sl H.length 0 1 k k true,K') ∧ K' = H ++ [.rw (u8s (putS k n))]) = Q
  simp -implicitDefEqProofs (maxSteps:=5000000) only [go_sem,simprocAttr,zAi,d1,d2,mk]
  unfold LP1 at l0
  generalize (envL prog).loop (runC (envL prog) (l28x0 (envL prog))) = L0 at l0 ⊢
  refine zAq (fun r=>seqR (zAt 0 r) _) (l0 _ _ _ _ _ _ _ _ _ _ _ _ _ _ _ _ _ _ _ _ _ _ _ _ _ _ _ _ _ _ (by omega)) ?_
  rintro e t H' ⟨rfl,rfl,fv,rfl⟩
  simp -implicitDefEqProofs (maxSteps:=5000000) only [go_sem,simprocAttr,zAb]
  subst hQ
  refine ⟨?_,rfl⟩
  simp -implicitDefEqProofs (maxSteps:=5000000) only [go_sem,simprocAttr]
 obtain ⟨e',t,H',hr,hf,rfl⟩:=o
 rw [c28,hr,hf]
 exact zA6 (by simp [AV.under])
section
variable {H : zAc} {w : AV} {zs : List Int} (b : BS H w zs) (hu : IsU8 zs)
include b hu
set_option maxHeartbeats 2000000 in
theorem rgetL (hl : zs.length ≤ 8) (x1 x2 x26 : AV) : ∀ (m i : Nat) (j5 j6 j7 j8 j9 j10 j11 j12 j13 j14 j15 j16 j17 j18 j19 j20 j21 j22 j23 j24 j25 : AV),i + m = zs.length →
  Outs (LP1 l42x0 [w,x1,x2,.int .u64 (getS (zs.take i)),.int .i64 (i : Int),j5,j6,j7,j8,j9,j10,j11,j12,j13,j14,j15,j16,j17,j18,j19,j20,j21,j22,j23,j24,j25,x26] H) fun e t K'=>e = .exit 0 ∧ K' = H ∧ ∃ k : Nat → AV,t = [w,x1,x2,.int .u64 (getS zs),(k 4),(k 5),(k 6),(k 7),(k 8),(k 9),(k 10),(k 11),(k 12),(k 13),(k 14),(k 15),(k 16),(k 17),(k 18),(k 19),(k 20),(k 21),(k 22),(k 23),(k 24),(k 25),x26]:=by
 intro m
 obtain ⟨L,hL⟩ : ∃ L,L = LP1 l42x0:=⟨_,rfl⟩
 have lo:=zAp hL
 have hn:=b.len
 rw [← hL]
 induction m with
 | zero =>
  intro i j5 j6 j7 j8 j9 j10 j11 j12 j13 j14 j15 j16 j17 j18 j19 j20 j21 j22 j23 j24 j25 hi
  obtain rfl : i = zs.length:=by omega
  have hd : decide ((zs.length : Int) < (zs.length : Int)) = false:=by simp
  rw [lo,List.take_length]
  unfold l42x0
  simp -implicitDefEqProofs (maxSteps:=5000000) only [go_sem,simprocAttr,hn,hd,zAg,zAb]
  exact exF rfl
 | succ m ih =>
  intro i j5 j6 j7 j8 j9 j10 j11 j12 j13 j14 j15 j16 j17 j18 j19 j20 j21 j22 j23 j24 j25 hi
  have hlt : i < zs.length:=by omega
  have hd : decide ((i : Int) < (zs.length : Int)) = true:=decide_eq_true (by omega)
  have hd8 : decide ((i : Int) < 8) = true:=decide_eq_true (by omega)
  have e2 : IntKind.i64.wrap ((i : Int) + 1) = ((i + 1 : Nat) : Int):=by rw [zAk (by omega) (by omega)]; omega
  have e8 : IntKind.i64.wrap (8 * (i : Int)) = ((8 * i : Nat) : Int):=by rw [zAk (by omega) (by omega)]; omega
  have w8 : IntKind.u64.wrap ((8 * i : Nat) : Int) = ((8 * i : Nat) : Int):=zBv (by omega) (by omega)
  have hz:=List.getElem?_eq_getElem hlt
  have uz:=hu _ (List.getElem_mem hlt)
  generalize zs[i] = z at *
  obtain ⟨a,ia,la⟩:=b.idx hz .i64
  have wz : IntKind.u64.wrap z = z:=zBv (by omega) (by omega)
  have ut : IsU8 (zs.take i):=fun y hy=>hu y (List.mem_of_mem_take hy)
  have gt:=zEy ut
  have tl : (zs.take i).length = i:=by rw [List.length_take]; omega
  rw [tl] at gt
  have ob:=zSp gt.1 gt.2 uz.1 uz.2 (show i < 8 by omega)
  have ut1 : IsU8 (zs.take (i + 1)):=fun y hy=>hu y (List.mem_of_mem_take hy)
  have g1:=zEy ut1
  have tl1 : (zs.take (i + 1)).length = i + 1:=by rw [List.length_take]; omega
  rw [tl1] at g1
  have es : getS (zs.take (i + 1)) = getS (zs.take i) + z * 256 ^ i:=by
   rw [List.take_add_one,hz]
   show getS (zs.take i ++ [z]) = _
   rw [zIj,tl]
  have p8 : (256 : Int) ^ (i + 1) ≤ 18446744073709551616:=by
   rcases (by omega : i = 0 ∨ i = 1 ∨ i = 2 ∨ i = 3 ∨ i = 4 ∨ i = 5 ∨ i = 6 ∨ i = 7) with rfl | rfl | rfl | rfl | rfl | rfl | rfl | rfl <;> decide
  have q0 : 0 ≤ z * 256 ^ i:=Int.mul_nonneg uz.1 (Int.pow_nonneg (by omega))
  have ws : IntKind.u64.wrap (z * 2 ^ min (8 * i) 64) = z * 256 ^ i:=by
   rw [show min (8 * i) 64 = 8 * i by omega,zLv]; exact zBv q0 (by omega)
  have sh : binV .shl .none (.int .u64 z) (.int .u64 ((8 * i : Nat) : Int)) = some (.int .u64 (z * 256 ^ i)):=by
   show (if ((8 * i : Nat) : Int) < 0 then none else some (AV.int .u64 (IntKind.u64.wrap (z * 2 ^ min (((8 * i : Nat) : Int)).toNat 64)))) = _
   rw [if_neg (by omega),Int.toNat_natCast,ws]
  have wa : IntKind.u64.wrap (getS (zs.take i) + z * 256 ^ i) = getS (zs.take (i + 1)):=by rw [← es]; exact zBv g1.1 (by omega)
  rw [lo]
  unfold l42x0
  simp -implicitDefEqProofs (maxSteps:=5000000) only [go_sem,simprocAttr,hn,hd,hd8,ia,la,wz,e8,w8,sh,wa,e2]
  exact ih (i + 1) _ _ _ _ _ _ _ _ _ _ _ _ _ _ _ _ _ _ _ _ _ (by omega)
set_option maxHeartbeats 2000000 in
theorem rgetC (hl : zs.length ≤ 8) : (envL prog).call 42 [w] H = some (.int .u64 (getS zs),H):=by
 have hn:=b.len
 have l0:=rgetL b hu hl (m:=zs.length) (i:=0)
 rw [show ((0 : Nat) : Int) = 0 from rfl,List.take_zero,show getS [] = 0 from rfl] at l0
 have o : Outs (runC (envL prog) (b42 (envL prog)) ([w] ++ List.replicate (27 - [w].length) .undef) H) fun e' t K'=>fin [.tmp 2] (some (e',t,K')) = some (.int .u64 (getS zs),K') ∧ K' = H:=by
  unfold b42
  generalize hQ : (fun (e' : Ex) (t : T) (K' : zAc)=>fin [.tmp 2] (some (e',t,K')) = some (AV.int .u64 (getS zs),K') ∧ K' = H) = Q
  simp -implicitDefEqProofs (maxSteps:=5000000) only [go_sem,simprocAttr,zAi]
  unfold LP1 at l0
  generalize (envL prog).loop (runC (envL prog) (l42x0 (envL prog))) = L0 at l0 ⊢
  refine zAq (fun r=>seqR (zAt 0 r) _) (l0 _ _ _ _ _ _ _ _ _ _ _ _ _ _ _ _ _ _ _ _ _ _ _ _ (by omega)) ?_
  rintro e t H' ⟨rfl,rfl,k,rfl⟩
  simp -implicitDefEqProofs (maxSteps:=5000000) only [go_sem,simprocAttr,zAb]
  subst hQ
  refine ⟨?_,rfl⟩
  simp -implicitDefEqProofs (maxSteps:=5000000) only [go_sem,simprocAttr]
 obtain ⟨e',t,H',hr,hf,rfl⟩:=o
 rw [c42,hr,hf]
 exact zBo rfl
end
end Go.Proofs.Ythgflkfhjnbheaa.G14.Pg
end
section
namespace Go.Proofs.Ythgflkfhjnbheaa.G14
open Go Go.Proofs.Ythgflkfhjnbheaa.Eng
noncomputable abbrev LQU (l : Env → CT):=(envL prog).loop (runC (envL prog) (l (envL prog)))
noncomputable abbrev tyU : TyD:=ty 1 false 1 [.int .u8 0]
theorem growU {n : Nat} (h1 : 1 ≤ n) (hn : n ≤ 2000000000) (H : zAc) : (envL prog).call 63 [.nilSl,.int .i64 (n : Int)] H = some (.sl H.length 0 1 0 n false,H ++ [.rw (List.replicate n (tyU).zero).flatten]):=by
 have w0 : IntKind.i64.wrap (0 - 0) = 0:=by decide
 have w1 : IntKind.i64.wrap ((n : Int) - 0) = (n : Int):=by rw [zAk (by omega) (by omega)]; omega
 have d1 : decide ((n : Int) < 0) = false:=decide_eq_false (by omega)
 have d2 : decide ((n : Int) > 0) = true:=decide_eq_true (by omega)
 have ha:=appN_nil (d:=tyU) (H:=H) (n:=n) (k:=1) (by omega) rfl (by decide) h1 (by unfold roomy; show n * 1 ≤ _; omega)
 have sl0 : zB3 1 .nilSl none (some (.int .i64 0)) none = some .nilSl:=by simp [zB3,asI]
 have sl1 : zB3 1 (.sl H.length 0 1 n n false) none (some (.int .i64 0)) none = some (.sl H.length 0 1 0 n false):=by simp [zB3,asI]
 unfold tyU at ha
 rw [c63]
 unfold b63
 have hcap : capSl .nilSl = some (.int .i64 0):=rfl
 have w00 : IntKind.i64.wrap 0 = 0:=by decide
 simp -implicitDefEqProofs (maxSteps:=5000000) only [go_sem,simprocAttr,hcap,w0,w00,w1,d1,d2,ha,sl0,sl1]
 exact zA6 (by simp [AV.under])
theorem grow0U (H : zAc) : (envL prog).call 63 [.nilSl,.int .i64 0] H = some (.nilSl,H):=by
 have w0 : IntKind.i64.wrap (0 - 0) = 0:=by decide
 have d1 : decide ((0 : Int) < 0) = false:=rfl
 have d2 : decide ((0 : Int) > 0) = false:=rfl
 rw [c63]
 unfold b63
 have hcap : capSl .nilSl = some (.int .i64 0):=rfl
 have w00 : IntKind.i64.wrap 0 = 0:=by decide
 simp -implicitDefEqProofs (maxSteps:=5000000) only [go_sem,simprocAttr,hcap,w0,w00,d1,d2]
def totU (Xs : List (AV × Nat × List AV)) : Nat:=(Xs.map fun x=>x.2.1).sum
def catU (Xs : List (AV × Nat × List AV)) : List AV:=(Xs.map fun x=>x.2.2).flatten
section
variable {H : zAc} {a : Nat} {Xs : List (AV × Nat × List AV)} (ha : cellsOf H a = some (Xs.map fun x=>x.1)) (hs : ∀ x ∈ Xs,Src 1 H x.1 x.2.1 x.2.2) (ht : totU Xs ≤ 2000000000) (hX : Xs.length ≤ 1000)
include ha hs ht hX
set_option maxHeartbeats 2000000 in
theorem sumLU (x0 x1 x2 x4 x6 x7 x8 x23 x24 x25 x26 x27 x28 x29 x30 x31 x32 x33 x34 x35 : AV) : ∀ (k i : Nat) (j5 j12 j13 j14 j15 j16 j17 j18 j19 j20 j21 j22 : AV),i + k = Xs.length →
  Outs (LQU l24x0 [x0,x1,x2,.int .i64 (totU (Xs.take i) : Int),x4,j5,x6,x7,x8,.sl a 0 1 Xs.length Xs.length true,.int .i64 (Xs.length : Int),.int .i64 (i : Int),j12,j13,j14,j15,j16,j17,j18,j19,j20,j21,j22,x23,x24,x25,x26,x27,x28,x29,x30,x31,x32,x33,x34,x35] H) fun e t H'=>e = .exit 0 ∧ H' = H ∧ ∃ k : Nat → AV,t = [x0,x1,x2,.int .i64 (totU Xs : Int),x4,(k 5),x6,x7,x8,.sl a 0 1 Xs.length Xs.length true,.int .i64 (Xs.length : Int),(k 11),(k 12),(k 13),(k 14),(k 15),(k 16),(k 17),(k 18),(k 19),(k 20),(k 21),(k 22),x23,x24,x25,x26,x27,x28,x29,x30,x31,x32,x33,x34,x35]:=by
 intro k
 obtain ⟨L,hL⟩ : ∃ L,L = LQU l24x0:=⟨_,rfl⟩
 have lo:=zAp hL
 rw [← hL]
 induction k with
 | zero =>
  intro i j5 j12 j13 j14 j15 j16 j17 j18 j19 j20 j21 j22 hi
  obtain rfl : i = Xs.length:=by omega
  have hd : decide ((Xs.length : Int) < (Xs.length : Int)) = false:=by simp
  rw [List.take_length,lo]
  unfold l24x0
  simp -implicitDefEqProofs (maxSteps:=5000000) only [go_sem,simprocAttr,hd,zAg,zAb]
  exact exF rfl
 | succ k ih =>
  intro i j5 j12 j13 j14 j15 j16 j17 j18 j19 j20 j21 j22 hi
  have hlt : i < Xs.length:=by omega
  have hx:=List.getElem?_eq_getElem hlt
  have hv:=zKk (fun x : AV × Nat × List AV=>x.1) hx
  have sx:=hs _ (List.getElem_mem hlt)
  generalize Xs[i] = x at *
  have hd : decide ((i : Int) < (Xs.length : Int)) = true:=decide_eq_true (by omega)
  have et : totU (Xs.take (i + 1)) = totU (Xs.take i) + x.2.1:=by unfold totU; rw [List.take_add_one,hx]; simp
  have le : totU (Xs.take (i + 1)) ≤ totU Xs:=by
   unfold totU
   rw [← List.take_append_drop (i + 1) Xs,List.map_append,List.sum_append,List.take_append_drop]
   exact Nat.le_add_right _ _
  have e2 : IntKind.i64.wrap ((i : Int) + 1) = ((i + 1 : Nat) : Int):=by
   skip
   rw [zAk (by omega) (by omega)]; omega
  have e3 : IntKind.i64.wrap ((totU (Xs.take i) : Int) + (x.2.1 : Int)) = (totU (Xs.take (i + 1)) : Int):=by rw [zAk (by omega) (by omega)]; omega
  have d3 : decide ((totU (Xs.take (i + 1)) : Int) < 0) = false:=decide_eq_false (by omega)
  have ix:=zEh a 1 Xs.length Xs.length i true .i64 (by omega) hlt
  rw [Nat.mul_one] at ix
  have hl:=sx.len
  rw [lo]
  unfold l24x0
  simp -implicitDefEqProofs (maxSteps:=5000000) only [go_sem,simprocAttr,hd,ix,ha,hv,hl,e2,e3,d3]
  exact ih (i + 1) _ _ _ _ _ _ _ _ _ _ _ _ (by omega)
def OutU (H : zAc) (Xs : List (AV × Nat × List AV)) (i : Nat) (l : AV) (H' : zAc) : Prop :=
 (totU Xs = 0 ∧ l = .nilSl ∧ H' = H) ∨ (totU Xs ≠ 0 ∧ l = .sl H.length 0 1 (totU (Xs.take i)) (totU Xs) false ∧ ∃ Z : List AV,Z.length + totU (Xs.take i) * 1 = totU Xs * 1 ∧ H' = H ++ [.rw (catU (Xs.take i) ++ Z)])
theorem zUm : ∀ i,(catU (Xs.take i)).length = totU (Xs.take i) * 1:=by
 intro i
 have : ∀ Ys : List (AV × Nat × List AV),(∀ x ∈ Ys,x.2.2.length = x.2.1 * 1) → (catU Ys).length = totU Ys * 1:=by
  intro Ys
  induction Ys with
  | nil=>intro _; rfl
  | cons x Ys ih =>
   intro h
   have e:=ih fun y hy=>h y (by simp [hy])
   unfold catU totU at e ⊢
   rw [List.map_cons,List.map_cons,List.flatten_cons,List.sum_cons,List.length_append,e,h x (by simp),Nat.add_mul]
 exact this _ fun x hx=>(hs x (List.mem_of_mem_take hx)).clen
set_option maxHeartbeats 2000000 in
theorem catLU (x0 x1 x2 x3 x4 x5 x7 x9 x10 x11 x12 x13 x14 x15 x16 x17 x18 x19 x20 x21 x22 x23 x24 x35 : AV) : ∀ (k i : Nat) (l : AV) (H1 : zAc) (j8 j28 j29 j30 j31 j32 j33 j34 : AV),OutU H Xs i l H1 → i + k = Xs.length →
  Outs (LQU l24x1 [x0,x1,x2,x3,x4,x5,l,x7,j8,x9,x10,x11,x12,x13,x14,x15,x16,x17,x18,x19,x20,x21,x22,x23,x24,.sl a 0 1 Xs.length Xs.length true,.int .i64 (Xs.length : Int),.int .i64 (i : Int),j28,j29,j30,j31,j32,j33,j34,x35] H1) fun e t H'=>e = .exit 2 ∧ ∃ l',OutU H Xs Xs.length l' H' ∧ ∃ k : Nat → AV,t = [x0,x1,x2,x3,x4,x5,l',x7,(k 8),x9,x10,x11,x12,x13,x14,x15,x16,x17,x18,x19,x20,x21,x22,x23,x24,.sl a 0 1 Xs.length Xs.length true,.int .i64 (Xs.length : Int),(k 27),(k 28),(k 29),(k 30),(k 31),(k 32),(k 33),(k 34),x35]:=by
 intro k
 obtain ⟨L,hL⟩ : ∃ L,L = LQU l24x1:=⟨_,rfl⟩
 have lo:=zAp hL
 rw [← hL]
 induction k with
 | zero =>
  intro i l H1 j8 j28 j29 j30 j31 j32 j33 j34 ho hi
  obtain rfl : i = Xs.length:=by omega
  have hd : decide ((Xs.length : Int) < (Xs.length : Int)) = false:=by simp
  rw [lo]
  unfold l24x1
  simp -implicitDefEqProofs (maxSteps:=5000000) only [go_sem,simprocAttr,hd,zAg,zAb]
  exact ⟨l,ho,exF rfl⟩
 | succ k ih =>
  intro i l H1 j8 j28 j29 j30 j31 j32 j33 j34 ho hi
  have hlt : i < Xs.length:=by omega
  have cl:=zUm ha hs ht hX
  have hx:=List.getElem?_eq_getElem hlt
  have hv:=zKk (fun x : AV × Nat × List AV=>x.1) hx
  have sx:=hs _ (List.getElem_mem hlt)
  generalize Xs[i] = x at *
  have hd : decide ((i : Int) < (Xs.length : Int)) = true:=decide_eq_true (by omega)
  have et : totU (Xs.take (i + 1)) = totU (Xs.take i) + x.2.1:=by unfold totU; rw [List.take_add_one,hx]; simp
  have ec : catU (Xs.take (i + 1)) = catU (Xs.take i) ++ x.2.2:=by unfold catU; rw [List.take_add_one,hx]; simp
  have le : totU (Xs.take (i + 1)) ≤ totU Xs:=by
   unfold totU
   rw [← List.take_append_drop (i + 1) Xs,List.map_append,List.sum_append,List.take_append_drop]
   exact Nat.le_add_right _ _
  have e2 : IntKind.i64.wrap ((i : Int) + 1) = ((i + 1 : Nat) : Int):=by rw [zAk (by omega) (by omega)]; omega
  have ix:=zEh a 1 Xs.length Xs.length i true .i64 (by omega) hlt
  rw [Nat.mul_one] at ix
  obtain ⟨l2,H2,ho2,ea⟩ : ∃ l2 H2,OutU H Xs (i + 1) l2 H2 ∧ app tyU l x.1 H1 = some (l2,H2):=by
   rcases ho with ⟨h0,rfl,rfl⟩ | ⟨h0,rfl,Z,hZ,rfl⟩
   ·have : x.2.1 = 0:=by omega
    rw [this] at sx
    exact ⟨_,_,.inl ⟨h0,rfl,rfl⟩,app_nil0 rfl sx⟩
   ·refine ⟨_,_,.inr ⟨h0,rfl,Z.drop x.2.2.length,?_,rfl⟩,?_⟩
    ·rw [List.length_drop,sx.clen,et,Nat.add_mul]
     rw [et] at le
     have:=Nat.mul_le_mul_right 1 le
     rw [Nat.add_mul] at this
     omega
    ·have:=app_in (k:=1) (by omega) (d:=tyU) rfl (H:=H ++ [.rw (catU (Xs.take i) ++ Z)]) (b:=H.length) (m:=totU (Xs.take i)) (n:=totU Xs) (A:=catU (Xs.take i)) (Z:=Z) (by simp) (cl i) (sx.adds _) (by
      rw [sx.clen]
      rw [et] at le
      have:=Nat.mul_le_mul_right 1 le
      rw [Nat.add_mul] at this
      omega) (by omega)
     rw [this,et,ec]
     simp
  have hm : ∀ G,cellsOf (H ++ G) a = some (Xs.map fun x=>x.1):=fun G=>zBp ha
  have hm1 : cellsOf H1 a = some (Xs.map fun x=>x.1):=by
   rcases ho with ⟨_,_,rfl⟩ | ⟨_,_,Z,_,rfl⟩
   ·exact ha
   ·exact hm _
  unfold tyU at ea
  rw [lo]
  unfold l24x1
  simp -implicitDefEqProofs (maxSteps:=5000000) only [go_sem,simprocAttr,hd,ix,hm1,hv,e2,ea]
  exact ih (i + 1) l2 H2 _ _ _ _ _ _ _ _ ho2 (by omega)
set_option maxHeartbeats 2000000 in
theorem concatU : ∃ l H',((totU Xs = 0 ∧ l = .nilSl ∧ H' = H) ∨ (totU Xs ≠ 0 ∧ l = .sl H.length 0 1 (totU Xs) (totU Xs) false ∧ H' = H ++ [.rw (catU Xs)])) ∧ (envL prog).call 24 [.sl a 0 1 Xs.length Xs.length true] H = some (l,H'):=by
 have l0:=sumLU ha hs ht hX (k:=Xs.length) (i:=0)
 have cl:=zUm ha hs ht hX
 rw [show ((0 : Nat) : Int) = 0 from rfl,List.take_zero,show totU [] = 0 from rfl,show ((0 : Nat) : Int) = 0 from rfl] at l0
 have l1:=catLU ha hs ht hX (k:=Xs.length) (i:=0)
 rw [show ((0 : Nat) : Int) = 0 from rfl] at l1
 obtain ⟨g,H1,ho,hg⟩ : ∃ g H1,OutU H Xs 0 g H1 ∧ (envL prog).call 63 [.nilSl,.int .i64 (totU Xs : Int)] H = some (g,H1):=by
  by_cases h0 : totU Xs = 0
  ·refine ⟨_,_,.inl ⟨h0,rfl,rfl⟩,?_⟩
   rw [h0]; exact grow0U H
  ·refine ⟨_,_,.inr ⟨h0,rfl,(List.replicate (totU Xs) (tyU).zero).flatten,?_,rfl⟩,?_⟩
   ·rw [zLq (k:=1) (by rfl),List.take_zero,show totU [] = 0 from rfl,Nat.zero_mul,Nat.add_zero]
   ·rw [List.take_zero,show totU [] = 0 from rfl,show catU [] = [] from rfl,List.nil_append]
    exact growU (by omega) ht H
 have o : Outs (runC (envL prog) (b24 (envL prog)) ([.sl a 0 1 Xs.length Xs.length true] ++ List.replicate (36 - [AV.sl a 0 1 Xs.length Xs.length true].length) .undef) H) fun e' t H'=>∃ l,OutU H Xs Xs.length l H' ∧ fin [.tmp 2] (some (e',t,H')) = some (l,H'):=by
  unfold b24
  generalize hQ : (fun (e' : Ex) (t : T) (H' : zAc)=>∃ l,OutU H Xs Xs.length l H' ∧ fin [.tmp 2] (some (e',t,H')) = some (l,H')) = Q
  simp -implicitDefEqProofs (maxSteps:=5000000) only [go_sem,simprocAttr,zAi]
  unfold LQU at l0 l1
  generalize (envL prog).loop (runC (envL prog) (l24x0 (envL prog))) = L0 at l0 ⊢
  refine zAq (fun r=>seqR (zAt 0 r) _) (l0 _ _ _ _ _ _ _ _ _ _ _ _ _ _ _ _ _ _ _ _ _ _ _ _ _ _ _ _ _ _ _ _ (by omega)) ?_
  rintro e t H' ⟨rfl,rfl,k,rfl⟩
  simp -implicitDefEqProofs (maxSteps:=5000000) only [go_sem,simprocAttr,zAi,hg]
  generalize (envL prog).loop (runC (envL prog) (l24x1 (envL prog))) = L1 at l1 ⊢
  refine zAq (fun r=>seqR (zAt 2 r) _) (l1 _ _ _ _ _ _ _ _ _ _ _ _ _ _ _ _ _ _ _ _ _ _ _ _ _ _ _ _ _ _ _ _ _ _ ho (by omega)) ?_
  rintro e t H' ⟨rfl,l,ho,k,rfl⟩
  simp -implicitDefEqProofs (maxSteps:=5000000) only [go_sem,simprocAttr,zAb]
  subst hQ
  refine ⟨l,ho,?_⟩
  simp -implicitDefEqProofs (maxSteps:=5000000) only [go_sem,simprocAttr]
 obtain ⟨e',t,H',hr,l,ho,hf⟩:=o
 rw [c24,hr,hf]
 rcases ho with ⟨h0,rfl,rfl⟩ | ⟨h0,rfl,Z,hZ,rfl⟩
 ·exact ⟨_,_,.inl ⟨h0,rfl,rfl⟩,zBo rfl⟩
 ·rw [List.take_length] at hZ ⊢
  obtain rfl : Z = []:=List.eq_nil_of_length_eq_zero (by omega)
  rw [List.append_nil]
  exact ⟨_,_,.inr ⟨h0,rfl,rfl⟩,zA6 (by simp [AV.under])⟩
end
end Go.Proofs.Ythgflkfhjnbheaa.G14
end
section
namespace Go.Proofs.Ythgflkfhjnbheaa.G14
open Go Go.Proofs.Ythgflkfhjnbheaa.Eng
structure StS where
 dirty : List Int
 snaps : List SnS
 next : Int
 kind : Int
 pid : Int
 pairs : List PrS
deriving DecidableEq
def u8w (n : Int) : Int:=IntKind.u8.wrap n
def zDy (b s w : Int) (pre : List Int) : List Int → Bool
 | []=>true
 | x :: l=>((x == -1) || (decide (0 ≤ x) && (decide (x < b) && ((x.tmod s == (pre.length : Int).tdiv w) && !pre.contains x)))) && zDy b s w (pre ++ [x]) l
def zHf (b s w : Int) (l : List Int) : Bool:=((l.length : Int) == s * w) && zDy b s w [] l
def atsS (L : List SnS) : List Int:=(L.map fun s=>s.tb.map (·.2)).flatten
def zLy (kind b ar : Int) (held : List Int) (pre : List PrS) (x : PrS) : Bool :=
 decide (0 ≤ x.1) && (decide (x.1 < b) && ((match pre.getLast? with | none=>true | some q=>decide (q.1 < x.1)) &&
  ((!(kind == 1) || held.contains x.2) && (!(kind == 2) || ((x.2 == 255) || (decide (0 ≤ x.2) && (decide (x.2 < ar) && (!held.contains x.2 && !(pre.map (·.2)).contains x.2))))))))
def zEg (kind b ar : Int) (held : List Int) : List PrS → List PrS → Bool
 | _,[]=>true
 | pre,x :: l=>zLy kind b ar held pre x && zEg kind b ar held (pre ++ [x]) l
def zHl (L : List SnS) : Bool:=decide (L.length < 8) && (match L.getLast? with | none=>true | some s=>Bt.sumO s.ch == (s.tb.length : Int))
def zTb (S : StS) : Bool :=
 if S.kind = 0 then (S.pid == 0) && S.pairs.isEmpty else if S.kind = 1 then decide (0 ≤ cidF S.pid 0 S.snaps) else if S.kind = 2 then decide (S.next ≤ S.pid) && (decide (S.pid ≤ 1000000) && zHl S.snaps) else false
def zFa (b ar : Int) (S : StS) : Bool:=zEg S.kind b ar (atsS S.snaps) [] S.pairs && zTb S
def zTa (S : StS) : Bool:=match S.snaps.getLast? with | none=>true | some s=>decide (s.id < S.next)
def zCp (b s w ar : Int) (S : StS) : Bool:=zHf b s w S.dirty && (zFc S.snaps b ar && (decide (1 ≤ S.next) && (decide (S.next ≤ 1000001) && (zTa S && zFa b ar S))))
def zEx : List Int → List PrS → List Int
 | z,[]=>z
 | z,p :: l=>zEx (z.set p.1.toNat (if p.2 = 255 then 255 else u8w (p.2 + 1))) l
def zCj (b : Int) (l : List PrS) : List Int:=zEx (List.replicate b.toNat 0) l
def zC3 (b : Int) (s : SnS) : List Int:=putS 4 (IntKind.u64.wrap s.id) ++ (s.ch ++ zCj b s.tb)
def zFb (b : Int) : SnS:=⟨0,List.replicate (Bt.newN b) 0,[]⟩
def zBt (b : Int) : Nat → List SnS → List Int
 | 0,_=>[]
 | k + 1,[]=>zC3 b (zFb b) ++ zBt b k []
 | k + 1,s :: L=>zC3 b s ++ zBt b k L
def encT (b : Int) (S : StS) : List Int :=
 putS 4 (IntKind.u64.wrap S.next) ++ ([u8w S.snaps.length,u8w S.kind] ++ (putS 4 (IntKind.u64.wrap S.pid) ++ (S.dirty.map (fun d=>u8w (d + 1)) ++ (zBt b 8 S.snaps ++ zCj b S.pairs))))
def unmF : Nat → List Int → List PrS
 | _,[]=>[]
 | i,c :: l=>(if c = 0 then [] else [((i : Int),if c = 255 then 255 else c - 1)]) ++ unmF (i + 1) l
def unmS (z : List Int) : List PrS:=unmF 0 z
def snOf (nb b : Nat) (z : List Int) : SnS:=⟨getS (z.take 4),(z.drop 4).take nb,unmS ((z.drop (4 + nb)).take b)⟩
def zDe (nb b : Nat) : Nat → List Int → List SnS
 | 0,_=>[]
 | k + 1,z=>snOf nb b z :: zDe nb b k (z.drop (4 + nb + b))
def rawT (n nb b : Nat) (z : List Int) : StS :=
 ⟨((z.drop 10).take n).map (· - 1),(zDe nb b 8 (z.drop (10 + n))).take ((z[4]?).getD 0).toNat,getS (z.take 4),(z[5]?).getD 0,getS ((z.drop 6).take 4),unmS ((z.drop (10 + n + 8 * (4 + nb + b))).take b)⟩
theorem zGc : ∀ (l : List PrS) (z : List Int),(zEx z l).length = z.length
 | [],z=>rfl
 | p :: l,z=>by rw [zEx,zGc l,List.length_set]
theorem zCi (b : Int) (l : List PrS) : (zCj b l).length = b.toNat:=by unfold zCj; rw [zGc,List.length_replicate]
theorem zM1 (n : Int) : 0 ≤ u8w n ∧ u8w n ≤ 255:=by unfold u8w; rw [zOb]; omega
theorem zK7 {n : Int} (h : 0 ≤ n ∧ n ≤ 255) : u8w n = n:=by unfold u8w; rw [zOb]; omega
theorem zOu : ∀ (l : List PrS) (z : List Int),IsU8 z → IsU8 (zEx z l)
 | [],z,h=>h
 | p :: l,z,h=>by
  rw [zEx]
  refine zOu l _ fun x hx=>?_
  rcases List.mem_or_eq_of_mem_set hx with hx | rfl
  ·exact h x hx
  ·split
   ·omega
   ·exact zM1 _
theorem zOt (b : Int) (l : List PrS) : IsU8 (zCj b l):=zOu l _ (Bt.rep_u8 _)
def zPn (p : PrS) : Prop:=0 ≤ p.1 ∧ ((0 ≤ p.2 ∧ p.2 ≤ 253) ∨ p.2 = 255)
theorem zF1 : ∀ (x y : List Int) (i : Nat),unmF i (x ++ y) = unmF i x ++ unmF (i + x.length) y
 | [],y,i=>rfl
 | c :: x,y,i=>by
  rw [List.cons_append,unmF,unmF,zF1 x y (i + 1),List.append_assoc,List.length_cons,show i + 1 + x.length = i + (x.length + 1) by omega]
theorem zH1 : ∀ (n i : Nat),unmF i (List.replicate n 0) = []
 | 0,i=>rfl
 | n + 1,i=>by rw [List.replicate_succ,unmF,zH1 n]; rfl
theorem zIe : ∀ (l : List PrS) (x : List Int) (m : Nat),asc l → (∀ p ∈ l,(x.length : Int) ≤ p.1 ∧ p.1 < ((x.length + m : Nat) : Int)) → (∀ p ∈ l,zPn p) → unmF 0 (zEx (x ++ List.replicate m 0) l) = unmF 0 x ++ l
 | [],x,m,_,_,_=>by rw [zEx,zF1,zH1]
 | p :: l,x,m,ha,hr,ho=>by
  obtain ⟨a1,a2⟩:=zHy.1 ha
  have hp:=hr p (by simp)
  have op:=ho p (by simp)
  obtain ⟨k,hk⟩ : ∃ k : Nat,p.1 = ((x.length + k : Nat) : Int):=⟨(p.1 - x.length).toNat,by omega⟩
  have hkm : k < m:=by omega
  have er : List.replicate m (0 : Int) = List.replicate k 0 ++ 0 :: List.replicate (m - (k + 1)) 0:=by
   rw [← List.replicate_succ,List.replicate_append_replicate]; congr 1; omega
  obtain ⟨v,hv⟩ : ∃ v,v = (if p.2 = 255 then 255 else u8w (p.2 + 1)):=⟨_,rfl⟩
  have hset : (x ++ List.replicate m 0).set p.1.toNat v = (x ++ List.replicate k 0 ++ [v]) ++ List.replicate (m - (k + 1)) 0:=by
   have lx : (x ++ List.replicate k (0 : Int)).length = x.length + k:=by rw [List.length_append,List.length_replicate]
   rw [er,hk,Int.toNat_natCast,← List.append_assoc,List.set_append_right _ _ (by omega),lx,Nat.sub_self,List.set_cons_zero]
   simp
  rw [zEx,← hv,hset,zIe l _ _ a2 (fun q hq=>?_) (fun q hq=>ho q (by simp [hq]))]
  ·rw [zF1,zF1,zH1,List.append_nil,Nat.zero_add,List.length_append,List.length_replicate]
   have hv0 : v ≠ 0 ∧ (if v = 255 then (255 : Int) else v - 1) = p.2:=by
    rcases op.2 with h | h
    ·rw [if_neg (by omega),zK7 (by omega)] at hv
     subst hv
     exact ⟨by omega,by rw [if_neg (by omega)]; omega⟩
    ·rw [if_pos h] at hv
     subst hv
     exact ⟨by decide,by rw [if_pos rfl,h]⟩
   have : unmF (x.length + k) [v] = [p]:=by
    unfold unmF
    rw [if_neg hv0.1,hv0.2]
    unfold unmF
    rw [List.append_nil,← hk]
   rw [this,List.append_assoc]; rfl
  ·have h1:=a1 q hq
   have h2:=hr q (by simp [hq])
   simp only [List.length_append,List.length_replicate,List.length_singleton]
   omega
theorem zOd {b : Int} {l : List PrS} (ha : asc l) (hr : ∀ p ∈ l,p.1 < b) (ho : ∀ p ∈ l,zPn p) : unmS (zCj b l) = l:=by
 have:=zIe l [] b.toNat ha (fun p hp=>by have:=(ho p hp).1; have:=hr p hp; simp; omega) ho
 simpa [unmS,zCj,unmF] using this
theorem zH3 {b : Int} {s : SnS} : (zC3 b s).length = 4 + s.ch.length + b.toNat:=by
 unfold zC3; rw [List.length_append,List.length_append,zA5,zCi]; omega
structure SlotOk (b : Int) (s : SnS) : Prop where
 id : 0 ≤ s.id ∧ s.id ≤ 1000000
 lc : s.ch.length = Bt.newN b
 up : asc s.tb
 rng : ∀ p ∈ s.tb,p.1 < b
 mo : ∀ p ∈ s.tb,zPn p
theorem zOq (b : Int) : SlotOk b (zFb b):=⟨(by show (0 : Int) ≤ 0 ∧ (0 : Int) ≤ 1000000; decide),(by show (List.replicate (Bt.newN b) (0 : Int)).length = _; rw [List.length_replicate]),zIx,fun p h=>(by cases h),fun p h=>(by cases h)⟩
theorem zLe {b : Int} {s : SnS} (h : SlotOk b s) (y : List Int) : snOf (Bt.newN b) b.toNat (zC3 b s ++ y) = s ∧ (zC3 b s ++ y).drop (4 + Bt.newN b + b.toNat) = y:=by
 have hl:=zH3 (b:=b) (s:=s)
 rw [h.lc] at hl
 have pl : ∀ n,(putS 4 n).length = 4:=fun n=>zA5 4 n
 refine ⟨?_,by rw [← hl,List.drop_left]⟩
 have e1 : (zC3 b s ++ y).take 4 = putS 4 (IntKind.u64.wrap s.id):=by
  unfold zC3; rw [List.append_assoc,List.take_append_of_le_length (by rw [pl]; exact Nat.le_refl _),List.take_of_length_le (by rw [pl]; exact Nat.le_refl _)]
 have e2 : (zC3 b s ++ y).drop 4 = s.ch ++ (zCj b s.tb ++ y):=by
  have:=List.drop_left (l₁:=putS 4 (IntKind.u64.wrap s.id)) (l₂:=s.ch ++ (zCj b s.tb ++ y))
  rw [pl] at this
  unfold zC3; rw [List.append_assoc,List.append_assoc]; exact this
 have e3 : (zC3 b s ++ y).drop (4 + Bt.newN b) = zCj b s.tb ++ y:=by
  rw [← List.drop_drop,e2,← h.lc,List.drop_left]
 unfold snOf
 rw [e1,e2,e3]
 have w:=zBv (n:=s.id) h.id.1 (by have:=h.id.2; omega)
 rw [w,zHs 4 s.id h.id.1 (by have:=h.id.2; omega)]
 rw [show (s.ch ++ (zCj b s.tb ++ y)).take (Bt.newN b) = s.ch by rw [← h.lc,List.take_left]]
 rw [show (zCj b s.tb ++ y).take b.toNat = zCj b s.tb by rw [← zCi b s.tb,List.take_left]]
 rw [zOd h.up h.rng h.mo]
theorem zF3 {b : Int} : ∀ (k : Nat) (L : List SnS) (y : List Int),(∀ s ∈ L,SlotOk b s) → L.length ≤ k → ∃ R,zDe (Bt.newN b) b.toNat k (zBt b k L ++ y) = L ++ R ∧ (zBt b k L ++ y).drop (k * (4 + Bt.newN b + b.toNat)) = y ∧ (zBt b k L).length = k * (4 + Bt.newN b + b.toNat)
 | 0,L,y,h,hl=>by
  obtain rfl:=List.length_eq_zero_iff.1 (Nat.le_zero.1 hl)
  exact ⟨[],rfl,by simp [zBt],by simp [zBt]⟩
 | k + 1,[],y,h,hl=>by
  obtain ⟨R,r1,r2,r3⟩:=zF3 k [] y (fun s hs=>by cases hs) (by simp)
  obtain ⟨e1,e2⟩:=zLe (zOq b) (zBt b k [] ++ y)
  have hl:=zH3 (b:=b) (s:=zFb b)
  rw [(zOq b).lc] at hl
  refine ⟨zFb b :: R,?_,?_,by rw [zBt,List.length_append,hl,r3,Nat.add_mul,Nat.one_mul]; omega⟩
  ·rw [zBt,List.append_assoc,zDe,e1,e2,r1]; rfl
  ·rw [zBt,List.append_assoc,Nat.add_mul,Nat.one_mul,Nat.add_comm,← List.drop_drop,e2,r2]
 | k + 1,s :: L,y,h,hl=>by
  obtain ⟨R,r1,r2,r3⟩:=zF3 k L y (fun x hx=>h x (by simp [hx])) (by simpa using hl)
  obtain ⟨e1,e2⟩:=zLe (h s (by simp)) (zBt b k L ++ y)
  have hls:=zH3 (b:=b) (s:=s)
  rw [(h s (by simp)).lc] at hls
  refine ⟨R,?_,?_,by rw [zBt,List.length_append,hls,r3,Nat.add_mul,Nat.one_mul]; omega⟩
  ·rw [zBt,List.append_assoc,zDe,e1,e2,r1]; rfl
  ·rw [zBt,List.append_assoc,Nat.add_mul,Nat.one_mul,Nat.add_comm,← List.drop_drop,e2,r2]
end Go.Proofs.Ythgflkfhjnbheaa.G14
end
section
namespace Go.Proofs.Ythgflkfhjnbheaa.G14
open Go Go.Proofs.Ythgflkfhjnbheaa.Eng
theorem zJm {b s w : Int} : ∀ (l pre : List Int),zDy b s w pre l = true → ∀ x ∈ l,x = -1 ∨ (0 ≤ x ∧ x < b)
 | [],_,_,x,h=>absurd h (by simp)
 | y :: l,pre,h,x,hx=>by
  rw [zDy,Bool.and_eq_true] at h
  rcases List.mem_cons.1 hx with rfl | hx
  ·have h1:=h.1
   rw [Bool.or_eq_true,beq_iff_eq] at h1
   rcases h1 with h1 | h1
   ·exact .inl h1
   ·rw [Bool.and_eq_true,Bool.and_eq_true,decide_eq_true_eq,decide_eq_true_eq] at h1
    exact .inr ⟨h1.1,h1.2.1⟩
  ·exact zJm l _ h.2 x hx
theorem zUe {n : Int} : ∀ (L : List SnS) (i : Nat),0 ≤ cidF n i L → ∃ s ∈ L,s.id = n
 | [],i,h=>absurd h (by unfold cidF; omega)
 | s :: L,i,h=>by
  unfold cidF at h
  split at h
  ·rename_i e; exact ⟨s,by simp,e⟩
  ·obtain ⟨u,hu,e⟩:=zUe L (i + 1) h; exact ⟨u,by simp [hu],e⟩
theorem ats_mem {L : List SnS} {a : Int} : a ∈ atsS L ↔ ∃ s ∈ L,∃ p ∈ s.tb,p.2 = a:=by
 unfold atsS
 rw [List.mem_flatten]
 constructor
 ·rintro ⟨l,hl,ha⟩
  obtain ⟨s,hs,rfl⟩:=List.mem_map.1 hl
  obtain ⟨p,hp,rfl⟩:=List.mem_map.1 ha
  exact ⟨s,hs,p,hp,rfl⟩
 ·rintro ⟨s,hs,p,hp,rfl⟩
  exact ⟨_,List.mem_map.2 ⟨s,hs,rfl⟩,List.mem_map.2 ⟨p,hp,rfl⟩⟩
theorem zLz {kind b ar : Int} {held : List Int} : ∀ (l pre : List PrS),zEg kind b ar held pre l = true → asc pre →
  asc (pre ++ l) ∧ ∀ x ∈ l,(0 ≤ x.1 ∧ x.1 < b) ∧ (kind = 1 → x.2 ∈ held) ∧ (kind = 2 → x.2 = 255 ∨ (0 ≤ x.2 ∧ x.2 < ar))
 | [],pre,_,ha=>⟨by rw [List.append_nil]; exact ha,fun x hx=>by cases hx⟩
 | x :: l,pre,h,ha=>by
  rw [zEg,Bool.and_eq_true] at h
  obtain ⟨h1,h2⟩:=h
  unfold zLy at h1
  simp only [Bool.and_eq_true,decide_eq_true_eq] at h1
  obtain ⟨q1,q2,q3,q4,q5⟩:=h1
  have lt : ∀ q ∈ pre,q.1 < x.1:=fun q hq=>by
   rcases List.eq_nil_or_concat pre with e | ⟨z,y,e⟩
   ·rw [e] at hq; cases hq
   ·rw [List.concat_eq_append] at e
    have hy : y.1 < x.1:=by
     rw [e,List.getLast?_concat] at q3
     simpa using q3
    rw [e] at hq ha
    rcases List.mem_append.1 hq with hq | hq
    ·have:=(zG6.1 ha).2.2 q hq y (by simp); omega
    ·rw [List.mem_singleton.1 hq]; exact hy
  have ha2 : asc (pre ++ [x]):=zG6.2 ⟨ha,zHy.2 ⟨fun q hq=>(by cases hq),zIx⟩,fun p hp q hq=>by rw [List.mem_singleton.1 hq]; exact lt p hp⟩
  obtain ⟨r1,r2⟩:=zLz l _ h2 ha2
  rw [List.append_assoc] at r1
  refine ⟨r1,fun y hy=>?_⟩
  rcases List.mem_cons.1 hy with rfl | hy
  ·refine ⟨⟨q1,q2⟩,fun hk=>?_,fun hk=>?_⟩
   ·subst hk
    simp only [beq_self_eq_true,Bool.not_true,Bool.false_or] at q4
    exact List.contains_iff_mem.1 q4
   ·subst hk
    simp only [beq_self_eq_true,Bool.not_true,Bool.false_or,Bool.or_eq_true,beq_iff_eq,Bool.and_eq_true,decide_eq_true_eq] at q5
    exact q5.imp_right fun h=>⟨h.1,h.2.1⟩
  ·exact r2 y hy
structure GoodT (b n ar : Int) (S : StS) : Prop where
 dl : (S.dirty.length : Int) = n
 dr : ∀ x ∈ S.dirty,-1 ≤ x ∧ x < b
 sl : S.snaps.length ≤ 8
 sn : GoodC b ar S.snaps
 nx : 1 ≤ S.next ∧ S.next ≤ 1000001
 kd : 0 ≤ S.kind ∧ S.kind ≤ 2
 pd : 0 ≤ S.pid ∧ S.pid ≤ 1000000
 pu : asc S.pairs
 pr : ∀ p ∈ S.pairs,p.1 < b
 pm : ∀ p ∈ S.pairs,zPn p
theorem zDm {b s w ar : Int} {S : StS} (hb : 1 ≤ b ∧ b ≤ 64) (har : ar ≤ 200) (hu : ∀ x ∈ S.snaps,IsU8 x.ch) (h : zCp b s w ar S = true) : GoodT b (s * w) ar S:=by
 unfold zCp at h
 simp only [Bool.and_eq_true,decide_eq_true_eq] at h
 obtain ⟨h1,h2,h3,h4,h5,h6⟩:=h
 unfold zHf at h1
 rw [Bool.and_eq_true,beq_iff_eq] at h1
 obtain ⟨c1,c2⟩:=(zMp hu).1 h2
 unfold zFa at h6
 rw [Bool.and_eq_true] at h6
 obtain ⟨p1,p2⟩:=zLz S.pairs [] h6.1 zIx
 have h7:=h6.2
 unfold zTb at h7
 have hk : (S.kind = 0 ∧ S.pid = 0 ∧ S.pairs = []) ∨ (S.kind = 1 ∧ 0 ≤ S.pid ∧ S.pid ≤ 1000000) ∨ (S.kind = 2 ∧ 0 ≤ S.pid ∧ S.pid ≤ 1000000):=by
  split at h7
  ·rename_i e
   rw [Bool.and_eq_true,beq_iff_eq,List.isEmpty_iff] at h7
   exact .inl ⟨e,h7⟩
  ·split at h7
   ·rename_i e
    rw [decide_eq_true_eq] at h7
    obtain ⟨u,hu',e2⟩:=zUe _ _ h7
    have:=(c2.one u hu').id
    exact .inr (.inl ⟨e,by omega,by omega⟩)
   ·split at h7
    ·rename_i e
     rw [Bool.and_eq_true,Bool.and_eq_true,decide_eq_true_eq,decide_eq_true_eq] at h7
     exact .inr (.inr ⟨e,by omega,by omega⟩)
    ·cases h7
 refine ⟨h1.1,fun x hx=>?_,c1,c2,⟨h3,h4⟩,by omega,by omega,by simpa using p1,fun p hp=>(p2 p hp).1.2,fun p hp=>?_⟩
 ·rcases zJm S.dirty [] h1.2 x hx with h | h
  ·omega
  ·omega
 ·obtain ⟨q1,q2,q3⟩:=p2 p hp
  refine ⟨q1.1,?_⟩
  rcases hk with ⟨_,_,e⟩ | ⟨e,_⟩ | ⟨e,_⟩
  ·rw [e] at hp; cases hp
  ·obtain ⟨u,hu',p',hp',e2⟩:=ats_mem.1 (q2 e)
   have:=((c2.one u hu').tb.rng p' hp').2
   exact .inl (by omega)
  ·rcases q3 e with h | h
   ·exact .inr h
   ·exact .inl (by omega)
theorem zM3 {α : Type} {l m : List α} {n : Nat} (h : l.length = n) : (l ++ m).take n = l:=by rw [← h,List.take_left]
theorem zKr {α : Type} {l m : List α} {n : Nat} (h : l.length = n) : (l ++ m).drop n = m:=by rw [← h,List.drop_left]
theorem zRr {b ar : Int} {L : List SnS} (g : GoodC b ar L) (har : ar ≤ 200) : ∀ s ∈ L,SlotOk b s:=fun s hs=>by
 have o:=g.one s hs
 exact ⟨⟨by have:=o.id.1; omega,o.id.2⟩,(zTn.1 o.ch).1,o.tb.up,fun p hp=>(o.tb.rng p hp).1.2,fun p hp=>⟨(o.tb.rng p hp).1.1,.inl (by have:=(o.tb.rng p hp).2; omega)⟩⟩
theorem zE7 {b n ar : Int} {S : StS} (g : GoodT b n ar S) (har : ar ≤ 200) : (encT b S).length = 10 + n.toNat + 8 * (4 + Bt.newN b + b.toNat) + b.toNat:=by
 obtain ⟨R,_,_,h3⟩:=zF3 8 S.snaps [] (zRr g.sn har) g.sl
 have:=g.dl
 unfold encT
 simp only [List.length_append,zA5,List.length_map,h3,zCi,List.length_cons,List.length_nil]
 omega
theorem zNs {b ar : Int} {S : StS} (g : GoodC b ar S.snaps) : IsU8 (encT b S):=by
 have sl : ∀ s : SnS,IsU8 s.ch → IsU8 (zC3 b s):=fun s h x hx=>by
  unfold zC3 at hx
  rcases List.mem_append.1 hx with h1 | h1
  ·exact zJ9 _ _ x h1
  ·rcases List.mem_append.1 h1 with h1 | h1
   ·exact h x h1
   ·exact zOt _ _ x h1
 have ss : ∀ (k : Nat) (L : List SnS),(∀ s ∈ L,IsU8 s.ch) → IsU8 (zBt b k L):=by
  intro k
  induction k with
  | zero=>intro L _ x hx; cases hx
  | succ k ih =>
   intro L hL x hx
   cases L with
   | nil =>
    rw [zBt] at hx
    rcases List.mem_append.1 hx with h | h
    ·exact sl _ (Bt.rep_u8 _) x h
    ·exact ih [] (fun s hs=>(by cases hs)) x h
   | cons s L =>
    rw [zBt] at hx
    rcases List.mem_append.1 hx with h | h
    ·exact sl _ (hL s (by simp)) x h
    ·exact ih L (fun s hs=>hL s (by simp [hs])) x h
 intro x hx
 unfold encT at hx
 rcases List.mem_append.1 hx with h | hx
 ·exact zJ9 _ _ x h
 rcases List.mem_append.1 hx with h | hx
 ·simp only [List.mem_cons,List.mem_nil_iff,or_false] at h
  rcases h with rfl | rfl <;> exact zM1 _
 rcases List.mem_append.1 hx with h | hx
 ·exact zJ9 _ _ x h
 rcases List.mem_append.1 hx with h | hx
 ·obtain ⟨y,_,rfl⟩:=List.mem_map.1 h; exact zM1 _
 rcases List.mem_append.1 hx with h | hx
 ·exact ss 8 _ (fun s hs=>(g.one s hs).u8) x h
 ·exact zOt _ _ x hx
theorem zJ7 {b n ar : Int} {S : StS} (g : GoodT b n ar S) (hb : b ≤ 64) (har : ar ≤ 200) : rawT n.toNat (Bt.newN b) b.toNat (encT b S) = S:=by
 obtain ⟨R,h1,h2,h3⟩:=zF3 8 S.snaps (zCj b S.pairs) (zRr g.sn har) g.sl
 have dl : S.dirty.length = n.toNat:=by have:=g.dl; omega
 obtain ⟨A,hA⟩ : ∃ A,A = putS 4 (IntKind.u64.wrap S.next):=⟨_,rfl⟩
 obtain ⟨P,hP⟩ : ∃ P,P = putS 4 (IntKind.u64.wrap S.pid):=⟨_,rfl⟩
 obtain ⟨D,hD⟩ : ∃ D,D = S.dirty.map (fun d=>u8w (d + 1)):=⟨_,rfl⟩
 obtain ⟨Z,hZ⟩ : ∃ Z,Z = zBt b 8 S.snaps:=⟨_,rfl⟩
 have lA : A.length = 4:=by rw [hA]; exact zA5 4 _
 have lP : P.length = 4:=by rw [hP]; exact zA5 4 _
 have lD : D.length = n.toNat:=by rw [hD,List.length_map]; exact dl
 have lZ : Z.length = 8 * (4 + Bt.newN b + b.toNat):=by rw [hZ]; exact h3
 have e : encT b S = A ++ ([u8w S.snaps.length,u8w S.kind] ++ (P ++ (D ++ (Z ++ zCj b S.pairs)))):=by rw [hA,hP,hD,hZ]; rfl
 have d4 : (encT b S).drop 4 = [u8w S.snaps.length,u8w S.kind] ++ (P ++ (D ++ (Z ++ zCj b S.pairs))):=by rw [e]; exact zKr lA
 have d6 : (encT b S).drop 6 = P ++ (D ++ (Z ++ zCj b S.pairs)):=by
  rw [show (6 : Nat) = 4 + 2 from rfl,← List.drop_drop,d4]; rfl
 have d10 : (encT b S).drop 10 = D ++ (Z ++ zCj b S.pairs):=by
  rw [show (10 : Nat) = 6 + 4 from rfl,← List.drop_drop,d6]; exact zKr lP
 have dn : (encT b S).drop (10 + n.toNat) = Z ++ zCj b S.pairs:=by
  rw [← List.drop_drop,d10]; exact zKr lD
 have dz : (encT b S).drop (10 + n.toNat + 8 * (4 + Bt.newN b + b.toNat)) = zCj b S.pairs:=by
  rw [← List.drop_drop,dn]; exact zKr lZ
 have t4 : (encT b S).take 4 = A:=by rw [e]; exact zM3 lA
 have i4 : (encT b S)[4]? = some (u8w S.snaps.length):=by
  have:=congrArg (fun l : List Int=>l[0]?) d4
  simpa using this
 have i5 : (encT b S)[5]? = some (u8w S.kind):=by
  have:=congrArg (fun l : List Int=>l[1]?) d4
  simpa using this
 unfold rawT
 rw [d10,dn,dz,t4,d6,i4,i5,zM3 lD,zM3 lP]
 have sl:=g.sl
 have w1:=zBv (n:=S.next) (by have:=g.nx; omega) (by have:=g.nx; omega)
 have w2:=zBv (n:=S.pid) g.pd.1 (by have:=g.pd; omega)
 have u1:=zK7 (n:=(S.snaps.length : Int)) (by omega)
 have u2:=zK7 (n:=S.kind) (by have:=g.kd; omega)
 have eD : D.map (· - 1) = S.dirty:=by
  rw [hD,List.map_map]
  conv=>rhs; rw [← List.map_id S.dirty]
  refine List.map_congr_left fun x hx=>?_
  have:=g.dr x hx
  show u8w (x + 1) - 1 = x
  rw [zK7 (by omega)]; omega
 have eM : (zCj b S.pairs).take b.toNat = zCj b S.pairs:=List.take_of_length_le (by rw [zCi]; exact Nat.le_refl _)
 rw [eD,hZ,h1,Option.getD_some,Option.getD_some,u1,u2,Int.toNat_natCast,List.take_left,hA,hP,w1,w2,zHs 4 S.next (by have:=g.nx; omega) (by have:=g.nx; omega),zHs 4 S.pid g.pd.1 (by have:=g.pd; omega),eM,zOd g.pu g.pr g.pm]
theorem enc_inj {b n ar : Int} {S T : StS} (g : GoodT b n ar S) (g' : GoodT b n ar T) (hb : b ≤ 64) (har : ar ≤ 200) : encT b S = encT b T ↔ S = T:=by
 constructor
 ·intro e
  have h1:=zJ7 g hb har
  have h2:=zJ7 g' hb har
  rw [e] at h1
  exact h1.symm.trans h2
 ·intro e; rw [e]
end Go.Proofs.Ythgflkfhjnbheaa.G14
end
section
namespace Go.Proofs.Ythgflkfhjnbheaa.G14
open Go Go.Proofs.Ythgflkfhjnbheaa.Eng
end Go.Proofs.Ythgflkfhjnbheaa.G14
end
section
namespace Go.Proofs.Ythgflkfhjnbheaa.G14
open Go Go.Proofs.Ythgflkfhjnbheaa.Eng
theorem IS.cell {H : zAc} {v : AV} {zs : List Int} (g : IS H v zs) : zA0 v = some [v] ∧ v.isCell = true:=by
 rcases g with ⟨rfl,rfl⟩ | ⟨b,o,l,e,cs,rfl,hc,_⟩ <;> exact ⟨rfl,rfl⟩
theorem IS.lt {H : zAc} {v : AV} {zs : List Int} (g : IS H v zs) : ∀ b,slb v = some b → b < H.length:=by
 rcases g with ⟨rfl,rfl⟩ | ⟨b,o,l,e,cs,rfl,hc,_⟩
 ·intro b h; cases h
 ·intro b' h; injection h with h; subst h; exact zCc hc
theorem IS.frS {H H' : zAc} {F : Nat → Prop} {v : AV} {zs : List Int} (g : IS H v zs) (a : Fr H H' F) (n : ∀ b,slb v = some b → ¬ F b) : IS H' v zs:=by
 rcases g with h | ⟨b,o,l,e,cs,rfl,hc,h⟩
 ·exact .inl h
 ·exact .inr ⟨b,o,l,e,cs,rfl,a.cells hc (n b rfl),h⟩
theorem FS.is {H : zAc} {B : Nat} {v : AV} {zs : List Int} (g : FS H B v zs) : IS H v zs:=GR.is g
section
variable {H : zAc} {v : AV} {zs : List Int} (g : IS H v zs) (hl : zs.length ≤ 1000000000) (x : Int)
include g hl
set_option maxHeartbeats 4000000 in
theorem indexL2 (x2 x3 x6 : AV) : ∀ (k i : Nat) (j5 j9 j10 j11 j12 j13 j14 j15 j16 j17 j18 : AV),i + k = zs.length →
  Outs (LP1 l92x0 [v,.int .i64 x,x2,x3,.int .i64 0,j5,x6,.int .i64 (zs.length : Int),.int .i64 (i : Int),j9,j10,j11,j12,j13,j14,j15,j16,j17,j18] H) fun e t K=>K = H ∧ ∃ fv : Nat → AV,t = [v,.int .i64 x,x2,x3,(fv 4),(fv 5),x6,.int .i64 (zs.length : Int),(fv 8),(fv 9),(fv 10),(fv 11),(fv 12),(fv 13),(fv 14),(fv 15),(fv 16),(fv 17),(fv 18)] ∧ ((e = .exit 0 ∧ idxI x i (zs.drop i) = -1) ∨ (e = .ret ∧ fv 4 = .int .i64 (idxI x i (zs.drop i)))):=by
 intro k
 obtain ⟨L0,hL0⟩ : ∃ L,L = LP1 l92x0:=⟨_,rfl⟩
 have lo:=zAp hL0
 rw [← hL0]
 induction k with
 | zero =>
  intro i j5 j9 j10 j11 j12 j13 j14 j15 j16 j17 j18 hi
  obtain rfl : i = zs.length:=by omega
  have hd : decide ((zs.length : Int) < (zs.length : Int)) = false:=by simp
  rw [List.drop_length,lo]
  unfold l92x0
  simp -implicitDefEqProofs (maxSteps:=5000000) only [go_sem,simprocAttr,hd,zAg,zAb]
  exact exF2 rfl (.inl rfl)
 | succ k ih =>
  intro i j5 j9 j10 j11 j12 j13 j14 j15 j16 j17 j18 hi
  have hlt : i < zs.length:=by omega
  have hd : decide ((i : Int) < (zs.length : Int)) = true:=decide_eq_true (by omega)
  have e2 : IntKind.i64.wrap ((i : Int) + 1) = ((i + 1 : Nat) : Int):=by rw [zAk (by omega) (by omega)]; omega
  have hx:=List.getElem?_eq_getElem hlt
  rw [List.drop_eq_getElem_cons hlt]
  generalize zs[i] = z at *
  obtain ⟨a,ix,ld⟩:=g.idx hx .i64
  rw [lo]
  unfold l92x0
  by_cases h : x = z
  ·have hb : (x == z) = true:=by simp [h]
   rw [idxI,if_pos h]
   simp -implicitDefEqProofs (maxSteps:=5000000) only [go_sem,simprocAttr,itr,itq,hd,ix,ld,hb,zAj,zAb]
   exact exF2 rfl (.inr rfl)
  ·have hb : (x == z) = false:=by simp [h]
   rw [idxI,if_neg h]
   simp -implicitDefEqProofs (maxSteps:=5000000) only [go_sem,simprocAttr,itr,itq,hd,ix,ld,hb,e2]
   exact ih (i + 1) _ _ _ _ _ _ _ _ _ _ _ (by omega)
theorem sindexC2 : (envL prog).call 92 [v,.int .i64 x] H = some (.int .i64 (idxI x 0 zs),H):=by
 have l0:=indexL2 g hl x (k:=zs.length) (i:=0)
 rw [show ((0 : Nat) : Int) = 0 from rfl,List.drop_zero] at l0
 have wl:=g.len
 have key : Outs (runC (envL prog) (b92 (envL prog)) ([v,.int .i64 x] ++ List.replicate (19 - [v,AV.int .i64 x].length) .undef) H) fun e' t K=>K = H ∧ fin [.tmp 4] (some (e',t,K)) = some (.int .i64 (idxI x 0 zs),K):=by
  unfold b92
  generalize hQ : (fun (e' : Ex) (t : T) (K : zAc)=>K = H ∧ fin [.tmp 4] (some (e',t,K)) = some (AV.int .i64 (idxI x 0 zs),K)) = Q
  simp -implicitDefEqProofs (maxSteps:=5000000) only [go_sem,simprocAttr,itr,itq,zAi,wl]
  unfold LP1 at l0
  generalize (envL prog).loop (runC (envL prog) (l92x0 (envL prog))) = L0 at l0 ⊢
  refine zAq (fun r=>seqR (zAt 0 r) _) (l0 _ _ _ _ _ _ _ _ _ _ _ _ _ _ (by omega)) ?_
  rintro e t K ⟨rfl,fv,rfl,⟨rfl,ho⟩ | ⟨rfl,f4⟩⟩
  ·simp -implicitDefEqProofs (maxSteps:=5000000) only [go_sem,simprocAttr,zAb]
   subst hQ
   rw [ho]
   refine ⟨rfl,?_⟩
   simp -implicitDefEqProofs (maxSteps:=5000000) only [go_sem,simprocAttr]
  ·simp -implicitDefEqProofs (maxSteps:=5000000) only [go_sem,simprocAttr,zAb]
   subst hQ
   refine ⟨rfl,?_⟩
   simp -implicitDefEqProofs (maxSteps:=5000000) only [go_sem,simprocAttr,f4]
 obtain ⟨e',t,K,hr,rfl,hf⟩:=key
 rw [c92,hr,hf]; exact zBo rfl
theorem zE8 : (envL prog).call 75 [v,.int .i64 x] H = some (.bool (zs.contains x),H):=by
 have ei:=sindexC2 g hl x
 have ed:=zKf x zs 0
 rw [c75]
 unfold b75
 simp -implicitDefEqProofs (maxSteps:=5000000) only [go_sem,simprocAttr,itr,itq,ei,ed]
theorem IS.take {i : Nat} (hi : i ≤ zs.length) (ok : zFw v) : ∃ w,zB3 1 v none (some (.int .i64 (i : Int))) none = some w ∧ IS H w (zs.take i):=by
 rcases g with ⟨rfl,rfl⟩ | ⟨b,o,l,e,cs,rfl,hc,hg,hle⟩
 ·obtain rfl : i = 0:=by simpa using hi
  exact ⟨.nilSl,rfl,.inl ⟨rfl,rfl⟩⟩
 ·refine ⟨.sl b o 1 i l e,?_,.inr ⟨b,o,l,e,cs,by rw [List.length_take,Nat.min_eq_left hi],hc,fun j z hz=>?_,by rw [List.length_take]; omega⟩⟩
  ·unfold zB3 asI
   have:=ok _ _ _ _ _ _ rfl
   simp only [ne_eq,not_true,if_false,Option.bind_some,Int.toNat_natCast,Option.map_some,Option.getD_some,Option.getD_none]
   rw [if_pos ⟨by omega,by omega,by omega⟩]
   simp
  ·rw [List.getElem?_take] at hz
   split at hz
   ·exact hg j z hz
   ·cases hz
end
theorem and32 : ∀ n : Nat,n ≤ 100 → binV .and .none (.int .u64 (n : Int)) (.int .u64 4294967295) = some (.int .u64 (n : Int)):=by
 have : ∀ n : Fin 101,IntKind.u64.wrap ((BitVec.ofInt 64 ((n : Nat) : Int) &&& BitVec.ofInt 64 4294967295).toNat : Int) = ((n : Nat) : Int):=by decide +kernel
 intro n h
 show some (AV.int .u64 (IntKind.u64.wrap ((BitVec.ofInt 64 (n : Int) &&& BitVec.ofInt 64 4294967295).toNat : Int))) = _
 rw [this ⟨n,by omega⟩]
theorem shr32 : ∀ n : Nat,n ≤ 100 → binV .shr .none (.int .u64 (n : Int)) (.int .u64 32) = some (.int .u64 0):=by
 intro n h
 show (if (32 : Int) < 0 then none else some (AV.int .u64 ((n : Int).fdiv (2 ^ min (Int.toNat 32) 64)))) = _
 rw [if_neg (by omega),show ((2 : Int) ^ min (Int.toNat 32) 64) = 4294967296 from rfl,Int.fdiv_eq_ediv_of_nonneg _ (by omega),Int.ediv_eq_zero_of_lt (by omega) (by omega)]
theorem mulC {n : Nat} (hn : n ≤ 100) (H : zAc) : (envL prog).call 74 [.int .u64 1,.int .u64 (n : Int)] H = some (.tup [.int .u64 0,.int .u64 (n : Int)],H):=by
 have a1:=and32 1 (by omega)
 have a0:=and32 0 (by omega)
 have an:=and32 n hn
 have s1:=shr32 1 (by omega)
 have s0:=shr32 0 (by omega)
 have sn:=shr32 n hn
 have w : IntKind.u64.wrap (n : Int) = (n : Int):=zBv (by omega) (by omega)
 rw [show ((1 : Nat) : Int) = 1 from rfl] at a1 s1
 rw [show ((0 : Nat) : Int) = 0 from rfl] at a0 s0
 have w0 : IntKind.u64.wrap 0 = 0:=by decide
 have e : (envL prog).call 91 [.int .u64 1,.int .u64 (n : Int)] H = some (.tup [.int .u64 0,.int .u64 (n : Int)],H):=by
  rw [c91]
  unfold b91
  simp -implicitDefEqProofs (maxSteps:=5000000) only [go_sem,simprocAttr,a1,a0,an,s1,s0,sn,w,w0,Int.one_mul,Int.zero_mul,Int.add_zero,Int.zero_add,Int.mul_zero]
 rw [c74]
 unfold b74
 simp -implicitDefEqProofs (maxSteps:=5000000) only [go_sem,simprocAttr,e]
end Go.Proofs.Ythgflkfhjnbheaa.G14
end
section
namespace Go.Proofs.Ythgflkfhjnbheaa.G14
open Go Go.Proofs.Ythgflkfhjnbheaa.Eng
theorem zP5 {n m : Nat} (hm : m < n) : zCg (i64s (List.replicate m (-1) ++ List.replicate (n - m) 0)) m (i64s (List.replicate (min m (n - m)) (-1))) = i64s (List.replicate (m + min m (n - m)) (-1) ++ List.replicate (n - (m + min m (n - m))) 0):=by
 unfold i64s
 have e : (List.replicate m (-1 : Int) ++ List.replicate (n - m) 0).map (AV.int .i64) = List.replicate m (AV.int .i64 (-1)) ++ List.replicate (n - m) (AV.int .i64 0):=by simp
 rw [e]
 have:=zLc (List.replicate m (AV.int .i64 (-1))) (List.replicate (n - m) (AV.int .i64 0)) ((List.replicate (min m (n - m)) (-1)).map (AV.int .i64)) (by simp; omega)
 rw [List.length_replicate] at this
 rw [this]
 simp only [List.map_append,List.map_replicate,List.length_replicate,List.drop_replicate,List.replicate_append_replicate]
 congr 2; omega
noncomputable abbrev mixB (n m : Nat) : ABlk:=.rw (i64s (List.replicate m (-1) ++ List.replicate (n - m) 0))
theorem mix_copy {H : zAc} {n m : Nat} (h1 : 1 ≤ m) (hm : m < n) : zKt (ty 1 false 8 [.int .i64 0]) (.sl H.length m 1 (n - m) (n - m) true) (.sl H.length 0 1 m n true) (H ++ [mixB n m]) = some (.int .i64 ((min m (n - m) : Nat) : Int),H ++ [mixB n (m + min m (n - m))]):=by
 have hk : (H ++ [mixB n m])[H.length]? = some (mixB n m):=by simp
 have ll : (i64s (List.replicate m (-1) ++ List.replicate (n - m) 0)).length = n:=by rw [zC9]; simp; omega
 have rd:=zNc hk (off:=0) (n:=min m (n - m) * 1) (by rw [ll]; omega)
 have es : ((i64s (List.replicate m (-1) ++ List.replicate (n - m) 0)).drop 0).take (min m (n - m) * 1) = i64s (List.replicate (min m (n - m)) (-1)):=by
  unfold i64s
  rw [List.drop_zero,Nat.mul_one,← List.map_take,List.take_append_of_le_length (by simp; omega),List.take_replicate]
  congr 2; omega
 rw [es] at rd
 rw [zT1 (d:=ty 1 false 8 [.int .i64 0]) (sz:=1) rfl (by decide) hk (by omega) rd (by rw [zC9,ll]; simp; omega) (zL5 _),zP5 hm]
 congr 2
 simp
set_option maxHeartbeats 4000000 in
theorem repL {H : zAc} {n : Nat} (hn : n ≤ 100) (x0 x1 x2 x3 x4 x5 x6 x9 x10 x11 x12 x13 x14 x15 x16 x17 x18 x19 x20 x21 x22 x23 x24 x25 x26 x27 x28 x29 x30 x31 x32 x33 x47 : AV) : ∀ (k m : Nat) (j34 j35 j36 j37 j38 j39 j40 j41 j42 j43 j44 j45 j46 : AV),1 ≤ m → m ≤ n → n ≤ m + k →
  Outs (LP1 l44x0 [x0,x1,x2,x3,x4,x5,x6,.sl H.length 0 1 n n true,.int .i64 (m : Int),x9,x10,x11,x12,x13,x14,x15,x16,x17,x18,x19,x20,x21,x22,x23,x24,x25,x26,x27,x28,x29,x30,x31,x32,x33,j34,j35,j36,j37,j38,j39,j40,j41,j42,j43,j44,j45,j46,x47] (H ++ [mixB n m])) fun e t K=>e = .exit 0 ∧ K = H ++ [mixB n n] ∧ ∃ fv : Nat → AV,t = [x0,x1,x2,x3,x4,x5,x6,.sl H.length 0 1 n n true,(fv 8),x9,x10,x11,x12,x13,x14,x15,x16,x17,x18,x19,x20,x21,x22,x23,x24,x25,x26,x27,x28,x29,x30,x31,x32,x33,(fv 34),(fv 35),(fv 36),(fv 37),(fv 38),(fv 39),(fv 40),(fv 41),(fv 42),(fv 43),(fv 44),(fv 45),(fv 46),x47]:=by
 intro k
 obtain ⟨L0,hL0⟩ : ∃ L,L = LP1 l44x0:=⟨_,rfl⟩
 have lo:=zAp hL0
 rw [← hL0]
 induction k with
 | zero =>
  intro m j34 j35 j36 j37 j38 j39 j40 j41 j42 j43 j44 j45 j46 h1 h2 h3
  obtain rfl : m = n:=by omega
  have hd : decide ((m : Int) < (m : Int)) = false:=by simp
  rw [lo]
  unfold l44x0
  simp -implicitDefEqProofs (maxSteps:=5000000) only [go_sem,simprocAttr,hd,zAg,zAb]
  exact exF rfl
 | succ k ih =>
  intro m j34 j35 j36 j37 j38 j39 j40 j41 j42 j43 j44 j45 j46 h1 h2 h3
  by_cases hm : m = n
  ·subst hm
   have hd : decide ((m : Int) < (m : Int)) = false:=by simp
   rw [lo]
   unfold l44x0
   simp -implicitDefEqProofs (maxSteps:=5000000) only [go_sem,simprocAttr,hd,zAg,zAb]
   exact exF rfl
  ·have hlt : m < n:=by omega
   have hd : decide ((m : Int) < (n : Int)) = true:=decide_eq_true (by omega)
   have cp:=mix_copy (H:=H) h1 hlt
   have q1:=zRs (sz:=1) (b:=H.length) (off:=0) (len:=n) (cp:=n) (ex:=true) (i:=m) (by omega) (Nat.le_refl _)
   have q2:=sl_to (sz:=1) (b:=H.length) (off:=0) (len:=n) (cp:=n) (ex:=true) (u:=m) (by omega)
   rw [Nat.mul_one,Nat.zero_add] at q1
   obtain ⟨m',hm'⟩ : ∃ m',m' = m + min m (n - m):=⟨_,rfl⟩
   have e2 : IntKind.i64.wrap ((m : Int) + ((min m (n - m) : Nat) : Int)) = ((m' : Nat) : Int):=by rw [zAk (by omega) (by omega)]; omega
   rw [← hm'] at cp
   have key:=ih m'
   rw [lo]
   unfold l44x0
   simp -implicitDefEqProofs (maxSteps:=5000000) only [go_sem,simprocAttr,itr,itq,hd,q1,q2,cp,e2]
   exact key _ _ _ _ _ _ _ _ _ _ _ _ _ (by omega) (by omega) (by omega)
theorem repeatC {H : zAc} {a n : Nat} (ha : H[a]? = some (.rw [.int .i64 (-1)])) (n1 : 1 ≤ n) (hn : n ≤ 100) : (envL prog).call 44 [.sl a 0 1 1 1 true,.int .i64 (n : Int)] H = some (.sl H.length 0 1 n n true,H ++ [.rw (i64s (List.replicate n (-1)))]):=by
 have d0 : decide ((n : Int) < 0) = false:=decide_eq_false (by omega)
 have w : IntKind.u64.wrap (n : Int) = (n : Int):=zBv (by omega) (by omega)
 have w1 : IntKind.u64.wrap 1 = 1:=by decide
 have wi : IntKind.i64.wrap (n : Int) = (n : Int):=zAk (by omega) (by omega)
 have em:=mulC hn H
 have dz : decide ((0 : Int) > 0) = false:=rfl
 have dm : decide ((n : Int) > 9223372036854775807) = false:=decide_eq_false (by omega)
 have mk:=zIf 1 8 n false [.int .i64 0] (by omega) (by omega) (by unfold roomy; omega) H
 have mk : zBy (ty 1 false 8 [.int .i64 0]) (.int .i64 (n : Int)) (.int .i64 (n : Int)) H = some (.sl H.length 0 1 n n true,H ++ [.rw (i64s (List.replicate n 0))]):=by
  rw [mk]; unfold i64s; simp [List.map_replicate]
 have la:=zA8 ha
 have cp : zKt (ty 1 false 8 [.int .i64 0]) (.sl H.length 0 1 n n true) (.sl a 0 1 1 1 true) (H ++ [.rw (i64s (List.replicate n 0))]) = some (.int .i64 1,H ++ [mixB n 1]):=by
  have hk : (H ++ [ABlk.rw (i64s (List.replicate n 0))])[H.length]? = some (.rw (i64s (List.replicate n 0))):=by simp
  have ha2 : (H ++ [ABlk.rw (i64s (List.replicate n 0))])[a]? = some (.rw [.int .i64 (-1)]):=by rw [List.getElem?_append_left la]; exact ha
  have rd:=zNc ha2 (off:=0) (n:=min 1 n * 1) (by simp; omega)
  rw [show ([AV.int .i64 (-1)].drop 0).take (min 1 n * 1) = [.int .i64 (-1)] by rw [Nat.min_eq_left n1]; rfl] at rd
  rw [zT1 (d:=ty 1 false 8 [.int .i64 0]) (sz:=1) rfl (by decide) hk (by omega) rd (by rw [zC9]; simp; omega) rfl,Nat.min_eq_left n1]
  congr 2
  obtain ⟨k,rfl⟩ : ∃ k,n = k + 1:=⟨n - 1,by omega⟩
  simp [i64s,zBw,List.replicate_succ]
 have l0:=repL (H:=H) hn (k:=n) (m:=1)
 rw [show ((1 : Nat) : Int) = 1 from rfl] at l0
 have key : Outs (runC (envL prog) (b44 (envL prog)) ([.sl a 0 1 1 1 true,.int .i64 (n : Int)] ++ List.replicate (48 - [AV.sl a 0 1 1 1 true,.int .i64 (n : Int)].length) .undef) H) fun e' t K=>K = H ++ [mixB n n] ∧ fin [.tmp 4] (some (e',t,K)) = some (.sl H.length 0 1 n n true,K):=by
  unfold b44
  generalize hQ : (fun (e' : Ex) (t : T) (K : zAc)=>K = H ++ [mixB n n] ∧ fin [.tmp 4] (some (e',t,K)) = some (AV.sl H.length 0 1 n n true,K)) = Q
  simp -implicitDefEqProofs (maxSteps:=5000000) only [go_sem,simprocAttr,itr,itq,zAi,d0,w,w1,em,dz,dm,wi,mk,cp]
  unfold LP1 at l0
  generalize (envL prog).loop (runC (envL prog) (l44x0 (envL prog))) = L0 at l0 ⊢
  refine zAq (fun r=>seqR (zAt 0 r) _) (l0 _ _ _ _ _ _ _ _ _ _ _ _ _ _ _ _ _ _ _ _ _ _ _ _ _ _ _ _ _ _ _ _ _ _ _ _ _ _ _ _ _ _ _ _ _ _ (by omega) (by omega) (by omega)) ?_
  rintro e t K ⟨rfl,rfl,fv,rfl⟩
  simp -implicitDefEqProofs (maxSteps:=5000000) only [go_sem,simprocAttr,zAb]
  subst hQ
  refine ⟨rfl,?_⟩
  simp -implicitDefEqProofs (maxSteps:=5000000) only [go_sem,simprocAttr]
 obtain ⟨e',t,K,hr,rfl,hf⟩:=key
 rw [c44,hr,hf]
 have : mixB n n = .rw (i64s (List.replicate n (-1))):=by unfold mixB; rw [Nat.sub_self]; simp
 rw [this]
 exact zA6 (by simp [AV.under])
end Go.Proofs.Ythgflkfhjnbheaa.G14
end
section
namespace Go.Proofs.Ythgflkfhjnbheaa.G14
open Go Go.Proofs.Ythgflkfhjnbheaa.Eng
structure Geo (b s w a : Int) : Prop where
 b1 : 1 ≤ b ∧ b ≤ 64
 s1 : 1 ≤ s ∧ s ≤ 8
 w1 : 1 ≤ w ∧ w ≤ 4
 a1 : 0 ≤ a ∧ a ≤ 200
theorem zDb {b s w a r : Int} (h : Gm.goodB b s w a r = true) : Geo b s w a:=by
 unfold Gm.goodB Gm.shapeB Gm.btw at h
 simp only [Bool.and_eq_true,decide_eq_true_eq] at h
 obtain ⟨⟨⟨⟨h1,h2⟩,h3⟩,h4⟩,_⟩:=h
 exact ⟨by omega,by omega,by omega,by omega⟩
theorem Geo.sw {b s w a : Int} (g : Geo b s w a) : ∃ n : Nat,s * w = n ∧ 1 ≤ n ∧ n ≤ 32:=by
 obtain ⟨_,⟨h1,h2⟩,⟨h3,h4⟩,_⟩:=g
 have e1 : s * w ≤ 8 * 4:=Int.mul_le_mul h2 h4 (by omega) (by omega)
 have e2 : 1 * 1 ≤ s * w:=Int.mul_le_mul h1 h3 (by omega) (by omega)
 exact ⟨(s * w).toNat,by omega,by omega,by omega⟩
def z6 : List AV:=[.nilSl,.nilSl,.int .i64 0,.int .i64 0,.int .i64 0,.nilSl]
section
variable (b s w a r : Int) (H : zAc)
set_option maxHeartbeats 4000000 in
theorem firstBad (hg : Gm.goodB b s w a r = false) : (envL prog).call 13 [Gm.geo b s w a r] H = some (.tup [.agg [.nilSl,.nilSl,.int .i64 0,.int .i64 0,.int .i64 0,.nilSl],.int .i64 1],H):=by
 have eg:=Gm.goodL b s w a r
 unfold Gm.geo at eg ⊢
 rw [hg] at eg
 rw [c13]
 unfold b13
 simp -implicitDefEqProofs (maxSteps:=5000000) only [go_sem,simprocAttr,itr,itq,eg]
set_option maxHeartbeats 4000000 in
theorem firstC (hg : Gm.goodB b s w a r = true) : ∃ v K,(envL prog).call 13 [Gm.geo b s w a r] H = some (.tup [.agg [v,.nilSl,.int .i64 1,.int .i64 0,.int .i64 0,.nilSl],.int .i64 0],K) ∧ Adds H K ∧ IS K v (List.replicate (s * w).toNat (-1)):=by
 have eg:=Gm.goodL b s w a r
 unfold Gm.geo at eg ⊢
 rw [hg] at eg
 obtain ⟨n,hn,n1,n2⟩:=(zDb hg).sw
 have wm : IntKind.i64.wrap (s * w) = (n : Int):=by rw [zAk (by omega) (by omega)]; exact hn
 rw [hn,Int.toNat_natCast]
 have key : Outs (runC (envL prog) (b13 (envL prog)) ([AV.agg [.int .i64 b,.int .i64 s,.int .i64 w,.int .i64 a,.int .i64 r]] ++ List.replicate (16 - [AV.agg [.int .i64 b,.int .i64 s,.int .i64 w,.int .i64 a,.int .i64 r]].length) .undef) H) fun e' t K=>∃ v,Adds H K ∧ IS K v (List.replicate n (-1)) ∧ (∀ x,slb v = some x → H.length ≤ x) ∧ v.under H.length = false ∧ fin [.cell 2 6 true,.tmp 3] (some (e',t,K)) = some (.tup [.agg [v,.nilSl,.int .i64 1,.int .i64 0,.int .i64 0,.nilSl],.int .i64 0],K):=by
  unfold b13
  generalize hQ : (fun (e' : Ex) (t : T) (K : zAc)=>∃ v,Adds H K ∧ IS K v (List.replicate n (-1)) ∧ (∀ x,slb v = some x → H.length ≤ x) ∧ v.under H.length = false ∧ fin [.cell 2 6 true,.tmp 3] (some (e',t,K)) = some (.tup [.agg [v,.nilSl,.int .i64 1,.int .i64 0,.int .i64 0,.nilSl],.int .i64 0],K)) = Q
  obtain ⟨H1,hH1⟩ : ∃ H1,H1 = H ++ [ABlk.rw [.int .i64 b,.int .i64 s,.int .i64 w,.int .i64 a,.int .i64 r],.rw [.nilSl,.nilSl,.int .i64 0,.int .i64 0,.int .i64 0,.nilSl],.rw [.int .i64 (-1)]]:=⟨_,rfl⟩
  have er:=repeatC (H:=H1) (a:=H.length + 2) (n:=n) (by rw [hH1]; simp) n1 (by omega)
  have l1 : H1.length = H.length + 3:=by rw [hH1]; simp
  have b1 : H1[H.length + 1]? = some (.rw [.nilSl,.nilSl,.int .i64 0,.int .i64 0,.int .i64 0,.nilSl]):=by rw [hH1]; simp
  have c0 : cellsOf H1 H.length = some [.int .i64 b,.int .i64 s,.int .i64 w,.int .i64 a,.int .i64 r]:=by rw [hH1]; unfold cellsOf; simp
  obtain ⟨H2,hH2⟩ : ∃ H2,H2 = H1 ++ [ABlk.rw (i64s (List.replicate n (-1)))]:=⟨_,rfl⟩
  rw [← hH2] at er
  have b2 : H2[H.length + 1]? = some (.rw [.nilSl,.nilSl,.int .i64 0,.int .i64 0,.int .i64 0,.nilSl]):=by rw [hH2,List.getElem?_append_left (by omega)]; exact b1
  have l2 : H2.length = H.length + 4:=by rw [hH2]; simp [l1]
  have wr : zA3 H2 (H.length + 1) 0 [.sl H1.length 0 1 n n true,.nilSl,.int .i64 1,.int .i64 0,.int .i64 0,.nilSl] = some (H2.set (H.length + 1) (.rw [.sl H1.length 0 1 n n true,.nilSl,.int .i64 1,.int .i64 0,.int .i64 0,.nilSl])):=by
   rw [zA2 b2,if_pos ⟨by simp,rfl⟩]; rfl
  have ce : cellsOf (H2.set (H.length + 1) (.rw [.sl H1.length 0 1 n n true,.nilSl,.int .i64 1,.int .i64 0,.int .i64 0,.nilSl])) (H.length + 1) = some [.sl H1.length 0 1 n n true,.nilSl,.int .i64 1,.int .i64 0,.int .i64 0,.nilSl]:=zAl (zBe _ _ _ (by omega))
  have aK : Adds H (H2.set (H.length + 1) (.rw [.sl H1.length 0 1 n n true,.nilSl,.int .i64 1,.int .i64 0,.int .i64 0,.nilSl])):=Adds.of_get (by simp; omega) fun x hx=>by
   rw [zAn _ _ _ _ (by omega),hH2,List.getElem?_append_left (by omega),hH1,List.getElem?_append_left (by omega)]
  have iv : IS (H2.set (H.length + 1) (.rw [.sl H1.length 0 1 n n true,.nilSl,.int .i64 1,.int .i64 0,.int .i64 0,.nilSl])) (.sl H1.length 0 1 n n true) (List.replicate n (-1)):=by
   have:=IS.block (H:=H2.set (H.length + 1) (.rw [.sl H1.length 0 1 n n true,.nilSl,.int .i64 1,.int .i64 0,.int .i64 0,.nilSl])) (b:=H1.length) (zs:=List.replicate n (-1)) (l:=n) (e:=true) (by rw [zAn _ _ _ _ (by omega),hH2]; simp)
   rwa [List.length_replicate] at this
  have hH1:=hH1.symm
  simp -implicitDefEqProofs (maxSteps:=5000000) only [go_sem,simprocAttr,itr,itq,eg,hH1,c0,wm,er,wr,zAb]
  subst hQ
  refine ⟨_,aK,iv,fun x hx=>by injection hx with hx; omega,by simp [AV.under]; omega,?_⟩
  simp -implicitDefEqProofs (maxSteps:=5000000) only [go_sem,simprocAttr,itr,itq,ce]
 obtain ⟨e',t,K,hr,v,aK,bs,wb,vu,hf⟩:=key
 refine ⟨v,K,?_,aK,bs⟩
 rw [c13,hr,hf]
 exact zA6 (by simp [AV.under,zBc,vu])
set_option maxHeartbeats 4000000 in
theorem rfirstL {K0 : zAc} {n q p : Nat} (hn : n ≤ 100) (wm : IntKind.i64.wrap (s * w) = (n : Int)) (hq : cellsOf K0 q = some [.int .i64 b,.int .i64 s,.int .i64 w,.int .i64 a,.int .i64 r]) (hp : p < K0.length) (hqp : q ≠ p) (x0 x2 x3 x6 x7 x8 x9 x10 x25 : AV) : ∀ (m i : Nat) (K : zAc) (u : AV) (j11 j12 j13 j14 j15 j16 j17 j18 j19 j20 j21 j22 j23 j24 : AV),Fr K0 K (· = p) → K[p]? = some (.rw [u,.nilSl,.int .i64 1,.int .i64 0,.int .i64 0,.nilSl]) → FS K K0.length u (List.replicate i (-1)) → i + m = n →
  Outs (LP1 l14x0 [x0,.ptr q 0,x2,x3,.ptr p 0,.int .i64 (i : Int),x6,x7,x8,x9,x10,j11,j12,j13,j14,j15,j16,j17,j18,j19,j20,j21,j22,j23,j24,x25] K) fun e t K'=>e = .exit 0 ∧ (∃ u,Fr K0 K' (· = p) ∧ K'[p]? = some (.rw [u,.nilSl,.int .i64 1,.int .i64 0,.int .i64 0,.nilSl]) ∧ FS K' K0.length u (List.replicate n (-1))) ∧ ∃ fv : Nat → AV,t = [x0,.ptr q 0,x2,x3,.ptr p 0,(fv 5),x6,x7,x8,x9,x10,(fv 11),(fv 12),(fv 13),(fv 14),(fv 15),(fv 16),(fv 17),(fv 18),(fv 19),(fv 20),(fv 21),(fv 22),(fv 23),(fv 24),x25]:=by
 intro m
 obtain ⟨L0,hL0⟩ : ∃ L,L = LP1 l14x0:=⟨_,rfl⟩
 have lo:=zAp hL0
 rw [← hL0]
 induction m with
 | zero =>
  intro i K u j11 j12 j13 j14 j15 j16 j17 j18 j19 j20 j21 j22 j23 j24 aK hb g hi
  obtain rfl : i = n:=by omega
  have hd : decide ((i : Int) < (i : Int)) = false:=by simp
  have cq:=aK.cells hq hqp
  rw [lo]
  unfold l14x0
  simp -implicitDefEqProofs (maxSteps:=5000000) only [go_sem,simprocAttr,itr,itq,cq,wm,hd,zAg,zAb]
  exact ⟨⟨u,aK,hb,g⟩,exF rfl⟩
 | succ m ih =>
  intro i K u j11 j12 j13 j14 j15 j16 j17 j18 j19 j20 j21 j22 j23 j24 aK hb g hi
  have hlt : i < n:=by omega
  have hd : decide ((i : Int) < (n : Int)) = true:=decide_eq_true (by omega)
  have e2 : IntKind.i64.wrap ((i : Int) + 1) = ((i + 1 : Nat) : Int):=by rw [zAk (by omega) (by omega)]; omega
  have cq:=aK.cells hq hqp
  have cp:=zAl hb
  have kl:=aK.1
  obtain ⟨K1,hK1⟩ : ∃ K1,K1 = K ++ [ABlk.rw [.int .i64 (-1)]]:=⟨_,rfl⟩
  have A1 : Adds K K1:=⟨_,hK1⟩
  have g1 : FS K1 K0.length u (List.replicate i (-1)):=g.frT (Fr.adds A1 (fun _=>False)) fun _ _ h=>h
  obtain ⟨u',K2,ep,f2,fr2,sb2,l2⟩:=FS.push g1 (s:=K.length) (z:=-1) (by rw [hK1]; unfold cellsOf; simp) (by simp; omega) (by have:=A1.len; omega)
  rw [← List.replicate_succ'] at f2
  have o1:=FS.out g1
  have bp : K2[p]? = some (.rw [u,.nilSl,.int .i64 1,.int .i64 0,.int .i64 0,.nilSl]):=fr2.at (A1.at hb) fun h=>by have:=(o1 p h).1; omega
  have cu:=FS.cell f2
  have wr : zA3 K2 p 0 [u'] = some (K2.set p (.rw [u',.nilSl,.int .i64 1,.int .i64 0,.int .i64 0,.nilSl])):=by
   rw [zA2 bp,if_pos ⟨by simp,by simp [cu.2]⟩]; rfl
  have fx : Fr K0 (K2.set p (.rw [u',.nilSl,.int .i64 1,.int .i64 0,.int .i64 0,.nilSl])) (· = p):=by
   refine ⟨by simp; have:=A1.len; omega,fun x hx hn=>?_⟩
   rw [zAn _ _ _ _ hn,fr2.2 x (by have:=A1.len; omega) (fun h=>by have:=(o1 x h).1; omega)]
   rw [hK1,List.getElem?_append_left (by omega)]
   exact aK.2 x hx hn
  have o2:=FS.out f2
  have hK1:=hK1.symm
  have key:=ih (i + 1) (K2.set p (.rw [u',.nilSl,.int .i64 1,.int .i64 0,.int .i64 0,.nilSl])) u'
  rw [lo]
  unfold l14x0
  simp -implicitDefEqProofs (maxSteps:=5000000) only [go_sem,simprocAttr,itr,itq,cq,cp,wm,hd,hK1,ep,zAx,cu.1,cu.2,wr,e2]
  exact key _ _ _ _ _ _ _ _ _ _ _ _ _ _ fx (zBe _ _ _ (zA8 bp)) (f2.frT (Fr.set (F:=(· = p)) _ _ rfl) fun x hx h=>by have:=(o2 x hx).1; omega) (by omega)
set_option maxHeartbeats 4000000 in
theorem zSc (hg : Gm.goodB b s w a r = false) : (envL prog).call 14 [Gm.geo b s w a r] H = some (.tup [.agg [.nilSl,.nilSl,.int .i64 0,.int .i64 0,.int .i64 0,.nilSl],.int .i64 1],H):=by
 have eg:=Gm.goodR b s w a r
 unfold Gm.geo at eg ⊢
 rw [hg] at eg
 rw [c14]
 unfold b14
 simp -implicitDefEqProofs (maxSteps:=5000000) only [go_sem,simprocAttr,itr,itq,eg]
set_option maxHeartbeats 4000000 in
theorem rfirstC (hg : Gm.goodB b s w a r = true) : ∃ v K,(envL prog).call 14 [Gm.geo b s w a r] H = some (.tup [.agg [v,.nilSl,.int .i64 1,.int .i64 0,.int .i64 0,.nilSl],.int .i64 0],K) ∧ Adds H K ∧ IS K v (List.replicate (s * w).toNat (-1)):=by
 have eg:=Gm.goodR b s w a r
 unfold Gm.geo at eg ⊢
 rw [hg] at eg
 obtain ⟨n,hn,n1,n2⟩:=(zDb hg).sw
 have wm : IntKind.i64.wrap (s * w) = (n : Int):=by rw [zAk (by omega) (by omega)]; exact hn
 rw [hn,Int.toNat_natCast]
 obtain ⟨H1,hH1⟩ : ∃ H1,H1 = H ++ [ABlk.rw [.int .i64 b,.int .i64 s,.int .i64 w,.int .i64 a,.int .i64 r],.rw [.nilSl,.nilSl,.int .i64 0,.int .i64 0,.int .i64 0,.nilSl],.rw [.nilSl,.nilSl,.int .i64 1,.int .i64 0,.int .i64 0,.nilSl]]:=⟨_,rfl⟩
 have l1 : H1.length = H.length + 3:=by rw [hH1]; simp
 have b1 : H1[H.length + 1]? = some (.rw [.nilSl,.nilSl,.int .i64 0,.int .i64 0,.int .i64 0,.nilSl]):=by rw [hH1]; simp
 have b2 : H1[H.length + 2]? = some (.rw [.nilSl,.nilSl,.int .i64 1,.int .i64 0,.int .i64 0,.nilSl]):=by rw [hH1]; simp
 have c0 : cellsOf H1 H.length = some [.int .i64 b,.int .i64 s,.int .i64 w,.int .i64 a,.int .i64 r]:=by rw [hH1]; unfold cellsOf; simp
 have l0:=rfirstL b s w a r (K0:=H1) (n:=n) (q:=H.length) (p:=H.length + 2) (by omega) wm c0 (by omega) (by omega) (m:=n) (i:=0) (K:=H1) (u:=.nilSl)
 rw [show ((0 : Nat) : Int) = 0 from rfl] at l0
 have key : Outs (runC (envL prog) (b14 (envL prog)) ([AV.agg [.int .i64 b,.int .i64 s,.int .i64 w,.int .i64 a,.int .i64 r]] ++ List.replicate (26 - [AV.agg [.int .i64 b,.int .i64 s,.int .i64 w,.int .i64 a,.int .i64 r]].length) .undef) H) fun e' t K=>∃ v,Adds H K ∧ IS K v (List.replicate n (-1)) ∧ v.under H.length = false ∧ fin [.cell 2 6 true,.tmp 3] (some (e',t,K)) = some (.tup [.agg [v,.nilSl,.int .i64 1,.int .i64 0,.int .i64 0,.nilSl],.int .i64 0],K):=by
  unfold b14
  generalize hQ : (fun (e' : Ex) (t : T) (K : zAc)=>∃ v,Adds H K ∧ IS K v (List.replicate n (-1)) ∧ v.under H.length = false ∧ fin [.cell 2 6 true,.tmp 3] (some (e',t,K)) = some (.tup [.agg [v,.nilSl,.int .i64 1,.int .i64 0,.int .i64 0,.nilSl],.int .i64 0],K)) = Q
  have hH1':=hH1.symm
  simp -implicitDefEqProofs (maxSteps:=5000000) only [go_sem,simprocAttr,itr,itq,zAi,eg,hH1']
  unfold LP1 at l0
  generalize (envL prog).loop (runC (envL prog) (l14x0 (envL prog))) = L0 at l0 ⊢
  refine zAq (fun r=>seqR (zAt 0 r) _) (l0 _ _ _ _ _ _ _ _ _ _ _ _ _ _ _ _ _ _ _ _ _ _ _ (Fr.refl _ _) b2 (.inl ⟨rfl,rfl⟩) (by omega)) ?_
  rintro e t K ⟨rfl,⟨u,fK,hb,g⟩,fv,rfl⟩
  have cp:=zAl hb
  have bb:=fK.at b1 (by show ¬ H.length + 1 = H.length + 2; omega)
  have cu:=FS.cell g
  have kl:=fK.1
  have wr : zA3 K (H.length + 1) 0 [u,.nilSl,.int .i64 1,.int .i64 0,.int .i64 0,.nilSl] = some (K.set (H.length + 1) (.rw [u,.nilSl,.int .i64 1,.int .i64 0,.int .i64 0,.nilSl])):=by
   rw [zA2 bb,if_pos ⟨by simp,by simp only [List.all_cons,cu.2]; rfl⟩]; rfl
  have ce : cellsOf (K.set (H.length + 1) (.rw [u,.nilSl,.int .i64 1,.int .i64 0,.int .i64 0,.nilSl])) (H.length + 1) = some [u,.nilSl,.int .i64 1,.int .i64 0,.int .i64 0,.nilSl]:=zAl (zBe _ _ _ (by omega))
  have o:=FS.out g
  simp -implicitDefEqProofs (maxSteps:=5000000) only [go_sem,simprocAttr,itr,itq,cp,cu.1,cu.2,zAe,wr,zAb]
  subst hQ
  refine ⟨u,Adds.of_get (by simp; omega) fun x hx=>?_,?_,?_,?_⟩
  ·rw [zAn _ _ _ _ (by omega),fK.2 x (by omega) (by show ¬ x = H.length + 2; omega),hH1,List.getElem?_append_left (by omega)]
  ·exact IS.frS (FS.is g) (Fr.set (F:=(· = H.length + 1)) _ _ rfl) fun x hx h=>by have:=(o x hx).1; omega
  ·rcases GR.under g with ⟨h,_⟩ | h
   ·obtain ⟨k,rfl⟩ : ∃ k,n = k + 1:=⟨n - 1,by omega⟩
    simp [List.replicate_succ] at h
   ·cases hu : u.under H.length with
    | false=>rfl
    | true=>rw [zGt (by omega) hu] at h; cases h
  ·simp -implicitDefEqProofs (maxSteps:=5000000) only [go_sem,simprocAttr,itr,itq,ce]
 obtain ⟨e',t,K,hr,v,aK,bs,vu,hf⟩:=key
 refine ⟨v,K,?_,aK,bs⟩
 rw [c14,hr,hf]
 exact zA6 (by simp [AV.under,zBc,vu])
end
end Go.Proofs.Ythgflkfhjnbheaa.G14
end
section
namespace Go.Proofs.Ythgflkfhjnbheaa.G14
open Go Go.Proofs.Ythgflkfhjnbheaa.Eng
def zKs (b s w : Int) (pre : List Int) (x : Int) : Bool:=(x == -1) || (decide (0 ≤ x) && (decide (x < b) && ((x.tmod s == (pre.length : Int).tdiv w) && !pre.contains x)))
theorem zIq (b s w : Int) (pre : List Int) (x : Int) (l : List Int) : zDy b s w pre (x :: l) = (zKs b s w pre x && zDy b s w (pre ++ [x]) l):=rfl
section
variable {b s w a r : Int} (gg : Geo b s w a) {H : zAc} {v : AV} {D : List Int} (g : IS H v D) (hl : D.length ≤ 1000000)
include gg g hl
set_option maxHeartbeats 16000000 in
theorem dirtyL (ok : zFw v) {q : Nat} (hq : cellsOf H q = some [.int .i64 b,.int .i64 s,.int .i64 w,.int .i64 a,.int .i64 r]) (x0 x3 x7 x8 x9 x10 x11 x12 x13 x14 : AV) : ∀ (m i : Nat) (j5 j6 j18 j19 j20 j21 j22 j23 j24 j25 j26 j27 j28 j29 j30 j31 j32 j33 j34 j35 j36 j37 j38 j39 j40 j41 j42 j43 j44 j45 j46 j47 j48 j49 j50 : AV),i + m = D.length →
  Outs (LP1 l45x0 [x0,v,.ptr q 0,x3,.bool false,j5,j6,x7,x8,x9,x10,x11,x12,x13,x14,v,.int .i64 (D.length : Int),.int .i64 (i : Int),j18,j19,j20,j21,j22,j23,j24,j25,j26,j27,j28,j29,j30,j31,j32,j33,j34,j35,j36,j37,j38,j39,j40,j41,j42,j43,j44,j45,j46,j47,j48,j49,j50] H) fun e t K=>K = H ∧ ∃ fv : Nat → AV,t = [x0,v,.ptr q 0,x3,(fv 4),(fv 5),(fv 6),x7,x8,x9,x10,x11,x12,x13,x14,v,.int .i64 (D.length : Int),(fv 17),(fv 18),(fv 19),(fv 20),(fv 21),(fv 22),(fv 23),(fv 24),(fv 25),(fv 26),(fv 27),(fv 28),(fv 29),(fv 30),(fv 31),(fv 32),(fv 33),(fv 34),(fv 35),(fv 36),(fv 37),(fv 38),(fv 39),(fv 40),(fv 41),(fv 42),(fv 43),(fv 44),(fv 45),(fv 46),(fv 47),(fv 48),(fv 49),(fv 50)] ∧ ((e = .exit 0 ∧ zDy b s w (D.take i) (D.drop i) = true) ∨ (e = .ret ∧ fv 4 = .bool false ∧ zDy b s w (D.take i) (D.drop i) = false)):=by
 intro m
 obtain ⟨L0,hL0⟩ : ∃ L,L = LP1 l45x0:=⟨_,rfl⟩
 have lo:=zAp hL0
 have hs0:=gg.s1.1
 have hw0:=gg.w1.1
 rw [← hL0]
 induction m with
 | zero =>
  intro i j5 j6 j18 j19 j20 j21 j22 j23 j24 j25 j26 j27 j28 j29 j30 j31 j32 j33 j34 j35 j36 j37 j38 j39 j40 j41 j42 j43 j44 j45 j46 j47 j48 j49 j50 hi
  obtain rfl : i = D.length:=by omega
  have hd : decide ((D.length : Int) < (D.length : Int)) = false:=by simp
  rw [List.drop_length,lo]
  unfold l45x0
  simp -implicitDefEqProofs (maxSteps:=5000000) only [go_sem,simprocAttr,hd,zAg,zAb]
  exact exF2 rfl (.inl rfl)
 | succ m ih =>
  intro i j5 j6 j18 j19 j20 j21 j22 j23 j24 j25 j26 j27 j28 j29 j30 j31 j32 j33 j34 j35 j36 j37 j38 j39 j40 j41 j42 j43 j44 j45 j46 j47 j48 j49 j50 hi
  have hlt : i < D.length:=by omega
  have hd : decide ((i : Int) < (D.length : Int)) = true:=decide_eq_true (by omega)
  have e2 : IntKind.i64.wrap ((i : Int) + 1) = ((i + 1 : Nat) : Int):=by rw [zAk (by omega) (by omega)]; omega
  have hx:=List.getElem?_eq_getElem hlt
  have tk : D.take (i + 1) = D.take i ++ [D[i]]:=by rw [List.take_add_one,hx]; rfl
  obtain ⟨w1,es,gs⟩:=IS.take g (by omega) (i:=i) (by omega) ok
  have key:=ih (i + 1)
  rw [tk] at key
  rw [List.drop_eq_getElem_cons hlt,zIq]
  generalize D[i] = x at *
  have ec:=zE8 gs (by rw [List.length_take]; omega) x
  have tl : (D.take i).length = i:=by rw [List.length_take]; omega
  obtain ⟨ad,ix,ld⟩:=g.idx hx .i64
  have rm:=zNm .none .i64 x s (by omega)
  have qt:=zNn .none .i64 (i : Int) w (by omega)
  have wq : IntKind.i64.wrap ((i : Int).tdiv w) = (i : Int).tdiv w:=by
   have h1:=Int.tdiv_le_self w (show (0 : Int) ≤ i by omega)
   have h2:=Int.tdiv_nonneg (show (0 : Int) ≤ i by omega) (show 0 ≤ w by omega)
   rw [zAk (by omega) (by omega)]
  rw [wq] at qt
  unfold zKs
  rw [tl]
  rw [lo]
  unfold l45x0
  by_cases c0 : x = -1
  ·have d0 : (x == -1) = true:=by simp [c0]
   rw [d0,Bool.true_or,Bool.true_and]
   simp -implicitDefEqProofs (maxSteps:=5000000) only [go_sem,simprocAttr,itr,itq,hd,ix,ld,d0,e2]
   exact key _ _ _ _ _ _ _ _ _ _ _ _ _ _ _ _ _ _ _ _ _ _ _ _ _ _ _ _ _ _ _ _ _ _ _ (by omega)
  have d0 : (x == -1) = false:=by simp [c0]
  rw [d0,Bool.false_or]
  by_cases c1 : 0 ≤ x
  case neg =>
   have d1 : decide (x < 0) = true:=decide_eq_true (by omega)
   rw [decide_eq_false c1,Bool.false_and,Bool.false_and]
   simp -implicitDefEqProofs (maxSteps:=5000000) only [go_sem,simprocAttr,itr,itq,hd,ix,ld,d0,d1,zAj,zAb]
   exact exF2 rfl (.inr rfl)
  have d1 : decide (x < 0) = false:=decide_eq_false (by omega)
  rw [decide_eq_true c1,Bool.true_and]
  by_cases c2 : x < b
  case neg =>
   have d2 : decide (x ≥ b) = true:=decide_eq_true (by omega)
   rw [decide_eq_false c2,Bool.false_and,Bool.false_and]
   simp -implicitDefEqProofs (maxSteps:=5000000) only [go_sem,simprocAttr,itr,itq,hd,ix,ld,d0,d1,hq,d2,zAj,zAb]
   exact exF2 rfl (.inr rfl)
  have d2 : decide (x ≥ b) = false:=decide_eq_false (by omega)
  rw [decide_eq_true c2,Bool.true_and]
  by_cases c3 : x.tmod s = (i : Int).tdiv w
  case neg =>
   have d3 : (x.tmod s != (i : Int).tdiv w) = true:=bne_iff_ne.2 c3
   rw [beq_eq_false_iff_ne.2 c3,Bool.false_and,Bool.false_and]
   simp -implicitDefEqProofs (maxSteps:=5000000) only [go_sem,simprocAttr,itr,itq,hd,ix,ld,d0,d1,hq,d2,rm,qt,d3,zAj,zAb]
   exact exF2 rfl (.inr rfl)
  have d3 : (x.tmod s != (i : Int).tdiv w) = false:=by simp [c3]
  rw [beq_iff_eq.2 c3,Bool.true_and]
  rcases hc : (D.take i).contains x with _ | _ <;> rw [hc] at ec
  ·rw [Bool.not_false,Bool.true_and]
   simp -implicitDefEqProofs (maxSteps:=5000000) only [go_sem,simprocAttr,itr,itq,hd,ix,ld,d0,d1,hq,d2,rm,qt,d3,es,ec,e2]
   exact key _ _ _ _ _ _ _ _ _ _ _ _ _ _ _ _ _ _ _ _ _ _ _ _ _ _ _ _ _ _ _ _ _ _ _ (by omega)
  ·rw [Bool.not_true,Bool.false_and]
   simp -implicitDefEqProofs (maxSteps:=5000000) only [go_sem,simprocAttr,itr,itq,hd,ix,ld,d0,d1,hq,d2,rm,qt,d3,es,ec,zAj,zAb]
   exact exF2 rfl (.inr rfl)
end
theorem dirtyC {b s w a r : Int} (gg : Geo b s w a) {H : zAc} {v : AV} {D : List Int} (g : IS H v D) (hl : D.length ≤ 9223372036854775807) (ok : zFw v) : (envL prog).call 45 [.agg [.int .i64 b,.int .i64 s,.int .i64 w,.int .i64 a,.int .i64 r],v] H = some (.bool (zHf b s w D),H):=by
 obtain ⟨n,hn,n1,n2⟩:=gg.sw
 have wm : IntKind.i64.wrap (s * w) = (n : Int):=by rw [zAk (by omega) (by omega)]; exact hn
 have wl:=g.len
 unfold zHf
 rw [hn]
 by_cases hlen : (D.length : Int) = (n : Int)
 case neg =>
  have d0 : ((D.length : Int) != (n : Int)) = true:=by simpa using hlen
  rw [beq_eq_false_iff_ne.2 hlen,Bool.false_and,c45]
  unfold b45
  simp -implicitDefEqProofs (maxSteps:=5000000) only [go_sem,simprocAttr,itr,itq,wl,wm,d0]
 rw [beq_iff_eq.2 hlen,Bool.true_and]
 have d0 : ((D.length : Int) != (n : Int)) = false:=by simp [hlen]
 obtain ⟨H1,hH1⟩ : ∃ H1,H1 = H ++ [ABlk.rw [.int .i64 b,.int .i64 s,.int .i64 w,.int .i64 a,.int .i64 r]]:=⟨_,rfl⟩
 have A1 : Adds H H1:=⟨_,hH1⟩
 have cq : cellsOf H1 H.length = some [.int .i64 b,.int .i64 s,.int .i64 w,.int .i64 a,.int .i64 r]:=by rw [hH1]; unfold cellsOf; simp
 have l0:=dirtyL gg (A1.is g) (by omega) ok cq (m:=D.length) (i:=0)
 rw [show ((0 : Nat) : Int) = 0 from rfl,List.drop_zero,List.take_zero] at l0
 have hH1':=hH1.symm
 have key : Outs (runC (envL prog) (b45 (envL prog)) ([.agg [.int .i64 b,.int .i64 s,.int .i64 w,.int .i64 a,.int .i64 r],v] ++ List.replicate (51 - [AV.agg [.int .i64 b,.int .i64 s,.int .i64 w,.int .i64 a,.int .i64 r],v].length) .undef) H) fun e' t K=>K = H1 ∧ fin [.tmp 4] (some (e',t,K)) = some (.bool (zDy b s w [] D),K):=by
  unfold b45
  generalize hQ : (fun (e' : Ex) (t : T) (K : zAc)=>K = H1 ∧ fin [.tmp 4] (some (e',t,K)) = some (AV.bool (zDy b s w [] D),K)) = Q
  simp -implicitDefEqProofs (maxSteps:=5000000) only [go_sem,simprocAttr,itr,itq,zAi,hH1',cq,wl,wm,d0]
  unfold LP1 at l0
  generalize (envL prog).loop (runC (envL prog) (l45x0 (envL prog))) = L0 at l0 ⊢
  refine zAq (fun r=>seqR (zAt 0 r) _) (l0 _ _ _ _ _ _ _ _ _ _ _ _ _ _ _ _ _ _ _ _ _ _ _ _ _ _ _ _ _ _ _ _ _ _ _ _ _ _ _ _ _ _ _ _ _ (by omega)) ?_
  rintro e t K ⟨rfl,fv,rfl,⟨rfl,ho⟩ | ⟨rfl,f4,ho⟩⟩
  ·simp -implicitDefEqProofs (maxSteps:=5000000) only [go_sem,simprocAttr,zAb]
   subst hQ
   rw [ho]
   refine ⟨rfl,?_⟩
   simp -implicitDefEqProofs (maxSteps:=5000000) only [go_sem,simprocAttr]
  ·simp -implicitDefEqProofs (maxSteps:=5000000) only [go_sem,simprocAttr,zAb]
   subst hQ
   rw [ho]
   refine ⟨rfl,?_⟩
   simp -implicitDefEqProofs (maxSteps:=5000000) only [go_sem,simprocAttr,f4]
 obtain ⟨e',t,K,hr,rfl,hf⟩:=key
 rw [c45,hr,hf]; exact A1.trimS rfl
end Go.Proofs.Ythgflkfhjnbheaa.G14
end
section
namespace Go.Proofs.Ythgflkfhjnbheaa.G14
open Go Go.Proofs.Ythgflkfhjnbheaa.Eng
section
variable {b s w a r : Int} (gg : Geo b s w a) {H : zAc} {v : AV} {D : List Int} (g : IS H v D) (hl : D.length ≤ 1000000)
include g hl
set_option maxHeartbeats 4000000 in
theorem rdirtyL0 {i : Nat} {x : Int} (hx : D[i]? = some x) (x0 x2 x3 x7 x8 x9 x10 x11 x12 x13 x14 x15 x16 x17 x18 x19 x20 x21 x22 x23 x24 x25 x26 x27 x28 x29 x30 x31 x32 x33 x34 x35 x36 x37 x38 x39 x40 x41 x42 x43 x44 x45 x46 x47 x48 x49 x50 x51 x52 x53 : AV) : ∀ (m j : Nat) (j54 j55 j56 j57 j58 j59 j60 j61 j62 j63 j64 j65 j66 j67 : AV),j + m = i →
  Outs (LP1 l48x0 [x0,v,x2,x3,.bool false,.int .i64 (i : Int),.int .i64 (j : Int),x7,x8,x9,x10,x11,x12,x13,x14,x15,x16,x17,x18,x19,x20,x21,x22,x23,x24,x25,x26,x27,x28,x29,x30,x31,x32,x33,x34,x35,x36,x37,x38,x39,x40,x41,x42,x43,x44,x45,x46,x47,x48,x49,x50,x51,x52,x53,j54,j55,j56,j57,j58,j59,j60,j61,j62,j63,j64,j65,j66,j67] H) fun e t K=>K = H ∧ ∃ fv : Nat → AV,t = [x0,v,x2,x3,(fv 4),.int .i64 (i : Int),(fv 6),x7,x8,x9,x10,x11,x12,x13,x14,x15,x16,x17,x18,x19,x20,x21,x22,x23,x24,x25,x26,x27,x28,x29,x30,x31,x32,x33,x34,x35,x36,x37,x38,x39,x40,x41,x42,x43,x44,x45,x46,x47,x48,x49,x50,x51,x52,x53,(fv 54),(fv 55),(fv 56),(fv 57),(fv 58),(fv 59),(fv 60),(fv 61),(fv 62),(fv 63),(fv 64),(fv 65),(fv 66),(fv 67)] ∧ fv 4 = .bool false ∧ ((e = .exit 2 ∧ ((D.take i).drop j).contains x = false) ∨ (e = .ret ∧ ((D.take i).drop j).contains x = true)):=by
 intro m
 obtain ⟨L0,hL0⟩ : ∃ L,L = LP1 l48x0:=⟨_,rfl⟩
 have lo:=zAp hL0
 have il:=(List.getElem?_eq_some_iff.1 hx).1
 have tl : (D.take i).length = i:=by rw [List.length_take]; omega
 obtain ⟨ax,ixx,ldx⟩:=g.idx hx .i64
 rw [← hL0]
 induction m with
 | zero =>
  intro j j54 j55 j56 j57 j58 j59 j60 j61 j62 j63 j64 j65 j66 j67 hj
  obtain rfl : j = i:=by omega
  have hd : decide ((j : Int) < (j : Int)) = false:=by simp
  rw [lo,show (D.take j).drop j = [] by rw [List.drop_eq_nil_iff]; omega]
  unfold l48x0
  simp -implicitDefEqProofs (maxSteps:=5000000) only [go_sem,simprocAttr,hd,zAg,zAb]
  exact exF2 rfl ⟨rfl,.inl rfl⟩
 | succ m ih =>
  intro j j54 j55 j56 j57 j58 j59 j60 j61 j62 j63 j64 j65 j66 j67 hj
  have hd : decide ((j : Int) < (i : Int)) = true:=decide_eq_true (by omega)
  have e2 : IntKind.i64.wrap ((j : Int) + 1) = ((j + 1 : Nat) : Int):=by rw [zAk (by omega) (by omega)]; omega
  have hy:=List.getElem?_eq_getElem (show j < D.length by omega)
  have dj : (D.take i).drop j = D[j] :: (D.take i).drop (j + 1):=by
   rw [List.drop_eq_getElem_cons (by omega),List.getElem_take]
  rw [dj,List.contains_cons]
  generalize D[j] = y at *
  obtain ⟨ad,ix,ld⟩:=g.idx hy .i64
  have key:=ih (j + 1)
  rw [lo]
  unfold l48x0
  by_cases h : y = x
  ·have hb : (y == x) = true:=by simp [h]
   have hb2 : (x == y) = true:=by simp [h]
   rw [hb2,Bool.true_or]
   simp -implicitDefEqProofs (maxSteps:=5000000) only [go_sem,simprocAttr,itr,itq,hd,ix,ld,ixx,ldx,hb,zAj,zAb]
   exact exF2 rfl ⟨rfl,by first | rfl | trivial | exact .inr rfl⟩
  ·have hb : (y == x) = false:=by simp [h]
   have hb2 : (x == y) = false:=beq_eq_false_iff_ne.2 fun e=>h e.symm
   rw [hb2,Bool.false_or]
   simp -implicitDefEqProofs (maxSteps:=5000000) only [go_sem,simprocAttr,itr,itq,hd,ix,ld,ixx,ldx,hb,e2]
   exact key _ _ _ _ _ _ _ _ _ _ _ _ _ _ (by omega)
include gg
set_option maxHeartbeats 16000000 in
theorem rdirtyL1 {q : Nat} (hq : cellsOf H q = some [.int .i64 b,.int .i64 s,.int .i64 w,.int .i64 a,.int .i64 r]) (x0 x3 x7 x8 x9 x10 x11 x12 x13 x14 : AV) : ∀ (m i : Nat) (j6 j15 j16 j17 j18 j19 j20 j21 j22 j23 j24 j25 j26 j27 j28 j29 j30 j31 j32 j33 j34 j35 j36 j37 j38 j39 j40 j41 j42 j43 j44 j45 j46 j47 j48 j49 j50 j51 j52 j53 j54 j55 j56 j57 j58 j59 j60 j61 j62 j63 j64 j65 j66 j67 : AV),i + m = D.length →
  Outs (LP1 l48x1 [x0,v,.ptr q 0,x3,.bool false,.int .i64 (i : Int),j6,x7,x8,x9,x10,x11,x12,x13,x14,j15,j16,j17,j18,j19,j20,j21,j22,j23,j24,j25,j26,j27,j28,j29,j30,j31,j32,j33,j34,j35,j36,j37,j38,j39,j40,j41,j42,j43,j44,j45,j46,j47,j48,j49,j50,j51,j52,j53,j54,j55,j56,j57,j58,j59,j60,j61,j62,j63,j64,j65,j66,j67] H) fun e t K=>K = H ∧ ∃ fv : Nat → AV,t = [x0,v,.ptr q 0,x3,(fv 4),(fv 5),(fv 6),x7,x8,x9,x10,x11,x12,x13,x14,(fv 15),(fv 16),(fv 17),(fv 18),(fv 19),(fv 20),(fv 21),(fv 22),(fv 23),(fv 24),(fv 25),(fv 26),(fv 27),(fv 28),(fv 29),(fv 30),(fv 31),(fv 32),(fv 33),(fv 34),(fv 35),(fv 36),(fv 37),(fv 38),(fv 39),(fv 40),(fv 41),(fv 42),(fv 43),(fv 44),(fv 45),(fv 46),(fv 47),(fv 48),(fv 49),(fv 50),(fv 51),(fv 52),(fv 53),(fv 54),(fv 55),(fv 56),(fv 57),(fv 58),(fv 59),(fv 60),(fv 61),(fv 62),(fv 63),(fv 64),(fv 65),(fv 66),(fv 67)] ∧ ((e = .exit 0 ∧ zDy b s w (D.take i) (D.drop i) = true) ∨ (e = .ret ∧ fv 4 = .bool false ∧ zDy b s w (D.take i) (D.drop i) = false)):=by
 intro m
 obtain ⟨L0,hL0⟩ : ∃ L,L = LP1 l48x1:=⟨_,rfl⟩
 have lo:=zAp hL0
 have hs0:=gg.s1.1
 have hw0:=gg.w1.1
 have wl:=g.len
 rw [← hL0]
 induction m with
 | zero =>
  intro i j6 j15 j16 j17 j18 j19 j20 j21 j22 j23 j24 j25 j26 j27 j28 j29 j30 j31 j32 j33 j34 j35 j36 j37 j38 j39 j40 j41 j42 j43 j44 j45 j46 j47 j48 j49 j50 j51 j52 j53 j54 j55 j56 j57 j58 j59 j60 j61 j62 j63 j64 j65 j66 j67 hi
  obtain rfl : i = D.length:=by omega
  have hd : decide ((D.length : Int) < (D.length : Int)) = false:=by simp
  rw [List.drop_length,lo]
  unfold l48x1
  simp -implicitDefEqProofs (maxSteps:=5000000) only [go_sem,simprocAttr,itr,itq,wl,hd,zAg,zAb]
  exact exF2 rfl (.inl rfl)
 | succ m ih =>
  intro i j6 j15 j16 j17 j18 j19 j20 j21 j22 j23 j24 j25 j26 j27 j28 j29 j30 j31 j32 j33 j34 j35 j36 j37 j38 j39 j40 j41 j42 j43 j44 j45 j46 j47 j48 j49 j50 j51 j52 j53 j54 j55 j56 j57 j58 j59 j60 j61 j62 j63 j64 j65 j66 j67 hi
  have hlt : i < D.length:=by omega
  have hd : decide ((i : Int) < (D.length : Int)) = true:=decide_eq_true (by omega)
  have e2 : IntKind.i64.wrap ((i : Int) + 1) = ((i + 1 : Nat) : Int):=by rw [zAk (by omega) (by omega)]; omega
  have hx:=List.getElem?_eq_getElem hlt
  have tk : D.take (i + 1) = D.take i ++ [D[i]]:=by rw [List.take_add_one,hx]; rfl
  have key:=ih (i + 1)
  rw [tk] at key
  rw [List.drop_eq_getElem_cons hlt,zIq]
  have l0:=rdirtyL0 g hl hx (m:=i) (j:=0)
  rw [show ((0 : Nat) : Int) = 0 from rfl,List.drop_zero] at l0
  generalize D[i] = x at *
  have tl : (D.take i).length = i:=by rw [List.length_take]; omega
  obtain ⟨ad,ix,ld⟩:=g.idx hx .i64
  have rm:=zNm .none .i64 x s (by omega)
  have qt:=zNn .none .i64 (i : Int) w (by omega)
  have wq : IntKind.i64.wrap ((i : Int).tdiv w) = (i : Int).tdiv w:=by
   have h1:=Int.tdiv_le_self w (show (0 : Int) ≤ i by omega)
   have h2:=Int.tdiv_nonneg (show (0 : Int) ≤ i by omega) (show 0 ≤ w by omega)
   rw [zAk (by omega) (by omega)]
  rw [wq] at qt
  unfold zKs
  rw [tl]
  rw [lo]
  unfold l48x1
  by_cases c0 : x = -1
  ·have d0 : (x == -1) = true:=by simp [c0]
   rw [d0,Bool.true_or,Bool.true_and]
   simp -implicitDefEqProofs (maxSteps:=5000000) only [go_sem,simprocAttr,itr,itq,wl,hd,ix,ld,d0,e2]
   exact key _ _ _ _ _ _ _ _ _ _ _ _ _ _ _ _ _ _ _ _ _ _ _ _ _ _ _ _ _ _ _ _ _ _ _ _ _ _ _ _ _ _ _ _ _ _ _ _ _ _ _ _ _ _ (by omega)
  have d0 : (x == -1) = false:=by simp [c0]
  rw [d0,Bool.false_or]
  by_cases c1 : 0 ≤ x
  case neg =>
   have d1 : decide (x < 0) = true:=decide_eq_true (by omega)
   rw [decide_eq_false c1,Bool.false_and,Bool.false_and]
   simp -implicitDefEqProofs (maxSteps:=5000000) only [go_sem,simprocAttr,itr,itq,wl,hd,ix,ld,d0,d1,zAj,zAb]
   exact exF2 rfl (.inr rfl)
  have d1 : decide (x < 0) = false:=decide_eq_false (by omega)
  rw [decide_eq_true c1,Bool.true_and]
  by_cases c2 : x < b
  case neg =>
   have d2 : decide (x ≥ b) = true:=decide_eq_true (by omega)
   rw [decide_eq_false c2,Bool.false_and,Bool.false_and]
   simp -implicitDefEqProofs (maxSteps:=5000000) only [go_sem,simprocAttr,itr,itq,wl,hd,ix,ld,d0,d1,hq,d2,zAj,zAb]
   exact exF2 rfl (.inr rfl)
  have d2 : decide (x ≥ b) = false:=decide_eq_false (by omega)
  rw [decide_eq_true c2,Bool.true_and]
  by_cases c3 : x.tmod s = (i : Int).tdiv w
  case neg =>
   have d3 : (x.tmod s != (i : Int).tdiv w) = true:=bne_iff_ne.2 c3
   rw [beq_eq_false_iff_ne.2 c3,Bool.false_and,Bool.false_and]
   simp -implicitDefEqProofs (maxSteps:=5000000) only [go_sem,simprocAttr,itr,itq,wl,hd,ix,ld,d0,d1,hq,d2,rm,qt,d3,zAj,zAb]
   exact exF2 rfl (.inr rfl)
  have d3 : (x.tmod s != (i : Int).tdiv w) = false:=by simp [c3]
  rw [beq_iff_eq.2 c3,Bool.true_and]
  simp -implicitDefEqProofs (maxSteps:=5000000) only [go_sem,simprocAttr,itr,itq,zAi,wl,hd,ix,ld,d0,d1,hq,d2,rm,qt,d3]
  unfold LP1 at l0
  generalize (envL prog).loop (runC (envL prog) (l48x0 (envL prog))) = LL0 at l0 ⊢
  refine zAq (fun r=>seqR (seqR (zAt 1 (zAt 2 r)) _) _) (l0 _ _ _ _ _ _ _ _ _ _ _ _ _ _ _ _ _ _ _ _ _ _ _ _ _ _ _ _ _ _ _ _ _ _ _ _ _ _ _ _ _ _ _ _ _ _ _ _ _ _ _ _ _ _ _ _ _ _ _ _ _ _ _ _ (by omega)) ?_
  rintro e t K ⟨rfl,fv,rfl,f4,⟨rfl,ho⟩ | ⟨rfl,ho⟩⟩
  ·rw [ho,Bool.not_false,Bool.true_and]
   simp -implicitDefEqProofs (maxSteps:=5000000) only [go_sem,simprocAttr,itr,itq,f4,e2]
   exact key _ _ _ _ _ _ _ _ _ _ _ _ _ _ _ _ _ _ _ _ _ _ _ _ _ _ _ _ _ _ _ _ _ _ _ _ _ _ _ _ _ _ _ _ _ _ _ _ _ _ _ _ _ _ (by omega)
  ·rw [ho,Bool.not_true,Bool.false_and]
   simp -implicitDefEqProofs (maxSteps:=5000000) only [go_sem,simprocAttr,itr,itq,zAj,zAb]
   exact exF2 rfl (.inr f4)
end
theorem rdirtyC {b s w a r : Int} (gg : Geo b s w a) {H : zAc} {v : AV} {D : List Int} (g : IS H v D) (hl : D.length ≤ 9223372036854775807) : (envL prog).call 48 [.agg [.int .i64 b,.int .i64 s,.int .i64 w,.int .i64 a,.int .i64 r],v] H = some (.bool (zHf b s w D),H):=by
 obtain ⟨n,hn,n1,n2⟩:=gg.sw
 have wm : IntKind.i64.wrap (s * w) = (n : Int):=by rw [zAk (by omega) (by omega)]; exact hn
 have wl:=g.len
 unfold zHf
 rw [hn]
 by_cases hlen : (D.length : Int) = (n : Int)
 case neg =>
  have d0 : ((D.length : Int) != (n : Int)) = true:=by simpa using hlen
  rw [beq_eq_false_iff_ne.2 hlen,Bool.false_and,c48]
  unfold b48
  simp -implicitDefEqProofs (maxSteps:=5000000) only [go_sem,simprocAttr,itr,itq,wl,wm,d0]
 rw [beq_iff_eq.2 hlen,Bool.true_and]
 have d0 : ((D.length : Int) != (n : Int)) = false:=by simp [hlen]
 obtain ⟨H1,hH1⟩ : ∃ H1,H1 = H ++ [ABlk.rw [.int .i64 b,.int .i64 s,.int .i64 w,.int .i64 a,.int .i64 r]]:=⟨_,rfl⟩
 have A1 : Adds H H1:=⟨_,hH1⟩
 have cq : cellsOf H1 H.length = some [.int .i64 b,.int .i64 s,.int .i64 w,.int .i64 a,.int .i64 r]:=by rw [hH1]; unfold cellsOf; simp
 have l0:=rdirtyL1 gg (A1.is g) (by omega) cq (m:=D.length) (i:=0)
 rw [show ((0 : Nat) : Int) = 0 from rfl,List.drop_zero,List.take_zero] at l0
 have hH1':=hH1.symm
 have key : Outs (runC (envL prog) (b48 (envL prog)) ([.agg [.int .i64 b,.int .i64 s,.int .i64 w,.int .i64 a,.int .i64 r],v] ++ List.replicate (68 - [AV.agg [.int .i64 b,.int .i64 s,.int .i64 w,.int .i64 a,.int .i64 r],v].length) .undef) H) fun e' t K=>K = H1 ∧ fin [.tmp 4] (some (e',t,K)) = some (.bool (zDy b s w [] D),K):=by
  unfold b48
  generalize hQ : (fun (e' : Ex) (t : T) (K : zAc)=>K = H1 ∧ fin [.tmp 4] (some (e',t,K)) = some (AV.bool (zDy b s w [] D),K)) = Q
  simp -implicitDefEqProofs (maxSteps:=5000000) only [go_sem,simprocAttr,itr,itq,zAi,hH1',cq,wl,wm,d0]
  unfold LP1 at l0
  generalize (envL prog).loop (runC (envL prog) (l48x1 (envL prog))) = L0 at l0 ⊢
  refine zAq (fun r=>seqR (zAt 0 r) _) (l0 _ _ _ _ _ _ _ _ _ _ _ _ _ _ _ _ _ _ _ _ _ _ _ _ _ _ _ _ _ _ _ _ _ _ _ _ _ _ _ _ _ _ _ _ _ _ _ _ _ _ _ _ _ _ _ _ _ _ _ _ _ _ _ _ (by omega)) ?_
  rintro e t K ⟨rfl,fv,rfl,⟨rfl,ho⟩ | ⟨rfl,f4,ho⟩⟩
  ·simp -implicitDefEqProofs (maxSteps:=5000000) only [go_sem,simprocAttr,zAb]
   subst hQ
   rw [ho]
   refine ⟨rfl,?_⟩
   simp -implicitDefEqProofs (maxSteps:=5000000) only [go_sem,simprocAttr]
  ·simp -implicitDefEqProofs (maxSteps:=5000000) only [go_sem,simprocAttr,zAb]
   subst hQ
   rw [ho]
   refine ⟨rfl,?_⟩
   simp -implicitDefEqProofs (maxSteps:=5000000) only [go_sem,simprocAttr,f4]
 obtain ⟨e',t,K,hr,rfl,hf⟩:=key
 rw [c48,hr,hf]; exact A1.trimS rfl
end Go.Proofs.Ythgflkfhjnbheaa.G14
end
section
namespace Go.Proofs.Ythgflkfhjnbheaa.G14
open Go Go.Proofs.Ythgflkfhjnbheaa.Eng
theorem zIw (s : SnS) (L : List SnS) : atsS (s :: L) = s.tb.map (·.2) ++ atsS L:=rfl
theorem zPl : ∀ {L : List SnS},(∀ s ∈ L,s.tb.length ≤ 1000) → (atsS L).length ≤ 1000 * L.length
 | [],_=>by simp [atsS]
 | s :: L,h=>by
  have:=zPl (L:=L) fun x hx=>h x (by simp [hx])
  have:=h s (by simp)
  rw [zIw,List.length_append,List.length_map,List.length_cons]; omega
theorem is_end {H K : zAc} {w : AV} {zs : List Int} (a : Adds H K) (g : IS K w zs) (wb : ∀ b,slb w = some b → H.length ≤ b) : ∃ K',trim H (some (w,K)) = some (w,K') ∧ Adds H K' ∧ IS K' w zs:=by
 rcases zD7 (v:=w) a with e | ⟨u,e⟩
 ·exact ⟨K,e,a,g⟩
 ·refine ⟨H,e,Adds.refl H,?_⟩
  rcases g with g | ⟨b,o,l,ex,cs,rfl,_⟩
  ·exact .inl g
  ·have:=wb b rfl
   have:=zB4 u rfl
   omega
section
variable {H : zAc} {s : SnS} {vt : AV} (pt : IsP H vt s.tb) (lt : s.tb.length ≤ 1000)
include pt lt
set_option maxHeartbeats 4000000 in
theorem atsL_0 (x0 x1 x2 x4 x5 x6 x8 x9 x10 x11 x12 x13 x14 x27 x28 : AV) : ∀ (m j : Nat) (K : zAc) (w : AV) (acc : List Int) (j7 j18 j19 j20 j21 j22 j23 j24 j25 j26 : AV),Adds H K → FS K H.length w acc → acc.length + m ≤ 1000000 → j + m = s.tb.length →
  Outs (LP1 l78x0 [x0,x1,x2,w,x4,x5,x6,j7,x8,x9,x10,x11,x12,x13,x14,vt,.int .i64 (s.tb.length : Int),.int .i64 (j : Int),j18,j19,j20,j21,j22,j23,j24,j25,j26,x27,x28] K) fun e t K'=>e = .exit 2 ∧ Adds H K' ∧ ∃ fv : Nat → AV,t = [x0,x1,x2,(fv 3),x4,x5,x6,(fv 7),x8,x9,x10,x11,x12,x13,x14,vt,.int .i64 (s.tb.length : Int),(fv 17),(fv 18),(fv 19),(fv 20),(fv 21),(fv 22),(fv 23),(fv 24),(fv 25),(fv 26),x27,x28] ∧ FS K' H.length (fv 3) (acc ++ (s.tb.drop j).map (·.2)):=by
 intro m
 obtain ⟨L0,hL0⟩ : ∃ L,L = LP1 l78x0:=⟨_,rfl⟩
 have lo:=zAp hL0
 rw [← hL0]
 induction m with
 | zero =>
  intro j K w acc j7 j18 j19 j20 j21 j22 j23 j24 j25 j26 aK g al hj
  obtain rfl : j = s.tb.length:=by omega
  have hd : decide ((s.tb.length : Int) < (s.tb.length : Int)) = false:=by simp
  rw [List.drop_length,List.map_nil,List.append_nil,lo]
  unfold l78x0
  simp -implicitDefEqProofs (maxSteps:=5000000) only [go_sem,simprocAttr,hd,zAg,zAb]
  exact ⟨aK,exF2 rfl g⟩
 | succ m ih =>
  intro j K w acc j7 j18 j19 j20 j21 j22 j23 j24 j25 j26 aK g al hj
  have hlt : j < s.tb.length:=by omega
  have hd : decide ((j : Int) < (s.tb.length : Int)) = true:=decide_eq_true (by omega)
  have e2 : IntKind.i64.wrap ((j : Int) + 1) = ((j + 1 : Nat) : Int):=by rw [zAk (by omega) (by omega)]; omega
  have hx:=List.getElem?_eq_getElem hlt
  rw [List.drop_eq_getElem_cons hlt,List.map_cons]
  generalize s.tb[j] = p at *
  obtain ⟨b2,c2,_,ix2,hc0,r1,r2,rt,rle⟩:=pt.idx hx
  have hc2:=aK.cells hc0
  unfold prC at rt
  obtain ⟨K1,hK1⟩ : ∃ K1,K1 = K ++ [ABlk.rw [.int .i64 p.1,.int .i64 p.2]]:=⟨_,rfl⟩
  have A1 : Adds K K1:=⟨_,hK1⟩
  have cq : cellsOf K1 K.length = some [.int .i64 p.1,.int .i64 p.2]:=by rw [hK1]; unfold cellsOf; simp
  obtain ⟨K2,hK2⟩ : ∃ K2,K2 = K1 ++ [ABlk.rw [.int .i64 p.2]]:=⟨_,rfl⟩
  have A2 : Adds K1 K2:=⟨_,hK2⟩
  have cs2 : cellsOf K2 K1.length = some [.int .i64 p.2]:=by rw [hK2]; unfold cellsOf; simp
  obtain ⟨w',K3,ep,f3,fr3,sb3,l3⟩:=FS.push (g.frT (Fr.adds (A1.trans A2) (fun _=>False)) fun _ _ h=>h) cs2 (by omega) (by have:=aK.len; have:=(A1.trans A2).len; omega)
  have a3 : Adds H K3:=fr3.old (aK.trans (A1.trans A2)) fun b hb h=>by have:=(FS.out g b h).1; omega
  have hK1:=hK1.symm
  have hK2:=hK2.symm
  have key:=ih (j + 1) K3 w' (acc ++ [p.2])
  rw [List.append_assoc,List.singleton_append] at key
  rw [lo]
  unfold l78x0
  simp -implicitDefEqProofs (maxSteps:=5000000) only [go_sem,simprocAttr,itr,itq,hd,ix2,hc2,rt,rle,zAe,hK1,cq,hK2,ep,e2]
  exact key _ _ _ _ _ _ _ _ _ _ a3 f3 (by rw [List.length_append,List.length_singleton]; omega) (by omega)
end
section
variable {H : zAc} {v : AV} {L : List SnS} (g : IsC H v L) (fi : Fits L)
include g fi
set_option maxHeartbeats 4000000 in
theorem atsL_1 (x0 x1 x2 x4 x6 x28 : AV) : ∀ (m i : Nat) (K : zAc) (w : AV) (acc : List Int) (j5 j7 j11 j12 j13 j14 j15 j16 j17 j18 j19 j20 j21 j22 j23 j24 j25 j26 j27 : AV),Adds H K → FS K H.length w acc → acc.length ≤ 1000 * i → i + m = L.length →
  Outs (LP1 l78x1 [x0,x1,x2,w,x4,j5,x6,j7,v,.int .i64 (L.length : Int),.int .i64 (i : Int),j11,j12,j13,j14,j15,j16,j17,j18,j19,j20,j21,j22,j23,j24,j25,j26,j27,x28] K) fun e t K'=>e = .exit 0 ∧ Adds H K' ∧ ∃ fv : Nat → AV,t = [x0,x1,x2,(fv 3),x4,(fv 5),x6,(fv 7),v,.int .i64 (L.length : Int),(fv 10),(fv 11),(fv 12),(fv 13),(fv 14),(fv 15),(fv 16),(fv 17),(fv 18),(fv 19),(fv 20),(fv 21),(fv 22),(fv 23),(fv 24),(fv 25),(fv 26),(fv 27),x28] ∧ FS K' H.length (fv 3) (acc ++ atsS (L.drop i)):=by
 intro m
 obtain ⟨L0,hL0⟩ : ∃ L,L = LP1 l78x1:=⟨_,rfl⟩
 have lo:=zAp hL0
 have fl:=fi.1
 rw [← hL0]
 induction m with
 | zero =>
  intro i K w acc j5 j7 j11 j12 j13 j14 j15 j16 j17 j18 j19 j20 j21 j22 j23 j24 j25 j26 j27 aK gw al hi
  obtain rfl : i = L.length:=by omega
  have hd : decide ((L.length : Int) < (L.length : Int)) = false:=by simp
  rw [List.drop_length,show atsS [] = [] from rfl,List.append_nil,lo]
  unfold l78x1
  simp -implicitDefEqProofs (maxSteps:=5000000) only [go_sem,simprocAttr,hd,zAg,zAb]
  exact ⟨aK,exF2 rfl gw⟩
 | succ m ih =>
  intro i K w acc j5 j7 j11 j12 j13 j14 j15 j16 j17 j18 j19 j20 j21 j22 j23 j24 j25 j26 j27 aK gw al hi
  have hlt : i < L.length:=by omega
  have hd : decide ((i : Int) < (L.length : Int)) = true:=decide_eq_true (by omega)
  have e2 : IntKind.i64.wrap ((i : Int) + 1) = ((i + 1 : Nat) : Int):=by rw [zAk (by omega) (by omega)]; omega
  have hx:=List.getElem?_eq_getElem hlt
  have ft:=zCl fi hx
  have lt:=ft.lt
  rw [List.drop_eq_getElem_cons hlt,zIw]
  generalize L[i] = s at *
  obtain ⟨bb,cs,vc,vt,sb,ix,hc0,h1,h2,h3,ht,hle,hbs,hip⟩:=g.idx hx
  have hc:=aK.cells hc0
  have cc:=hbs.cell
  have ct:=hip.cell
  have wt:=hip.len
  obtain ⟨K1,hK1⟩ : ∃ K1,K1 = K ++ [ABlk.rw [.int .i64 s.id,vc,vt]]:=⟨_,rfl⟩
  have A1 : Adds K K1:=⟨_,hK1⟩
  have cq : cellsOf K1 K.length = some [.int .i64 s.id,vc,vt]:=by rw [hK1]; unfold cellsOf; simp
  have hK1:=hK1.symm
  have l0:=atsL_0 (H:=H) hip lt (m:=s.tb.length) (j:=0) (K:=K1) (w:=w) (acc:=acc)
  rw [show ((0 : Nat) : Int) = 0 from rfl,List.drop_zero] at l0
  rw [lo]
  unfold l78x1
  simp -implicitDefEqProofs (maxSteps:=5000000) only [go_sem,simprocAttr,itr,itq,zAi,hd,ix,hc,ht,hle,zAe,cc.2,ct.2,hK1,cq,wt]
  unfold LP1 at l0
  generalize (envL prog).loop (runC (envL prog) (l78x0 (envL prog))) = LL at l0 ⊢
  refine zAq (fun r=>seqR (seqR (zAt 1 (zAt 2 r)) _) _) (l0 _ _ _ _ _ _ _ _ _ _ _ _ _ _ _ _ _ _ _ _ _ _ _ _ _ (aK.trans A1) (gw.frT (Fr.adds A1 (fun _=>False)) fun _ _ h=>h) (by omega) (by omega)) ?_
  rintro e t K' ⟨rfl,a1,fv,rfl,g1⟩
  have key:=ih (i + 1) K' (fv 3) (acc ++ s.tb.map (·.2))
  rw [List.append_assoc] at key
  simp -implicitDefEqProofs (maxSteps:=5000000) only [go_sem,simprocAttr,itr,itq,e2]
  exact key _ _ _ _ _ _ _ _ _ _ _ _ _ _ _ _ _ _ _ a1 g1 (by rw [List.length_append,List.length_map]; omega) (by omega)
end
set_option maxHeartbeats 4000000 in
theorem atsC {H : zAc} {v : AV} {L : List SnS} (g : IsC H v L) (fi : Fits L) : ∃ w K,(envL prog).call 78 [v] H = some (w,K) ∧ Adds H K ∧ IS K w (atsS L):=by
 have wl:=g.len
 have fl:=fi.1
 have l1:=atsL_1 g fi (m:=L.length) (i:=0) (K:=H) (w:=.nilSl) (acc:=[])
 rw [show ((0 : Nat) : Int) = 0 from rfl,List.drop_zero,List.nil_append] at l1
 have key : Outs (runC (envL prog) (b78 (envL prog)) ([v] ++ List.replicate (29 - [v].length) .undef) H) fun e' t K=>∃ w,Adds H K ∧ IS K w (atsS L) ∧ (∀ b,slb w = some b → H.length ≤ b) ∧ fin [.tmp 2] (some (e',t,K)) = some (w,K):=by
  unfold b78
  generalize hQ : (fun (e' : Ex) (t : T) (K : zAc)=>∃ w,Adds H K ∧ IS K w (atsS L) ∧ (∀ b,slb w = some b → H.length ≤ b) ∧ fin [.tmp 2] (some (e',t,K)) = some (w,K)) = Q
  simp -implicitDefEqProofs (maxSteps:=5000000) only [go_sem,simprocAttr,itr,itq,zAi,wl]
  unfold LP1 at l1
  generalize (envL prog).loop (runC (envL prog) (l78x1 (envL prog))) = LL at l1 ⊢
  refine zAq (fun r=>seqR (zAt 0 r) _) (l1 _ _ _ _ _ _ _ _ _ _ _ _ _ _ _ _ _ _ _ _ _ _ _ _ _ (Adds.refl H) (.inl ⟨rfl,rfl⟩) (by simp) (by omega)) ?_
  rintro e t K2 ⟨rfl,A2,fv,rfl,f2⟩
  simp -implicitDefEqProofs (maxSteps:=5000000) only [go_sem,simprocAttr,itr,itq,zAb]
  subst hQ
  refine ⟨fv 3,A2,FS.is f2,fun b hb=>(FS.out f2 b hb).1,?_⟩
  simp -implicitDefEqProofs (maxSteps:=5000000) only [go_sem,simprocAttr,itr,itq]
 obtain ⟨e',t,K,hr,w,aK,bs,wb,hf⟩:=key
 obtain ⟨K',e,a,b⟩:=is_end aK bs wb
 exact ⟨w,K',by rw [c78,hr,hf]; exact e,a,b⟩
set_option maxHeartbeats 4000000 in
theorem moreC {H : zAc} {v : AV} {L : List SnS} (g : IsC H v L) (fi : Fits L) : (envL prog).call 80 [v] H = some (.bool (zHl L),H):=by
 have wl:=g.len
 have fl:=fi.1
 unfold zHl
 by_cases h8 : L.length < 8
 case neg =>
  have d8 : decide ((L.length : Int) < 8) = false:=decide_eq_false (by omega)
  rw [decide_eq_false h8,Bool.false_and,c80]
  unfold b80
  simp -implicitDefEqProofs (maxSteps:=5000000) only [go_sem,simprocAttr,itr,itq,wl,d8]
 have d8 : decide ((L.length : Int) < 8) = true:=decide_eq_true (by omega)
 rw [decide_eq_true h8,Bool.true_and]
 by_cases h0 : L.length = 0
 ·have d0 : ((L.length : Int) == 0) = true:=by simp [h0]
  have : L = []:=List.eq_nil_of_length_eq_zero h0
  subst this
  show _ = some (AV.bool true,H)
  rw [c80]
  unfold b80
  simp -implicitDefEqProofs (maxSteps:=5000000) only [go_sem,simprocAttr,itr,itq,wl,d8,d0]
 have d0 : ((L.length : Int) == 0) = false:=by rw [beq_eq_false_iff_ne]; omega
 have hx:=List.getElem?_eq_getElem (show L.length - 1 < L.length by omega)
 rw [show L.getLast? = L[L.length - 1]? from List.getLast?_eq_getElem?,hx]
 have ft:=zCl fi hx
 generalize L[L.length - 1] = s at *
 obtain ⟨bb,cs,vc,vt,sb,ix,hc,h1,h2,h3,ht,hle,hbs,hip⟩:=g.idx hx
 have w1 : IntKind.i64.wrap ((L.length : Int) - 1) = ((L.length - 1 : Nat) : Int):=by rw [zAk (by omega) (by omega)]; omega
 have ec:=Bt.countC hbs ft.u8 (by have:=ft.lc; omega)
 have wt:=hip.len
 rw [c80]
 unfold b80
 simp -implicitDefEqProofs (maxSteps:=5000000) only [go_sem,simprocAttr,itr,itq,wl,d8,d0,w1,ix,hc,h2,h3,ec,wt]
end Go.Proofs.Ythgflkfhjnbheaa.G14
end
section
namespace Go.Proofs.Ythgflkfhjnbheaa.G14
open Go Go.Proofs.Ythgflkfhjnbheaa.Eng
section
variable {H : zAc} {v : AV} {L : List SnS} (g : IsC H v L) (fi : Fits L) (x : Int)
include g fi
set_option maxHeartbeats 4000000 in
theorem heldL0 {i : Nat} {s : SnS} (hs : L[i]? = some s) (x2 x3 x7 x8 x9 x10 x11 x12 : AV) : ∀ (m j : Nat) (j13 j14 j15 j16 j17 j18 j19 j20 j21 j22 j23 j24 j25 j26 j27 j28 j29 j30 j31 j32 j33 : AV),j + m = s.tb.length →
  Outs (LP1 l88x0 [v,.int .i64 x,x2,x3,.bool false,.int .i64 (i : Int),.int .i64 (j : Int),x7,x8,x9,x10,x11,x12,j13,j14,j15,j16,j17,j18,j19,j20,j21,j22,j23,j24,j25,j26,j27,j28,j29,j30,j31,j32,j33] H) fun e t K=>K = H ∧ ∃ fv : Nat → AV,t = [v,.int .i64 x,x2,x3,(fv 4),.int .i64 (i : Int),(fv 6),x7,x8,x9,x10,x11,x12,(fv 13),(fv 14),(fv 15),(fv 16),(fv 17),(fv 18),(fv 19),(fv 20),(fv 21),(fv 22),(fv 23),(fv 24),(fv 25),(fv 26),(fv 27),(fv 28),(fv 29),(fv 30),(fv 31),(fv 32),(fv 33)] ∧ ((e = .exit 2 ∧ fv 4 = .bool false ∧ ((s.tb.drop j).map (·.2)).contains x = false) ∨ (e = .ret ∧ fv 4 = .bool true ∧ ((s.tb.drop j).map (·.2)).contains x = true)):=by
 intro m
 obtain ⟨L0,hL0⟩ : ∃ L,L = LP1 l88x0:=⟨_,rfl⟩
 have lo:=zAp hL0
 have ft:=(zCl fi hs).lt
 obtain ⟨bb,cs,vc,vt,sb,ix,hc,h1,h2,h3,ht,hle,hbs,hip⟩:=g.idx hs
 have wt:=hip.len
 rw [← hL0]
 induction m with
 | zero =>
  intro j j13 j14 j15 j16 j17 j18 j19 j20 j21 j22 j23 j24 j25 j26 j27 j28 j29 j30 j31 j32 j33 hj
  obtain rfl : j = s.tb.length:=by omega
  have hd : decide ((s.tb.length : Int) < (s.tb.length : Int)) = false:=by simp
  rw [lo,List.drop_length]
  unfold l88x0
  simp -implicitDefEqProofs (maxSteps:=5000000) only [go_sem,simprocAttr,itr,itq,ix,hc,h3,wt,hd,zAg,zAb]
  exact exF2 rfl (.inl ⟨rfl,rfl⟩)
 | succ m ih =>
  intro j j13 j14 j15 j16 j17 j18 j19 j20 j21 j22 j23 j24 j25 j26 j27 j28 j29 j30 j31 j32 j33 hj
  have hlt : j < s.tb.length:=by omega
  have hd : decide ((j : Int) < (s.tb.length : Int)) = true:=decide_eq_true (by omega)
  have e2 : IntKind.i64.wrap ((j : Int) + 1) = ((j + 1 : Nat) : Int):=by rw [zAk (by omega) (by omega)]; omega
  have hy:=List.getElem?_eq_getElem hlt
  rw [List.drop_eq_getElem_cons hlt,List.map_cons,List.contains_cons]
  generalize s.tb[j] = p at *
  obtain ⟨b2,c2,_,ix2,hc2,r1,r2,rt,rle⟩:=hip.idx hy
  have key:=ih (j + 1)
  rw [lo]
  unfold l88x0
  by_cases h : p.2 = x
  ·have hb : (p.2 == x) = true:=by simp [h]
   have hb2 : (x == p.2) = true:=by simp [h]
   rw [hb2,Bool.true_or]
   simp -implicitDefEqProofs (maxSteps:=5000000) only [go_sem,simprocAttr,itr,itq,ix,hc,h3,wt,hd,ix2,hc2,r2,hb,zAj,zAb]
   exact exF2 rfl (by first | exact rfl | exact .inr rfl | exact .inr ⟨rfl,rfl⟩)
  ·have hb : (p.2 == x) = false:=by simp [h]
   have hb2 : (x == p.2) = false:=beq_eq_false_iff_ne.2 fun e=>h e.symm
   rw [hb2,Bool.false_or]
   simp -implicitDefEqProofs (maxSteps:=5000000) only [go_sem,simprocAttr,itr,itq,ix,hc,h3,wt,hd,ix2,hc2,r2,hb,e2]
   exact key _ _ _ _ _ _ _ _ _ _ _ _ _ _ _ _ _ _ _ _ _ (by omega)
set_option maxHeartbeats 4000000 in
theorem heldL1 (x2 x3 : AV) : ∀ (m i : Nat) (j6 j7 j8 j9 j10 j11 j12 j13 j14 j15 j16 j17 j18 j19 j20 j21 j22 j23 j24 j25 j26 j27 j28 j29 j30 j31 j32 j33 : AV),i + m = L.length →
  Outs (LP1 l88x1 [v,.int .i64 x,x2,x3,.bool false,.int .i64 (i : Int),j6,j7,j8,j9,j10,j11,j12,j13,j14,j15,j16,j17,j18,j19,j20,j21,j22,j23,j24,j25,j26,j27,j28,j29,j30,j31,j32,j33] H) fun e t K=>K = H ∧ ∃ fv : Nat → AV,t = [v,.int .i64 x,x2,x3,(fv 4),(fv 5),(fv 6),(fv 7),(fv 8),(fv 9),(fv 10),(fv 11),(fv 12),(fv 13),(fv 14),(fv 15),(fv 16),(fv 17),(fv 18),(fv 19),(fv 20),(fv 21),(fv 22),(fv 23),(fv 24),(fv 25),(fv 26),(fv 27),(fv 28),(fv 29),(fv 30),(fv 31),(fv 32),(fv 33)] ∧ ((e = .exit 0 ∧ (atsS (L.drop i)).contains x = false) ∨ (e = .ret ∧ fv 4 = .bool true ∧ (atsS (L.drop i)).contains x = true)):=by
 intro m
 obtain ⟨L0,hL0⟩ : ∃ L,L = LP1 l88x1:=⟨_,rfl⟩
 have lo:=zAp hL0
 have fl:=fi.1
 have wl:=g.len
 rw [← hL0]
 induction m with
 | zero =>
  intro i j6 j7 j8 j9 j10 j11 j12 j13 j14 j15 j16 j17 j18 j19 j20 j21 j22 j23 j24 j25 j26 j27 j28 j29 j30 j31 j32 j33 hi
  obtain rfl : i = L.length:=by omega
  have hd : decide ((L.length : Int) < (L.length : Int)) = false:=by simp
  rw [lo,List.drop_length]
  unfold l88x1
  simp -implicitDefEqProofs (maxSteps:=5000000) only [go_sem,simprocAttr,itr,itq,wl,hd,zAg,zAb]
  exact exF2 rfl (.inl rfl)
 | succ m ih =>
  intro i j6 j7 j8 j9 j10 j11 j12 j13 j14 j15 j16 j17 j18 j19 j20 j21 j22 j23 j24 j25 j26 j27 j28 j29 j30 j31 j32 j33 hi
  have hlt : i < L.length:=by omega
  have hd : decide ((i : Int) < (L.length : Int)) = true:=decide_eq_true (by omega)
  have e2 : IntKind.i64.wrap ((i : Int) + 1) = ((i + 1 : Nat) : Int):=by rw [zAk (by omega) (by omega)]; omega
  have hs:=List.getElem?_eq_getElem hlt
  have l0:=heldL0 g fi x hs (m:=L[i].tb.length) (j:=0)
  rw [show ((0 : Nat) : Int) = 0 from rfl,List.drop_zero] at l0
  rw [List.drop_eq_getElem_cons hlt,zIw]
  generalize L[i] = s at *
  have key:=ih (i + 1)
  have ca : (s.tb.map (·.2) ++ atsS (L.drop (i + 1))).contains x = ((s.tb.map (·.2)).contains x || (atsS (L.drop (i + 1))).contains x):=by
   rw [Bool.eq_iff_iff,Bool.or_eq_true,List.contains_iff_mem,List.contains_iff_mem,List.contains_iff_mem,List.mem_append]
  rw [ca,lo]
  unfold l88x1
  simp -implicitDefEqProofs (maxSteps:=5000000) only [go_sem,simprocAttr,itr,itq,zAi,wl,hd]
  unfold LP1 at l0
  generalize (envL prog).loop (runC (envL prog) (l88x0 (envL prog))) = LL0 at l0 ⊢
  refine zAq (fun r=>seqR (seqR (zAt 1 (zAt 2 r)) _) _) (l0 _ _ _ _ _ _ _ _ _ _ _ _ _ _ _ _ _ _ _ _ _ _ _ _ _ _ _ _ _ (by omega)) ?_
  rintro e t K ⟨rfl,fv,rfl,⟨rfl,f4,ho⟩ | ⟨rfl,f4,ho⟩⟩
  ·rw [ho,Bool.false_or]
   simp -implicitDefEqProofs (maxSteps:=5000000) only [go_sem,simprocAttr,itr,itq,f4,e2]
   exact key _ _ _ _ _ _ _ _ _ _ _ _ _ _ _ _ _ _ _ _ _ _ _ _ _ _ _ _ (by omega)
  ·rw [ho,Bool.true_or]
   simp -implicitDefEqProofs (maxSteps:=5000000) only [go_sem,simprocAttr,itr,itq,zAj,zAb]
   exact exF2 rfl (by first | exact .inr f4 | exact .inr ⟨f4,rfl⟩ | exact f4)
theorem heldC : (envL prog).call 88 [v,.int .i64 x] H = some (.bool ((atsS L).contains x),H):=by
 have l0:=heldL1 g fi x (m:=L.length) (i:=0)
 rw [show ((0 : Nat) : Int) = 0 from rfl,List.drop_zero] at l0
 have key : Outs (runC (envL prog) (b88 (envL prog)) ([v,.int .i64 x] ++ List.replicate (34 - [v,AV.int .i64 x].length) .undef) H) fun e' t K=>K = H ∧ fin [.tmp 4] (some (e',t,K)) = some (.bool ((atsS L).contains x),K):=by
  unfold b88
  generalize hQ : (fun (e' : Ex) (t : T) (K : zAc)=>K = H ∧ fin [.tmp 4] (some (e',t,K)) = some (AV.bool ((atsS L).contains x),K)) = Q
  simp -implicitDefEqProofs (maxSteps:=5000000) only [go_sem,simprocAttr,itr,itq,zAi]
  unfold LP1 at l0
  generalize (envL prog).loop (runC (envL prog) (l88x1 (envL prog))) = L0 at l0 ⊢
  refine zAq (fun r=>seqR (zAt 0 r) _) (l0 _ _ _ _ _ _ _ _ _ _ _ _ _ _ _ _ _ _ _ _ _ _ _ _ _ _ _ _ _ _ (by omega)) ?_
  rintro e t K ⟨rfl,fv,rfl,⟨rfl,ho⟩ | ⟨rfl,f4,ho⟩⟩
  ·simp -implicitDefEqProofs (maxSteps:=5000000) only [go_sem,simprocAttr,zAb]
   subst hQ
   rw [ho]
   refine ⟨rfl,?_⟩
   simp -implicitDefEqProofs (maxSteps:=5000000) only [go_sem,simprocAttr]
  ·simp -implicitDefEqProofs (maxSteps:=5000000) only [go_sem,simprocAttr,zAb]
   subst hQ
   rw [ho]
   refine ⟨rfl,?_⟩
   simp -implicitDefEqProofs (maxSteps:=5000000) only [go_sem,simprocAttr,f4]
 obtain ⟨e',t,K,hr,rfl,hf⟩:=key
 rw [c88,hr,hf]; exact zBo rfl
end
def zFz (s : SnS) : Bool:=(Bt.allS s.ch).all fun c=>s.tb.any fun p=>p.1 == c
theorem any_idx (c : Int) (l : List PrS) : (l.any fun p=>p.1 == c) = decide (0 ≤ idxS l c):=by
 rw [Bool.eq_iff_iff,List.any_eq_true,decide_eq_true_eq]
 have h:=zKg (b:=c) (l:=l) (n:=0)
 have r:=zOy l c
 constructor
 ·rintro ⟨p,hp,e⟩
  rcases r with r | r
  ·exact absurd (by simpa using e) (h.1 r p hp)
  ·exact r.1
 ·intro hc
  refine Classical.byContradiction fun hn=>?_
  have : idxF c 0 l = -1:=h.2 fun p hp e=>hn ⟨p,hp,by simp [e]⟩
  unfold idxS at hc; omega
section
variable {H : zAc} {s : SnS} {vc vt vl : AV} {q : Nat} (hq : cellsOf H q = some [.int .i64 s.id,vc,vt]) (pt : IsP H vt s.tb) {zs : List Int} (gl : IS H vl zs) (lt : s.tb.length ≤ 1000) (lz : zs.length ≤ 1000000)
include hq pt gl lt lz
set_option maxHeartbeats 4000000 in
theorem wholeL0 {i : Nat} {c : Int} (hc0 : zs[i]? = some c) (x0 x1 x2 x8 x9 x10 x11 x12 x13 x14 x15 x16 x17 x18 x19 x20 x21 x22 x23 x24 x25 x47 x48 : AV) : ∀ (m j : Nat) (bb : Bool) (j26 j27 j28 j29 j30 j31 j32 j33 j34 j35 j36 j37 j38 j39 j40 j41 j42 j43 j44 j45 j46 : AV),j + m = s.tb.length →
  Outs (LP1 l87x0 [x0,x1,x2,.ptr q 0,vl,.int .i64 (i : Int),.bool bb,.int .i64 (j : Int),x8,x9,x10,x11,x12,x13,x14,x15,x16,x17,x18,x19,x20,x21,x22,x23,x24,x25,j26,j27,j28,j29,j30,j31,j32,j33,j34,j35,j36,j37,j38,j39,j40,j41,j42,j43,j44,j45,j46,x47,x48] H) fun e t K=>e = .exit 2 ∧ K = H ∧ ∃ fv : Nat → AV,t = [x0,x1,x2,.ptr q 0,vl,.int .i64 (i : Int),(fv 6),(fv 7),x8,x9,x10,x11,x12,x13,x14,x15,x16,x17,x18,x19,x20,x21,x22,x23,x24,x25,(fv 26),(fv 27),(fv 28),(fv 29),(fv 30),(fv 31),(fv 32),(fv 33),(fv 34),(fv 35),(fv 36),(fv 37),(fv 38),(fv 39),(fv 40),(fv 41),(fv 42),(fv 43),(fv 44),(fv 45),(fv 46),x47,x48] ∧ fv 6 = .bool (bb || (s.tb.drop j).any fun p=>p.1 == c):=by
 intro m
 obtain ⟨L0,hL0⟩ : ∃ L,L = LP1 l87x0:=⟨_,rfl⟩
 have lo:=zAp hL0
 have wt:=pt.len
 obtain ⟨ad,ix,ld⟩:=gl.idx hc0 .i64
 rw [← hL0]
 induction m with
 | zero =>
  intro j bb j26 j27 j28 j29 j30 j31 j32 j33 j34 j35 j36 j37 j38 j39 j40 j41 j42 j43 j44 j45 j46 hj
  obtain rfl : j = s.tb.length:=by omega
  have hd : decide ((s.tb.length : Int) < (s.tb.length : Int)) = false:=by simp
  rw [lo,List.drop_length,List.any_nil,Bool.or_false]
  unfold l87x0
  simp -implicitDefEqProofs (maxSteps:=5000000) only [go_sem,simprocAttr,itr,itq,hq,wt,hd,zAg,zAb]
  exact exF2 rfl rfl
 | succ m ih =>
  intro j bb j26 j27 j28 j29 j30 j31 j32 j33 j34 j35 j36 j37 j38 j39 j40 j41 j42 j43 j44 j45 j46 hj
  have hlt : j < s.tb.length:=by omega
  have hd : decide ((j : Int) < (s.tb.length : Int)) = true:=decide_eq_true (by omega)
  have e2 : IntKind.i64.wrap ((j : Int) + 1) = ((j + 1 : Nat) : Int):=by rw [zAk (by omega) (by omega)]; omega
  have hy:=List.getElem?_eq_getElem hlt
  rw [List.drop_eq_getElem_cons hlt,List.any_cons,← Bool.or_assoc]
  generalize s.tb[j] = p at *
  obtain ⟨b2,c2,_,ix2,hc2,r1,r2,rt,rle⟩:=pt.idx hy
  have key:=fun bb=>ih (j + 1) bb
  generalize hw : (p.1 == c) = y
  rw [lo]
  unfold l87x0
  cases bb with
  | true =>
   simp -implicitDefEqProofs (maxSteps:=5000000) only [go_sem,simprocAttr,itr,itq,hq,wt,hd,e2]
   exact key true _ _ _ _ _ _ _ _ _ _ _ _ _ _ _ _ _ _ _ _ _ (by omega)
  | false =>
   simp -implicitDefEqProofs (maxSteps:=5000000) only [go_sem,simprocAttr,itr,itq,hq,wt,hd,ix,ld,ix2,hc2,r1,hw,e2]
   exact key y _ _ _ _ _ _ _ _ _ _ _ _ _ _ _ _ _ _ _ _ _ (by omega)
set_option maxHeartbeats 4000000 in
theorem wholeL1 (x0 x1 x8 x9 x10 x11 x12 x13 x14 x15 x16 x17 x18 x19 : AV) : ∀ (m i : Nat) (j6 j7 j20 j21 j22 j23 j24 j25 j26 j27 j28 j29 j30 j31 j32 j33 j34 j35 j36 j37 j38 j39 j40 j41 j42 j43 j44 j45 j46 j47 j48 : AV),i + m = zs.length →
  Outs (LP1 l87x1 [x0,x1,.bool false,.ptr q 0,vl,.int .i64 (i : Int),j6,j7,x8,x9,x10,x11,x12,x13,x14,x15,x16,x17,x18,x19,j20,j21,j22,j23,j24,j25,j26,j27,j28,j29,j30,j31,j32,j33,j34,j35,j36,j37,j38,j39,j40,j41,j42,j43,j44,j45,j46,j47,j48] H) fun e t K=>K = H ∧ ∃ fv : Nat → AV,t = [x0,x1,(fv 2),.ptr q 0,vl,(fv 5),(fv 6),(fv 7),x8,x9,x10,x11,x12,x13,x14,x15,x16,x17,x18,x19,(fv 20),(fv 21),(fv 22),(fv 23),(fv 24),(fv 25),(fv 26),(fv 27),(fv 28),(fv 29),(fv 30),(fv 31),(fv 32),(fv 33),(fv 34),(fv 35),(fv 36),(fv 37),(fv 38),(fv 39),(fv 40),(fv 41),(fv 42),(fv 43),(fv 44),(fv 45),(fv 46),(fv 47),(fv 48)] ∧ ((e = .exit 0 ∧ ((zs.drop i).all fun c=>s.tb.any fun p=>p.1 == c) = true) ∨ (e = .ret ∧ fv 2 = .bool false ∧ ((zs.drop i).all fun c=>s.tb.any fun p=>p.1 == c) = false)):=by
 intro m
 obtain ⟨L0,hL0⟩ : ∃ L,L = LP1 l87x1:=⟨_,rfl⟩
 have lo:=zAp hL0
 have wl:=gl.len
 rw [← hL0]
 induction m with
 | zero =>
  intro i j6 j7 j20 j21 j22 j23 j24 j25 j26 j27 j28 j29 j30 j31 j32 j33 j34 j35 j36 j37 j38 j39 j40 j41 j42 j43 j44 j45 j46 j47 j48 hi
  obtain rfl : i = zs.length:=by omega
  have hd : decide ((zs.length : Int) < (zs.length : Int)) = false:=by simp
  rw [lo,List.drop_length]
  unfold l87x1
  simp -implicitDefEqProofs (maxSteps:=5000000) only [go_sem,simprocAttr,itr,itq,wl,hd,zAg,zAb]
  exact exF2 rfl (.inl (by first | rfl | trivial))
 | succ m ih =>
  intro i j6 j7 j20 j21 j22 j23 j24 j25 j26 j27 j28 j29 j30 j31 j32 j33 j34 j35 j36 j37 j38 j39 j40 j41 j42 j43 j44 j45 j46 j47 j48 hi
  have hlt : i < zs.length:=by omega
  have hd : decide ((i : Int) < (zs.length : Int)) = true:=decide_eq_true (by omega)
  have e2 : IntKind.i64.wrap ((i : Int) + 1) = ((i + 1 : Nat) : Int):=by rw [zAk (by omega) (by omega)]; omega
  have hs:=List.getElem?_eq_getElem hlt
  have l0:=wholeL0 hq pt gl lt lz hs (m:=s.tb.length) (j:=0) (bb:=false)
  rw [show ((0 : Nat) : Int) = 0 from rfl,List.drop_zero,Bool.false_or] at l0
  rw [List.drop_eq_getElem_cons hlt,List.all_cons]
  generalize zs[i] = c at *
  have key:=ih (i + 1)
  generalize (s.tb.any fun p=>p.1 == c) = y at *
  rw [lo]
  unfold l87x1
  simp -implicitDefEqProofs (maxSteps:=5000000) only [go_sem,simprocAttr,itr,itq,zAi,wl,hd]
  unfold LP1 at l0
  generalize (envL prog).loop (runC (envL prog) (l87x0 (envL prog))) = LL0 at l0 ⊢
  refine zAq (fun r=>seqR (seqR (zAt 1 (seqR (zAt 2 r) _)) _) _) (l0 _ _ _ _ _ _ _ _ _ _ _ _ _ _ _ _ _ _ _ _ _ _ _ _ _ _ _ _ _ _ _ _ _ _ _ _ _ _ _ _ _ _ _ _ (by omega)) ?_
  rintro e t K ⟨rfl,rfl,fv,rfl,f6⟩
  cases y with
  | true =>
   rw [Bool.true_and]
   simp -implicitDefEqProofs (maxSteps:=5000000) only [go_sem,simprocAttr,itr,itq,f6,e2]
   exact key _ _ _ _ _ _ _ _ _ _ _ _ _ _ _ _ _ _ _ _ _ _ _ _ _ _ _ _ _ _ _ (by omega)
  | false =>
   rw [Bool.false_and]
   simp -implicitDefEqProofs (maxSteps:=5000000) only [go_sem,simprocAttr,itr,itq,f6,zAj,zAb]
   exact exF2 rfl (by first | exact .inr rfl | exact rfl)
end
set_option maxHeartbeats 4000000 in
theorem wholeC {H : zAc} {v : AV} {L : List SnS} (g : IsC H v L) (fi : Fits L) : (envL prog).call 87 [v] H = some (.bool (match L.getLast? with | none=>true | some s=>zFz s),H):=by
 have wl:=g.len
 have fl:=fi.1
 by_cases h0 : L.length = 0
 ·have d0 : ((L.length : Int) == 0) = true:=by simp [h0]
  have : L = []:=List.eq_nil_of_length_eq_zero h0
  subst this
  show _ = some (AV.bool true,H)
  rw [c87]
  unfold b87
  simp -implicitDefEqProofs (maxSteps:=5000000) only [go_sem,simprocAttr,itr,itq,wl,d0]
 have d0 : ((L.length : Int) == 0) = false:=by rw [beq_eq_false_iff_ne]; omega
 have hx:=List.getElem?_eq_getElem (show L.length - 1 < L.length by omega)
 rw [show L.getLast? = L[L.length - 1]? from List.getLast?_eq_getElem?,hx]
 have ft:=zCl fi hx
 generalize L[L.length - 1] = s at *
 show _ = some (AV.bool (zFz s),H)
 obtain ⟨bb,cs,vc,vt,sb,ix,hc,h1,h2,h3,ht,hle,hbs,hip⟩:=g.idx hx
 have w1 : IntKind.i64.wrap ((L.length : Int) - 1) = ((L.length - 1 : Nat) : Int):=by rw [zAk (by omega) (by omega)]; omega
 obtain ⟨K1,hK1⟩ : ∃ K1,K1 = H ++ [ABlk.rw [.int .i64 s.id,vc,vt]]:=⟨_,rfl⟩
 have A1 : Adds H K1:=⟨_,hK1⟩
 have cq : cellsOf K1 H.length = some [.int .i64 s.id,vc,vt]:=by rw [hK1]; unfold cellsOf; simp
 obtain ⟨w,K2,A2,i2,ea⟩:=Bt.allRA (A1.bs hbs) (by have:=ft.lc; omega)
 have A:=A1.trans A2
 have lz : (Bt.allS s.ch).length ≤ 1000000:=by have:=Bt.allS_len s.ch; have:=ft.lc; omega
 have l1:=wholeL1 (A2.cells cq) (hip.adds A) i2 ft.lt lz (m:=(Bt.allS s.ch).length) (i:=0)
 rw [show ((0 : Nat) : Int) = 0 from rfl,List.drop_zero] at l1
 have cc:=hbs.cell
 have ct:=hip.cell
 have hK1:=hK1.symm
 have key : Outs (runC (envL prog) (b87 (envL prog)) ([v] ++ List.replicate (49 - [v].length) .undef) H) fun e' t K=>K = K2 ∧ fin [.tmp 2] (some (e',t,K)) = some (.bool (zFz s),K):=by
  unfold b87
  generalize hQ : (fun (e' : Ex) (t : T) (K : zAc)=>K = K2 ∧ fin [.tmp 2] (some (e',t,K)) = some (AV.bool (zFz s),K)) = Q
  simp -implicitDefEqProofs (maxSteps:=5000000) only [go_sem,simprocAttr,itr,itq,zAi,wl,d0,w1,ix,hc,ht,hle,zAe,cc.2,ct.2,hK1,cq,ea]
  unfold LP1 at l1
  generalize (envL prog).loop (runC (envL prog) (l87x1 (envL prog))) = L0 at l1 ⊢
  refine zAq (fun r=>seqR (zAt 0 r) _) (l1 _ _ _ _ _ _ _ _ _ _ _ _ _ _ _ _ _ _ _ _ _ _ _ _ _ _ _ _ _ _ _ _ _ _ _ _ _ _ _ _ _ _ _ _ _ (by omega)) ?_
  rintro e t K ⟨rfl,fv,rfl,⟨rfl,ho⟩ | ⟨rfl,f2,ho⟩⟩
  ·simp -implicitDefEqProofs (maxSteps:=5000000) only [go_sem,simprocAttr,zAb]
   subst hQ
   unfold zFz
   rw [ho]
   refine ⟨rfl,?_⟩
   simp -implicitDefEqProofs (maxSteps:=5000000) only [go_sem,simprocAttr]
  ·simp -implicitDefEqProofs (maxSteps:=5000000) only [go_sem,simprocAttr,zAb]
   subst hQ
   unfold zFz
   rw [ho]
   refine ⟨rfl,?_⟩
   simp -implicitDefEqProofs (maxSteps:=5000000) only [go_sem,simprocAttr,f2]
 obtain ⟨e',t,K,hr,rfl,hf⟩:=key
 rw [c87,hr,hf]; exact A.trimS rfl
end Go.Proofs.Ythgflkfhjnbheaa.G14
end
section
namespace Go.Proofs.Ythgflkfhjnbheaa.G14
open Go Go.Proofs.Ythgflkfhjnbheaa.Eng
def zGu (l : List PrS) : List Int:=(l.filter fun p=>p.2 != 255).map (·.2)
theorem zJb (l : List PrS) (p : PrS) (h : p.2 ≠ 255) : zGu (l ++ [p]) = zGu l ++ [p.2]:=by
 unfold zGu; rw [List.filter_append,List.map_append,List.filter_cons,if_pos (bne_iff_ne.2 h)]; rfl
theorem zJc (l : List PrS) (p : PrS) (h : p.2 = 255) : zGu (l ++ [p]) = zGu l:=by
 unfold zGu; rw [List.filter_append,List.map_append,List.filter_cons,if_neg (by simp [h])]; simp
theorem zLh (l : List PrS) (x : Int) (h : x ≠ 255) : (zGu l).contains x = (l.map (·.2)).contains x:=by
 unfold zGu
 rw [Bool.eq_iff_iff,List.contains_iff_mem,List.contains_iff_mem,List.mem_map,List.mem_map]
 constructor
 ·rintro ⟨p,hp,e⟩; exact ⟨p,(List.mem_filter.1 hp).1,e⟩
 ·rintro ⟨p,hp,e⟩; exact ⟨p,List.mem_filter.2 ⟨hp,bne_iff_ne.2 (e ▸ h)⟩,e⟩
theorem zF4 (l : List PrS) : (zGu l).length ≤ l.length:=by unfold zGu; rw [List.length_map]; exact List.length_filter_le _ _
theorem zJd (kd b ar : Int) (hd : List Int) (pre : List PrS) (x : PrS) (l : List PrS) : zEg kd b ar hd pre (x :: l) = (zLy kd b ar hd pre x && zEg kd b ar hd (pre ++ [x]) l):=rfl
section
variable {b s w a r kd pd : Int} {H : zAc} {vp vh : AV} {P : List PrS} {hd : List Int} (gp : IsP H vp P) (lp : P.length ≤ 1000) (gh : IS H vh hd) (lh : hd.length ≤ 1000000)
include gp lp gh lh
set_option maxHeartbeats 64000000 in
theorem planL0 {q p5 : Nat} (hq : cellsOf H q = some [.int .i64 b,.int .i64 s,.int .i64 w,.int .i64 a,.int .i64 r]) (h5 : cellsOf H p5 = some [.int .i64 kd,.int .i64 pd,vp]) (x0 x1 x3 x11 x12 x13 x14 x15 x16 x98 x99 x100 x101 x102 x103 x104 x105 x106 x107 x108 x109 x110 x111 x112 x113 x114 x115 x116 x117 x118 x119 x120 x121 x122 x123 x124 x125 x126 x127 x128 x129 x130 x131 x132 x133 x134 x135 : AV) : ∀ (m i : Nat) (K : zAc) (vn : AV) (j8 j9 j10 j20 j21 j22 j23 j24 j25 j26 j27 j28 j29 j30 j31 j32 j33 j34 j35 j36 j37 j38 j39 j40 j41 j42 j43 j44 j45 j46 j47 j48 j49 j50 j51 j52 j53 j54 j55 j56 j57 j58 j59 j60 j61 j62 j63 j64 j65 j66 j67 j68 j69 j70 j71 j72 j73 j74 j75 j76 j77 j78 j79 j80 j81 j82 j83 j84 j85 j86 j87 j88 j89 j90 j91 j92 j93 j94 j95 j96 j97 : AV),Adds H K → FS K H.length vn (if kd = 2 then zGu (P.take i) else []) → i + m = P.length →
  Outs (LP1 l47x0 [x0,x1,.ptr q 0,x3,.bool false,.ptr p5 0,vh,vn,j8,j9,j10,x11,x12,x13,x14,x15,x16,vp,.int .i64 (P.length : Int),.int .i64 (i : Int),j20,j21,j22,j23,j24,j25,j26,j27,j28,j29,j30,j31,j32,j33,j34,j35,j36,j37,j38,j39,j40,j41,j42,j43,j44,j45,j46,j47,j48,j49,j50,j51,j52,j53,j54,j55,j56,j57,j58,j59,j60,j61,j62,j63,j64,j65,j66,j67,j68,j69,j70,j71,j72,j73,j74,j75,j76,j77,j78,j79,j80,j81,j82,j83,j84,j85,j86,j87,j88,j89,j90,j91,j92,j93,j94,j95,j96,j97,x98,x99,x100,x101,x102,x103,x104,x105,x106,x107,x108,x109,x110,x111,x112,x113,x114,x115,x116,x117,x118,x119,x120,x121,x122,x123,x124,x125,x126,x127,x128,x129,x130,x131,x132,x133,x134,x135] K) fun e t K'=>Adds H K' ∧ ∃ fv : Nat → AV,t = [x0,x1,.ptr q 0,x3,(fv 4),.ptr p5 0,vh,(fv 7),(fv 8),(fv 9),(fv 10),x11,x12,x13,x14,x15,x16,vp,.int .i64 (P.length : Int),(fv 19),(fv 20),(fv 21),(fv 22),(fv 23),(fv 24),(fv 25),(fv 26),(fv 27),(fv 28),(fv 29),(fv 30),(fv 31),(fv 32),(fv 33),(fv 34),(fv 35),(fv 36),(fv 37),(fv 38),(fv 39),(fv 40),(fv 41),(fv 42),(fv 43),(fv 44),(fv 45),(fv 46),(fv 47),(fv 48),(fv 49),(fv 50),(fv 51),(fv 52),(fv 53),(fv 54),(fv 55),(fv 56),(fv 57),(fv 58),(fv 59),(fv 60),(fv 61),(fv 62),(fv 63),(fv 64),(fv 65),(fv 66),(fv 67),(fv 68),(fv 69),(fv 70),(fv 71),(fv 72),(fv 73),(fv 74),(fv 75),(fv 76),(fv 77),(fv 78),(fv 79),(fv 80),(fv 81),(fv 82),(fv 83),(fv 84),(fv 85),(fv 86),(fv 87),(fv 88),(fv 89),(fv 90),(fv 91),(fv 92),(fv 93),(fv 94),(fv 95),(fv 96),(fv 97),x98,x99,x100,x101,x102,x103,x104,x105,x106,x107,x108,x109,x110,x111,x112,x113,x114,x115,x116,x117,x118,x119,x120,x121,x122,x123,x124,x125,x126,x127,x128,x129,x130,x131,x132,x133,x134,x135] ∧ fv 4 = .bool false ∧ ((e = .exit 0 ∧ zEg kd b a hd (P.take i) (P.drop i) = true) ∨ (e = .ret ∧ zEg kd b a hd (P.take i) (P.drop i) = false)):=by
 intro m
 obtain ⟨L0,hL0⟩ : ∃ L,L = LP1 l47x0:=⟨_,rfl⟩
 have lo:=zAp hL0
 rw [← hL0]
 induction m with
 | zero =>
  intro i K vn j8 j9 j10 j20 j21 j22 j23 j24 j25 j26 j27 j28 j29 j30 j31 j32 j33 j34 j35 j36 j37 j38 j39 j40 j41 j42 j43 j44 j45 j46 j47 j48 j49 j50 j51 j52 j53 j54 j55 j56 j57 j58 j59 j60 j61 j62 j63 j64 j65 j66 j67 j68 j69 j70 j71 j72 j73 j74 j75 j76 j77 j78 j79 j80 j81 j82 j83 j84 j85 j86 j87 j88 j89 j90 j91 j92 j93 j94 j95 j96 j97 aK gn hi
  obtain rfl : i = P.length:=by omega
  have hd' : decide ((P.length : Int) < (P.length : Int)) = false:=by simp
  rw [List.drop_length,lo]
  unfold l47x0
  simp -implicitDefEqProofs (maxSteps:=5000000) only [go_sem,simprocAttr,hd',zAg,zAb]
  exact ⟨aK,exF2 rfl ⟨rfl,by first | trivial | exact .inl rfl⟩⟩
 | succ m ih =>
  intro i K vn j8 j9 j10 j20 j21 j22 j23 j24 j25 j26 j27 j28 j29 j30 j31 j32 j33 j34 j35 j36 j37 j38 j39 j40 j41 j42 j43 j44 j45 j46 j47 j48 j49 j50 j51 j52 j53 j54 j55 j56 j57 j58 j59 j60 j61 j62 j63 j64 j65 j66 j67 j68 j69 j70 j71 j72 j73 j74 j75 j76 j77 j78 j79 j80 j81 j82 j83 j84 j85 j86 j87 j88 j89 j90 j91 j92 j93 j94 j95 j96 j97 aK gn hi
  have hlt : i < P.length:=by omega
  have hd' : decide ((i : Int) < (P.length : Int)) = true:=decide_eq_true (by omega)
  have e2 : IntKind.i64.wrap ((i : Int) + 1) = ((i + 1 : Nat) : Int):=by rw [zAk (by omega) (by omega)]; omega
  have hx:=List.getElem?_eq_getElem hlt
  have tk : P.take (i + 1) = P.take i ++ [P[i]]:=by rw [List.take_add_one,hx]; rfl
  have tl : (P.take i).length = i:=by rw [List.length_take]; omega
  have key:=ih (i + 1)
  rw [tk] at key
  rw [List.drop_eq_getElem_cons hlt,zJd]
  have prev : (i = 0 ∧ (P.take i).getLast? = none) ∨ ∃ n y b2 c2,i = n + 1 ∧ (P.take i).getLast? = some y ∧ zBj 2 vp (.int .i64 (n : Int)) = some (.ptr b2 (n * 2)) ∧ cellsOf H b2 = some c2 ∧ c2[n * 2]? = some (.int .i64 y.1):=by
   cases i with
   | zero=>exact .inl ⟨rfl,by simp⟩
   | succ n =>
    have hn : n < P.length:=by omega
    obtain ⟨b2,c2,_,ix2,hc2,r1,_,_,_⟩:=gp.idx (List.getElem?_eq_getElem hn)
    exact .inr ⟨n,P[n],b2,c2,rfl,by rw [zGe hn]; exact List.getElem?_eq_getElem hn,ix2,hc2,r1⟩
  generalize P[i] = x at *
  obtain ⟨bb,cs,sb,ix,hc0,h1,h2,ht,hle⟩:=gp.idx hx
  unfold prC at ht
  have hc:=aK.cells hc0
  obtain ⟨K1,hK1⟩ : ∃ K1,K1 = K ++ [ABlk.rw [.int .i64 x.1,.int .i64 x.2]]:=⟨_,rfl⟩
  have A1 : Adds K K1:=⟨_,hK1⟩
  have a1:=aK.trans A1
  have cq : cellsOf K1 K.length = some [.int .i64 x.1,.int .i64 x.2]:=by rw [hK1]; unfold cellsOf; simp
  have eh:=zE8 (a1.is gh) (by omega) x.2
  have cg:=a1.cells hq
  have c5:=a1.cells h5
  have hK1:=hK1.symm
  have gn1 : FS K1 H.length vn (if kd = 2 then zGu (P.take i) else []):=gn.frT (Fr.adds A1 (fun _=>False)) fun _ _ h=>h
  unfold zLy
  rw [lo]
  unfold l47x0
  by_cases c1 : 0 ≤ x.1
  case neg =>
   have d1 : decide (x.1 < 0) = true:=decide_eq_true (by omega)
   rw [decide_eq_false c1,Bool.false_and,Bool.false_and]
   simp -implicitDefEqProofs (maxSteps:=5000000) only [go_sem,simprocAttr,itr,itq,hd',ix,hc,ht,hle,hK1,cq,eh,d1,zAj,zAb]
   exact ⟨a1,exF2 rfl (by first | rfl | exact ⟨rfl,.inr rfl⟩ | exact ⟨rfl,trivial⟩ | exact ⟨rfl,.inr trivial⟩)⟩
  have d1 : decide (x.1 < 0) = false:=decide_eq_false (by omega)
  rw [decide_eq_true c1,Bool.true_and]
  by_cases c2 : x.1 < b
  case neg =>
   have d2 : decide (x.1 ≥ b) = true:=decide_eq_true (by omega)
   rw [decide_eq_false c2,Bool.false_and,Bool.false_and]
   simp -implicitDefEqProofs (maxSteps:=5000000) only [go_sem,simprocAttr,itr,itq,hd',ix,hc,ht,hle,hK1,cq,eh,d1,cg,d2,zAj,zAb]
   exact ⟨a1,exF2 rfl (by first | rfl | exact ⟨rfl,.inr rfl⟩ | exact ⟨rfl,trivial⟩ | exact ⟨rfl,.inr trivial⟩)⟩
  have d2 : decide (x.1 ≥ b) = false:=decide_eq_false (by omega)
  rw [decide_eq_true c2,Bool.true_and]
  rcases prev with ⟨hi0,gl⟩ | ⟨n,y,b2,c2',hin,gl,ix2,hc2,r1⟩
  ·have dz : decide ((i : Int) > 0) = false:=decide_eq_false (by omega)
   rw [gl]
   show Outs _ fun e t K'=>Adds H K' ∧ ∃ fv : Nat → AV,t = [x0,x1,.ptr q 0,x3,(fv 4),.ptr p5 0,vh,(fv 7),(fv 8),(fv 9),(fv 10),x11,x12,x13,x14,x15,x16,vp,.int .i64 (P.length : Int),(fv 19),(fv 20),(fv 21),(fv 22),(fv 23),(fv 24),(fv 25),(fv 26),(fv 27),(fv 28),(fv 29),(fv 30),(fv 31),(fv 32),(fv 33),(fv 34),(fv 35),(fv 36),(fv 37),(fv 38),(fv 39),(fv 40),(fv 41),(fv 42),(fv 43),(fv 44),(fv 45),(fv 46),(fv 47),(fv 48),(fv 49),(fv 50),(fv 51),(fv 52),(fv 53),(fv 54),(fv 55),(fv 56),(fv 57),(fv 58),(fv 59),(fv 60),(fv 61),(fv 62),(fv 63),(fv 64),(fv 65),(fv 66),(fv 67),(fv 68),(fv 69),(fv 70),(fv 71),(fv 72),(fv 73),(fv 74),(fv 75),(fv 76),(fv 77),(fv 78),(fv 79),(fv 80),(fv 81),(fv 82),(fv 83),(fv 84),(fv 85),(fv 86),(fv 87),(fv 88),(fv 89),(fv 90),(fv 91),(fv 92),(fv 93),(fv 94),(fv 95),(fv 96),(fv 97),x98,x99,x100,x101,x102,x103,x104,x105,x106,x107,x108,x109,x110,x111,x112,x113,x114,x115,x116,x117,x118,x119,x120,x121,x122,x123,x124,x125,x126,x127,x128,x129,x130,x131,x132,x133,x134,x135] ∧ fv 4 = .bool false ∧ ((e = .exit 0 ∧ ((true && ((!(kd == 1) || hd.contains x.2) && (!(kd == 2) || ((x.2 == 255) || (decide (0 ≤ x.2) && (decide (x.2 < a) && (!hd.contains x.2 && !((P.take i).map (·.2)).contains x.2))))))) && zEg kd b a hd (P.take i ++ [x]) (P.drop (i + 1))) = true) ∨ (e = .ret ∧ ((true && ((!(kd == 1) || hd.contains x.2) && (!(kd == 2) || ((x.2 == 255) || (decide (0 ≤ x.2) && (decide (x.2 < a) && (!hd.contains x.2 && !((P.take i).map (·.2)).contains x.2))))))) && zEg kd b a hd (P.take i ++ [x]) (P.drop (i + 1))) = false))
   rw [Bool.true_and]
   by_cases k1 : kd = 1
   ·have q1 : (kd == 1) = true:=by simp [k1]
    have q2 : (kd == 2) = false:=by simp [k1]
    have q3 : (kd != 2) = true:=by simp [k1]
    have kn : ¬ kd = 2:=by omega
    rw [q1,q2,Bool.not_true,Bool.false_or,Bool.not_false,Bool.true_or,Bool.and_true]
    rw [if_neg kn] at gn1
    simp only [if_neg kn] at key
    rcases hh : hd.contains x.2 with _ | _ <;> rw [hh] at eh
    ·rw [Bool.false_and]
     simp -implicitDefEqProofs (maxSteps:=5000000) only [go_sem,simprocAttr,itr,itq,hd',ix,hc,ht,hle,hK1,cq,eh,d1,cg,d2,c5,dz,q1,zAj,zAb]
     exact ⟨a1,exF2 rfl (by first | rfl | exact ⟨rfl,.inr rfl⟩ | exact ⟨rfl,trivial⟩ | exact ⟨rfl,.inr trivial⟩)⟩
    ·rw [Bool.true_and]
     simp -implicitDefEqProofs (maxSteps:=5000000) only [go_sem,simprocAttr,itr,itq,hd',ix,hc,ht,hle,hK1,cq,eh,d1,cg,d2,c5,dz,q1,q3,e2]
     exact key K1 vn _ _ _ _ _ _ _ _ _ _ _ _ _ _ _ _ _ _ _ _ _ _ _ _ _ _ _ _ _ _ _ _ _ _ _ _ _ _ _ _ _ _ _ _ _ _ _ _ _ _ _ _ _ _ _ _ _ _ _ _ _ _ _ _ _ _ _ _ _ _ _ _ _ _ _ _ _ _ _ _ _ a1 gn1 (by omega)
   have q1 : (kd == 1) = false:=by simp [k1]
   rw [q1,Bool.not_false,Bool.true_or,Bool.true_and]
   by_cases k2 : kd = 2
   case neg =>
    have q2 : (kd == 2) = false:=by simp [k2]
    have q3 : (kd != 2) = true:=bne_iff_ne.2 k2
    rw [q2,Bool.not_false,Bool.true_or,Bool.true_and]
    rw [if_neg k2] at gn1
    simp only [if_neg k2] at key
    simp -implicitDefEqProofs (maxSteps:=5000000) only [go_sem,simprocAttr,itr,itq,hd',ix,hc,ht,hle,hK1,cq,eh,d1,cg,d2,c5,dz,q1,q3,e2]
    exact key K1 vn _ _ _ _ _ _ _ _ _ _ _ _ _ _ _ _ _ _ _ _ _ _ _ _ _ _ _ _ _ _ _ _ _ _ _ _ _ _ _ _ _ _ _ _ _ _ _ _ _ _ _ _ _ _ _ _ _ _ _ _ _ _ _ _ _ _ _ _ _ _ _ _ _ _ _ _ _ _ _ _ _ a1 gn1 (by omega)
   have q2 : (kd == 2) = true:=by simp [k2]
   have q3 : (kd != 2) = false:=by simp [k2]
   rw [q2,Bool.not_true,Bool.false_or]
   rw [if_pos k2] at gn1
   simp only [if_pos k2] at key
   by_cases z : x.2 = 255
   ·have z1 : (x.2 == 255) = true:=by simp [z]
    rw [z1,Bool.true_or,Bool.true_and]
    rw [zJc _ _ z] at key
    simp -implicitDefEqProofs (maxSteps:=5000000) only [go_sem,simprocAttr,itr,itq,hd',ix,hc,ht,hle,hK1,cq,eh,d1,cg,d2,c5,dz,q1,q3,z1,e2]
    exact key K1 vn _ _ _ _ _ _ _ _ _ _ _ _ _ _ _ _ _ _ _ _ _ _ _ _ _ _ _ _ _ _ _ _ _ _ _ _ _ _ _ _ _ _ _ _ _ _ _ _ _ _ _ _ _ _ _ _ _ _ _ _ _ _ _ _ _ _ _ _ _ _ _ _ _ _ _ _ _ _ _ _ _ a1 gn1 (by omega)
   have z1 : (x.2 == 255) = false:=by simp [z]
   rw [z1,Bool.false_or]
   by_cases p1 : 0 ≤ x.2
   case neg =>
    have y1 : decide (x.2 < 0) = true:=decide_eq_true (by omega)
    rw [decide_eq_false p1,Bool.false_and,Bool.false_and]
    simp -implicitDefEqProofs (maxSteps:=5000000) only [go_sem,simprocAttr,itr,itq,hd',ix,hc,ht,hle,hK1,cq,eh,d1,cg,d2,c5,dz,q1,q3,z1,y1,zAj,zAb]
    exact ⟨a1,exF2 rfl (by first | rfl | exact ⟨rfl,.inr rfl⟩ | exact ⟨rfl,trivial⟩ | exact ⟨rfl,.inr trivial⟩)⟩
   have y1 : decide (x.2 < 0) = false:=decide_eq_false (by omega)
   rw [decide_eq_true p1,Bool.true_and]
   by_cases p2 : x.2 < a
   case neg =>
    have y2 : decide (x.2 ≥ a) = true:=decide_eq_true (by omega)
    rw [decide_eq_false p2,Bool.false_and,Bool.false_and]
    simp -implicitDefEqProofs (maxSteps:=5000000) only [go_sem,simprocAttr,itr,itq,hd',ix,hc,ht,hle,hK1,cq,eh,d1,cg,d2,c5,dz,q1,q3,z1,y1,y2,zAj,zAb]
    exact ⟨a1,exF2 rfl (by first | rfl | exact ⟨rfl,.inr rfl⟩ | exact ⟨rfl,trivial⟩ | exact ⟨rfl,.inr trivial⟩)⟩
   have y2 : decide (x.2 ≥ a) = false:=decide_eq_false (by omega)
   rw [decide_eq_true p2,Bool.true_and]
   rcases hh : hd.contains x.2 with _ | _ <;> rw [hh] at eh
   case true =>
    rw [Bool.not_true,Bool.false_and,Bool.false_and]
    simp -implicitDefEqProofs (maxSteps:=5000000) only [go_sem,simprocAttr,itr,itq,hd',ix,hc,ht,hle,hK1,cq,eh,d1,cg,d2,c5,dz,q1,q3,z1,y1,y2,zAj,zAb]
    exact ⟨a1,exF2 rfl (by first | rfl | exact ⟨rfl,.inr rfl⟩ | exact ⟨rfl,trivial⟩ | exact ⟨rfl,.inr trivial⟩)⟩
   rw [Bool.not_false,Bool.true_and]
   have en:=zE8 (FS.is gn1) (by have:=zF4 (P.take i); omega) x.2
   rw [zLh _ _ z] at en
   rcases hm : ((P.take i).map (·.2)).contains x.2 with _ | _ <;> rw [hm] at en
   case true =>
    try rw [hm]
    rw [Bool.not_true,Bool.false_and]
    simp -implicitDefEqProofs (maxSteps:=5000000) only [go_sem,simprocAttr,itr,itq,hd',ix,hc,ht,hle,hK1,cq,eh,d1,cg,d2,c5,dz,q1,q3,z1,y1,y2,en,zAj,zAb]
    exact ⟨a1,exF2 rfl (by first | rfl | exact ⟨rfl,.inr rfl⟩ | exact ⟨rfl,trivial⟩ | exact ⟨rfl,.inr trivial⟩)⟩
   try rw [hm]
   rw [Bool.not_false,Bool.true_and]
   rw [zJb _ _ z] at key
   obtain ⟨K2,hK2⟩ : ∃ K2,K2 = K1 ++ [ABlk.rw [.int .i64 x.2]]:=⟨_,rfl⟩
   have A2 : Adds K1 K2:=⟨_,hK2⟩
   have cs2 : cellsOf K2 K1.length = some [.int .i64 x.2]:=by rw [hK2]; unfold cellsOf; simp
   obtain ⟨w',K3,ep,f3,fr3,sb3,l3⟩:=FS.push (gn1.frT (Fr.adds A2 (fun _=>False)) fun _ _ h=>h) cs2 (by have:=zF4 (P.take i); omega) (by have:=a1.len; have:=A2.len; omega)
   have a3 : Adds H K3:=fr3.old (a1.trans A2) fun b hb h=>by have:=(FS.out gn1 b h).1; omega
   have hK2:=hK2.symm
   simp -implicitDefEqProofs (maxSteps:=5000000) only [go_sem,simprocAttr,itr,itq,hd',ix,hc,ht,hle,hK1,cq,eh,d1,cg,d2,c5,dz,q1,q3,z1,y1,y2,en,hK2,ep,e2]
   exact key K3 w' _ _ _ _ _ _ _ _ _ _ _ _ _ _ _ _ _ _ _ _ _ _ _ _ _ _ _ _ _ _ _ _ _ _ _ _ _ _ _ _ _ _ _ _ _ _ _ _ _ _ _ _ _ _ _ _ _ _ _ _ _ _ _ _ _ _ _ _ _ _ _ _ _ _ _ _ _ _ _ _ _ a3 f3 (by omega)
  ·have dz : decide ((i : Int) > 0) = true:=decide_eq_true (by omega)
   have il2 : IntKind.i64.wrap ((i : Int) - 1) = (n : Int):=by rw [zAk (by omega) (by omega)]; omega
   have hc3:=a1.cells hc2
   rw [gl]
   show Outs _ fun e t K'=>Adds H K' ∧ ∃ fv : Nat → AV,t = [x0,x1,.ptr q 0,x3,(fv 4),.ptr p5 0,vh,(fv 7),(fv 8),(fv 9),(fv 10),x11,x12,x13,x14,x15,x16,vp,.int .i64 (P.length : Int),(fv 19),(fv 20),(fv 21),(fv 22),(fv 23),(fv 24),(fv 25),(fv 26),(fv 27),(fv 28),(fv 29),(fv 30),(fv 31),(fv 32),(fv 33),(fv 34),(fv 35),(fv 36),(fv 37),(fv 38),(fv 39),(fv 40),(fv 41),(fv 42),(fv 43),(fv 44),(fv 45),(fv 46),(fv 47),(fv 48),(fv 49),(fv 50),(fv 51),(fv 52),(fv 53),(fv 54),(fv 55),(fv 56),(fv 57),(fv 58),(fv 59),(fv 60),(fv 61),(fv 62),(fv 63),(fv 64),(fv 65),(fv 66),(fv 67),(fv 68),(fv 69),(fv 70),(fv 71),(fv 72),(fv 73),(fv 74),(fv 75),(fv 76),(fv 77),(fv 78),(fv 79),(fv 80),(fv 81),(fv 82),(fv 83),(fv 84),(fv 85),(fv 86),(fv 87),(fv 88),(fv 89),(fv 90),(fv 91),(fv 92),(fv 93),(fv 94),(fv 95),(fv 96),(fv 97),x98,x99,x100,x101,x102,x103,x104,x105,x106,x107,x108,x109,x110,x111,x112,x113,x114,x115,x116,x117,x118,x119,x120,x121,x122,x123,x124,x125,x126,x127,x128,x129,x130,x131,x132,x133,x134,x135] ∧ fv 4 = .bool false ∧ ((e = .exit 0 ∧ ((decide (y.1 < x.1) && ((!(kd == 1) || hd.contains x.2) && (!(kd == 2) || ((x.2 == 255) || (decide (0 ≤ x.2) && (decide (x.2 < a) && (!hd.contains x.2 && !((P.take i).map (·.2)).contains x.2))))))) && zEg kd b a hd (P.take i ++ [x]) (P.drop (i + 1))) = true) ∨ (e = .ret ∧ ((decide (y.1 < x.1) && ((!(kd == 1) || hd.contains x.2) && (!(kd == 2) || ((x.2 == 255) || (decide (0 ≤ x.2) && (decide (x.2 < a) && (!hd.contains x.2 && !((P.take i).map (·.2)).contains x.2))))))) && zEg kd b a hd (P.take i ++ [x]) (P.drop (i + 1))) = false))
   by_cases c4 : y.1 < x.1
   case neg =>
    have d4 : decide (x.1 ≤ y.1) = true:=decide_eq_true (by omega)
    rw [decide_eq_false c4,Bool.false_and,Bool.false_and]
    simp -implicitDefEqProofs (maxSteps:=5000000) only [go_sem,simprocAttr,itr,itq,hd',ix,hc,ht,hle,hK1,cq,eh,d1,cg,d2,c5,dz,il2,ix2,hc3,r1,d4,zAj,zAb]
    exact ⟨a1,exF2 rfl (by first | rfl | exact ⟨rfl,.inr rfl⟩ | exact ⟨rfl,trivial⟩ | exact ⟨rfl,.inr trivial⟩)⟩
   have d4 : decide (x.1 ≤ y.1) = false:=decide_eq_false (by omega)
   rw [decide_eq_true c4,Bool.true_and]
   by_cases k1 : kd = 1
   ·have q1 : (kd == 1) = true:=by simp [k1]
    have q2 : (kd == 2) = false:=by simp [k1]
    have q3 : (kd != 2) = true:=by simp [k1]
    have kn : ¬ kd = 2:=by omega
    rw [q1,q2,Bool.not_true,Bool.false_or,Bool.not_false,Bool.true_or,Bool.and_true]
    rw [if_neg kn] at gn1
    simp only [if_neg kn] at key
    rcases hh : hd.contains x.2 with _ | _ <;> rw [hh] at eh
    ·rw [Bool.false_and]
     simp -implicitDefEqProofs (maxSteps:=5000000) only [go_sem,simprocAttr,itr,itq,hd',ix,hc,ht,hle,hK1,cq,eh,d1,cg,d2,c5,dz,il2,ix2,hc3,r1,d4,q1,zAj,zAb]
     exact ⟨a1,exF2 rfl (by first | rfl | exact ⟨rfl,.inr rfl⟩ | exact ⟨rfl,trivial⟩ | exact ⟨rfl,.inr trivial⟩)⟩
    ·rw [Bool.true_and]
     simp -implicitDefEqProofs (maxSteps:=5000000) only [go_sem,simprocAttr,itr,itq,hd',ix,hc,ht,hle,hK1,cq,eh,d1,cg,d2,c5,dz,il2,ix2,hc3,r1,d4,q1,q3,e2]
     exact key K1 vn _ _ _ _ _ _ _ _ _ _ _ _ _ _ _ _ _ _ _ _ _ _ _ _ _ _ _ _ _ _ _ _ _ _ _ _ _ _ _ _ _ _ _ _ _ _ _ _ _ _ _ _ _ _ _ _ _ _ _ _ _ _ _ _ _ _ _ _ _ _ _ _ _ _ _ _ _ _ _ _ _ a1 gn1 (by omega)
   have q1 : (kd == 1) = false:=by simp [k1]
   rw [q1,Bool.not_false,Bool.true_or,Bool.true_and]
   by_cases k2 : kd = 2
   case neg =>
    have q2 : (kd == 2) = false:=by simp [k2]
    have q3 : (kd != 2) = true:=bne_iff_ne.2 k2
    rw [q2,Bool.not_false,Bool.true_or,Bool.true_and]
    rw [if_neg k2] at gn1
    simp only [if_neg k2] at key
    simp -implicitDefEqProofs (maxSteps:=5000000) only [go_sem,simprocAttr,itr,itq,hd',ix,hc,ht,hle,hK1,cq,eh,d1,cg,d2,c5,dz,il2,ix2,hc3,r1,d4,q1,q3,e2]
    exact key K1 vn _ _ _ _ _ _ _ _ _ _ _ _ _ _ _ _ _ _ _ _ _ _ _ _ _ _ _ _ _ _ _ _ _ _ _ _ _ _ _ _ _ _ _ _ _ _ _ _ _ _ _ _ _ _ _ _ _ _ _ _ _ _ _ _ _ _ _ _ _ _ _ _ _ _ _ _ _ _ _ _ _ a1 gn1 (by omega)
   have q2 : (kd == 2) = true:=by simp [k2]
   have q3 : (kd != 2) = false:=by simp [k2]
   rw [q2,Bool.not_true,Bool.false_or]
   rw [if_pos k2] at gn1
   simp only [if_pos k2] at key
   by_cases z : x.2 = 255
   ·have z1 : (x.2 == 255) = true:=by simp [z]
    rw [z1,Bool.true_or,Bool.true_and]
    rw [zJc _ _ z] at key
    simp -implicitDefEqProofs (maxSteps:=5000000) only [go_sem,simprocAttr,itr,itq,hd',ix,hc,ht,hle,hK1,cq,eh,d1,cg,d2,c5,dz,il2,ix2,hc3,r1,d4,q1,q3,z1,e2]
    exact key K1 vn _ _ _ _ _ _ _ _ _ _ _ _ _ _ _ _ _ _ _ _ _ _ _ _ _ _ _ _ _ _ _ _ _ _ _ _ _ _ _ _ _ _ _ _ _ _ _ _ _ _ _ _ _ _ _ _ _ _ _ _ _ _ _ _ _ _ _ _ _ _ _ _ _ _ _ _ _ _ _ _ _ a1 gn1 (by omega)
   have z1 : (x.2 == 255) = false:=by simp [z]
   rw [z1,Bool.false_or]
   by_cases p1 : 0 ≤ x.2
   case neg =>
    have y1 : decide (x.2 < 0) = true:=decide_eq_true (by omega)
    rw [decide_eq_false p1,Bool.false_and,Bool.false_and]
    simp -implicitDefEqProofs (maxSteps:=5000000) only [go_sem,simprocAttr,itr,itq,hd',ix,hc,ht,hle,hK1,cq,eh,d1,cg,d2,c5,dz,il2,ix2,hc3,r1,d4,q1,q3,z1,y1,zAj,zAb]
    exact ⟨a1,exF2 rfl (by first | rfl | exact ⟨rfl,.inr rfl⟩ | exact ⟨rfl,trivial⟩ | exact ⟨rfl,.inr trivial⟩)⟩
   have y1 : decide (x.2 < 0) = false:=decide_eq_false (by omega)
   rw [decide_eq_true p1,Bool.true_and]
   by_cases p2 : x.2 < a
   case neg =>
    have y2 : decide (x.2 ≥ a) = true:=decide_eq_true (by omega)
    rw [decide_eq_false p2,Bool.false_and,Bool.false_and]
    simp -implicitDefEqProofs (maxSteps:=5000000) only [go_sem,simprocAttr,itr,itq,hd',ix,hc,ht,hle,hK1,cq,eh,d1,cg,d2,c5,dz,il2,ix2,hc3,r1,d4,q1,q3,z1,y1,y2,zAj,zAb]
    exact ⟨a1,exF2 rfl (by first | rfl | exact ⟨rfl,.inr rfl⟩ | exact ⟨rfl,trivial⟩ | exact ⟨rfl,.inr trivial⟩)⟩
   have y2 : decide (x.2 ≥ a) = false:=decide_eq_false (by omega)
   rw [decide_eq_true p2,Bool.true_and]
   rcases hh : hd.contains x.2 with _ | _ <;> rw [hh] at eh
   case true =>
    rw [Bool.not_true,Bool.false_and,Bool.false_and]
    simp -implicitDefEqProofs (maxSteps:=5000000) only [go_sem,simprocAttr,itr,itq,hd',ix,hc,ht,hle,hK1,cq,eh,d1,cg,d2,c5,dz,il2,ix2,hc3,r1,d4,q1,q3,z1,y1,y2,zAj,zAb]
    exact ⟨a1,exF2 rfl (by first | rfl | exact ⟨rfl,.inr rfl⟩ | exact ⟨rfl,trivial⟩ | exact ⟨rfl,.inr trivial⟩)⟩
   rw [Bool.not_false,Bool.true_and]
   have en:=zE8 (FS.is gn1) (by have:=zF4 (P.take i); omega) x.2
   rw [zLh _ _ z] at en
   rcases hm : ((P.take i).map (·.2)).contains x.2 with _ | _ <;> rw [hm] at en
   case true =>
    try rw [hm]
    rw [Bool.not_true,Bool.false_and]
    simp -implicitDefEqProofs (maxSteps:=5000000) only [go_sem,simprocAttr,itr,itq,hd',ix,hc,ht,hle,hK1,cq,eh,d1,cg,d2,c5,dz,il2,ix2,hc3,r1,d4,q1,q3,z1,y1,y2,en,zAj,zAb]
    exact ⟨a1,exF2 rfl (by first | rfl | exact ⟨rfl,.inr rfl⟩ | exact ⟨rfl,trivial⟩ | exact ⟨rfl,.inr trivial⟩)⟩
   try rw [hm]
   rw [Bool.not_false,Bool.true_and]
   rw [zJb _ _ z] at key
   obtain ⟨K2,hK2⟩ : ∃ K2,K2 = K1 ++ [ABlk.rw [.int .i64 x.2]]:=⟨_,rfl⟩
   have A2 : Adds K1 K2:=⟨_,hK2⟩
   have cs2 : cellsOf K2 K1.length = some [.int .i64 x.2]:=by rw [hK2]; unfold cellsOf; simp
   obtain ⟨w',K3,ep,f3,fr3,sb3,l3⟩:=FS.push (gn1.frT (Fr.adds A2 (fun _=>False)) fun _ _ h=>h) cs2 (by have:=zF4 (P.take i); omega) (by have:=a1.len; have:=A2.len; omega)
   have a3 : Adds H K3:=fr3.old (a1.trans A2) fun b hb h=>by have:=(FS.out gn1 b h).1; omega
   have hK2:=hK2.symm
   simp -implicitDefEqProofs (maxSteps:=5000000) only [go_sem,simprocAttr,itr,itq,hd',ix,hc,ht,hle,hK1,cq,eh,d1,cg,d2,c5,dz,il2,ix2,hc3,r1,d4,q1,q3,z1,y1,y2,en,hK2,ep,e2]
   exact key K3 w' _ _ _ _ _ _ _ _ _ _ _ _ _ _ _ _ _ _ _ _ _ _ _ _ _ _ _ _ _ _ _ _ _ _ _ _ _ _ _ _ _ _ _ _ _ _ _ _ _ _ _ _ _ _ _ _ _ _ _ _ _ _ _ _ _ _ _ _ _ _ _ _ _ _ _ _ _ _ _ _ _ a3 f3 (by omega)
end
end Go.Proofs.Ythgflkfhjnbheaa.G14
end
section
namespace Go.Proofs.Ythgflkfhjnbheaa.G14
open Go Go.Proofs.Ythgflkfhjnbheaa.Eng
structure StA (H : zAc) (vd vs vp : AV) (S : StS) : Prop where
 d : IS H vd S.dirty
 ok : zFw vd
 s : IsC H vs S.snaps
 p : IsP H vp S.pairs
theorem StA.adds {H H' : zAc} {vd vs vp : AV} {S : StS} (g : StA H vd vs vp S) (a : Adds H H') : StA H' vd vs vp S:=⟨a.is g.d,g.ok,g.s.adds a,g.p.adds a⟩
structure FitS (S : StS) : Prop where
 s : Fits S.snaps
 p : S.pairs.length ≤ 1000
theorem len0 (l : List PrS) : ((l.length : Int) == 0) = l.isEmpty:=by
 cases l with
 | nil=>rfl
 | cons x l=>rw [beq_eq_false_iff_ne.2 (by simp; omega)]; rfl
section
variable {b s w a r : Int} {H : zAc} {vd vs vp : AV} {S : StS} (g : StA H vd vs vp S) (fi : FitS S)
include g fi
set_option maxHeartbeats 16000000 in
theorem planC : (envL prog).call 47 [.agg [.int .i64 b,.int .i64 s,.int .i64 w,.int .i64 a,.int .i64 r],.agg [vd,vs,.int .i64 S.next,.int .i64 S.kind,.int .i64 S.pid,vp]] H = some (.bool (zFa b a S),H):=by
 have cd:=IS.cell g.d
 have cc:=g.s.cell
 have cp:=g.p.cell
 obtain ⟨H1,hH1⟩ : ∃ H1,H1 = H ++ [ABlk.rw [.int .i64 b,.int .i64 s,.int .i64 w,.int .i64 a,.int .i64 r],.rw [vd,vs,.int .i64 S.next,.int .i64 S.kind,.int .i64 S.pid,vp],.rw [.int .i64 S.kind,.int .i64 S.pid,vp]]:=⟨_,rfl⟩
 have A1 : Adds H H1:=⟨_,hH1⟩
 have c0 : cellsOf H1 H.length = some [.int .i64 b,.int .i64 s,.int .i64 w,.int .i64 a,.int .i64 r]:=by rw [hH1]; unfold cellsOf; simp
 have c1 : cellsOf H1 (H.length + 1) = some [vd,vs,.int .i64 S.next,.int .i64 S.kind,.int .i64 S.pid,vp]:=by rw [hH1]; unfold cellsOf; simp
 have c2 : cellsOf H1 (H.length + 2) = some [.int .i64 S.kind,.int .i64 S.pid,vp]:=by rw [hH1]; unfold cellsOf; simp
 have g1:=g.adds A1
 obtain ⟨vh,H2,ea,A2,ih⟩:=atsC g1.s fi.s
 have g2:=g1.adds A2
 have A:=A1.trans A2
 have lh : (atsS S.snaps).length ≤ 1000000:=by have:=zPl (L:=S.snaps) fun x hx=>(fi.s.2 x hx).lt; have:=fi.s.1; omega
 have l0:=planL0 (a:=a) (w:=w) (s:=s) (r:=r) (pd:=S.pid) (kd:=S.kind) g2.p fi.p ih lh (A2.cells c0) (A2.cells c2) (m:=S.pairs.length) (i:=0) (K:=H2) (vn:=.nilSl)
 rw [show ((0 : Nat) : Int) = 0 from rfl,List.drop_zero,List.take_zero] at l0
 have wp:=g2.p.len
 have d1:=A2.cells c1
 have d2:=A2.cells c2
 have hH1:=hH1.symm
 have key : Outs (runC (envL prog) (b47 (envL prog)) ([.agg [.int .i64 b,.int .i64 s,.int .i64 w,.int .i64 a,.int .i64 r],.agg [vd,vs,.int .i64 S.next,.int .i64 S.kind,.int .i64 S.pid,vp]] ++ List.replicate (136 - [AV.agg [.int .i64 b,.int .i64 s,.int .i64 w,.int .i64 a,.int .i64 r],.agg [vd,vs,.int .i64 S.next,.int .i64 S.kind,.int .i64 S.pid,vp]].length) .undef) H) fun e' t K=>Adds H K ∧ fin [.tmp 4] (some (e',t,K)) = some (.bool (zFa b a S),K):=by
  unfold b47
  generalize hQ : (fun (e' : Ex) (t : T) (K : zAc)=>Adds H K ∧ fin [.tmp 4] (some (e',t,K)) = some (AV.bool (zFa b a S),K)) = Q
  simp -implicitDefEqProofs (maxSteps:=5000000) only [go_sem,simprocAttr,itr,itq,zAi,zAe,cd.1,cd.2,cc.1,cc.2,cp.1,cp.2,hH1,c1,c2,ea,d1,d2,wp]
  unfold LP1 at l0
  generalize (envL prog).loop (runC (envL prog) (l47x0 (envL prog))) = L0 at l0 ⊢
  refine zAq (fun r=>seqR (zAt 0 r) _) (l0 _ _ _ _ _ _ _ _ _ _ _ _ _ _ _ _ _ _ _ _ _ _ _ _ _ _ _ _ _ _ _ _ _ _ _ _ _ _ _ _ _ _ _ _ _ _ _ _ _ _ _ _ _ _ _ _ _ _ _ _ _ _ _ _ _ _ _ _ _ _ _ _ _ _ _ _ _ _ _ _ _ _ _ _ _ _ _ _ _ _ _ _ _ _ _ _ _ _ _ _ _ _ _ _ _ _ _ _ _ _ _ _ _ _ _ _ _ _ _ _ _ _ _ _ _ _ _ _ (Adds.refl H2) (by rw [show zGu [] = [] from rfl,ite_self]; exact .inl ⟨rfl,rfl⟩) (by omega)) ?_
  rintro e t K ⟨aK,fv,rfl,f4,⟨rfl,ho⟩ | ⟨rfl,ho⟩⟩
  case inr =>
   simp -implicitDefEqProofs (maxSteps:=5000000) only [go_sem,simprocAttr,zAb]
   subst hQ
   have : zFa b a S = false:=by unfold zFa; rw [ho]; rfl
   rw [this]
   refine ⟨A.trans aK,?_⟩
   simp -implicitDefEqProofs (maxSteps:=5000000) only [go_sem,simprocAttr,f4]
  have e1:=aK.cells d1
  have e2:=aK.cells d2
  have e0:=aK.cells (A2.cells c0)
  have hp : zFa b a S = zTb S:=by unfold zFa; rw [ho]; rfl
  rw [hp] at hQ
  have g3:=g2.adds aK
  have AK:=A.trans aK
  unfold zTb at hQ
  by_cases k0 : S.kind = 0
  ·have q0 : (S.kind == 0) = true:=by simp [k0]
   rw [if_pos k0] at hQ
   have wl:=len0 S.pairs
   rcases hz : (S.pid == 0) with _ | _ <;> rw [hz] at hQ
   ·simp -implicitDefEqProofs (maxSteps:=5000000) only [go_sem,simprocAttr,itr,itq,e1,e2,q0,hz,zAb]
    subst hQ
    refine ⟨AK,?_⟩
    simp -implicitDefEqProofs (maxSteps:=5000000) only [go_sem,simprocAttr]
   ·simp -implicitDefEqProofs (maxSteps:=5000000) only [go_sem,simprocAttr,itr,itq,e1,e2,q0,hz,wp,wl,zAb]
    subst hQ
    refine ⟨AK,?_⟩
    simp -implicitDefEqProofs (maxSteps:=5000000) only [go_sem,simprocAttr]
  have q0 : (S.kind == 0) = false:=by simp [k0]
  rw [if_neg k0] at hQ
  by_cases k1 : S.kind = 1
  ·have q1 : (S.kind == 1) = true:=by simp [k1]
   rw [if_pos k1] at hQ
   have ec:=cindexC g3.s fi.s S.pid
   have hge : decide (cidF S.pid 0 S.snaps ≥ 0) = decide (0 ≤ cidF S.pid 0 S.snaps):=rfl
   simp -implicitDefEqProofs (maxSteps:=5000000) only [go_sem,simprocAttr,itr,itq,e1,e2,q0,q1,ec,hge,zAb]
   subst hQ
   refine ⟨AK,?_⟩
   simp -implicitDefEqProofs (maxSteps:=5000000) only [go_sem,simprocAttr]
  have q1 : (S.kind == 1) = false:=by simp [k1]
  rw [if_neg k1] at hQ
  by_cases k2 : S.kind = 2
  ·have q2 : (S.kind == 2) = true:=by simp [k2]
   rw [if_pos k2] at hQ
   have em:=moreC g3.s fi.s
   by_cases h1 : S.next ≤ S.pid
   case neg =>
    have hge : decide (S.pid ≥ S.next) = false:=decide_eq_false h1
    rw [decide_eq_false h1] at hQ
    simp -implicitDefEqProofs (maxSteps:=5000000) only [go_sem,simprocAttr,itr,itq,e1,e2,q0,q1,q2,hge,zAb]
    subst hQ
    refine ⟨AK,?_⟩
    simp -implicitDefEqProofs (maxSteps:=5000000) only [go_sem,simprocAttr]
   have hge : decide (S.pid ≥ S.next) = true:=decide_eq_true h1
   rw [decide_eq_true h1] at hQ
   rcases h2 : decide (S.pid ≤ 1000000) with _ | _ <;> rw [h2] at hQ
   ·simp -implicitDefEqProofs (maxSteps:=5000000) only [go_sem,simprocAttr,itr,itq,e1,e2,q0,q1,q2,hge,h2,zAb]
    subst hQ
    refine ⟨AK,?_⟩
    simp -implicitDefEqProofs (maxSteps:=5000000) only [go_sem,simprocAttr]
   ·simp -implicitDefEqProofs (maxSteps:=5000000) only [go_sem,simprocAttr,itr,itq,e1,e2,q0,q1,q2,hge,h2,em,zAb]
    subst hQ
    refine ⟨AK,?_⟩
    simp -implicitDefEqProofs (maxSteps:=5000000) only [go_sem,simprocAttr]
  have q2 : (S.kind == 2) = false:=by simp [k2]
  rw [if_neg k2] at hQ
  simp -implicitDefEqProofs (maxSteps:=5000000) only [go_sem,simprocAttr,itr,itq,e1,e2,q0,q1,q2,zAb]
  subst hQ
  refine ⟨AK,?_⟩
  simp -implicitDefEqProofs (maxSteps:=5000000) only [go_sem,simprocAttr]
 obtain ⟨e',t,K,hr,aK,hf⟩:=key
 rw [c47,hr,hf]; exact aK.trimS rfl
end
end Go.Proofs.Ythgflkfhjnbheaa.G14
end
section
namespace Go.Proofs.Ythgflkfhjnbheaa.G14
open Go Go.Proofs.Ythgflkfhjnbheaa.Eng
section
variable {b s w a r kd pd : Int} {H : zAc} {vd vs vp : AV} {S : StS} (g : StA H vd vs vp S) (fi : FitS S)
include g fi
set_option maxHeartbeats 4000000 in
theorem rplanL0 {p5 p7 i : Nat} {x : PrS} (h5 : cellsOf H p5 = some [.int .i64 kd,.int .i64 pd,vp]) (h7 : cellsOf H p7 = some [.int .i64 x.1,.int .i64 x.2]) (hi : i ≤ S.pairs.length) (x0 x1 x2 x3 x9 x10 x11 x12 x13 x14 x15 x16 x17 x18 x19 x20 x21 x22 x23 x24 x25 x26 x27 x28 x29 x30 x31 x32 x33 x34 x35 x36 x37 x38 x39 x40 x41 x42 x43 x44 x45 x46 x47 x48 x49 x50 x51 x52 x53 x54 x55 x56 x57 x58 x59 x60 x61 x62 x63 x64 x65 x66 x67 x68 x69 x70 x71 x72 x73 x74 x75 x76 x77 x78 x79 x80 x81 x82 x83 x84 x85 x86 x87 x88 x89 x90 x91 x92 x93 x94 x95 x96 x97 x98 x99 x100 x101 x102 x103 x104 x105 x106 x107 x108 x109 x110 x111 x112 x113 x114 x115 x116 x117 x118 x119 x120 x121 x122 : AV) : ∀ (m j : Nat) (j123 j124 j125 j126 j127 j128 j129 j130 j131 j132 j133 j134 j135 j136 : AV),j + m = i →
  Outs (LP1 l50x0 [x0,x1,x2,x3,.bool false,.ptr p5 0,.int .i64 (i : Int),.ptr p7 0,.int .i64 (j : Int),x9,x10,x11,x12,x13,x14,x15,x16,x17,x18,x19,x20,x21,x22,x23,x24,x25,x26,x27,x28,x29,x30,x31,x32,x33,x34,x35,x36,x37,x38,x39,x40,x41,x42,x43,x44,x45,x46,x47,x48,x49,x50,x51,x52,x53,x54,x55,x56,x57,x58,x59,x60,x61,x62,x63,x64,x65,x66,x67,x68,x69,x70,x71,x72,x73,x74,x75,x76,x77,x78,x79,x80,x81,x82,x83,x84,x85,x86,x87,x88,x89,x90,x91,x92,x93,x94,x95,x96,x97,x98,x99,x100,x101,x102,x103,x104,x105,x106,x107,x108,x109,x110,x111,x112,x113,x114,x115,x116,x117,x118,x119,x120,x121,x122,j123,j124,j125,j126,j127,j128,j129,j130,j131,j132,j133,j134,j135,j136] H) fun e t K=>K = H ∧ ∃ fv : Nat → AV,t = [x0,x1,x2,x3,(fv 4),.ptr p5 0,.int .i64 (i : Int),.ptr p7 0,(fv 8),x9,x10,x11,x12,x13,x14,x15,x16,x17,x18,x19,x20,x21,x22,x23,x24,x25,x26,x27,x28,x29,x30,x31,x32,x33,x34,x35,x36,x37,x38,x39,x40,x41,x42,x43,x44,x45,x46,x47,x48,x49,x50,x51,x52,x53,x54,x55,x56,x57,x58,x59,x60,x61,x62,x63,x64,x65,x66,x67,x68,x69,x70,x71,x72,x73,x74,x75,x76,x77,x78,x79,x80,x81,x82,x83,x84,x85,x86,x87,x88,x89,x90,x91,x92,x93,x94,x95,x96,x97,x98,x99,x100,x101,x102,x103,x104,x105,x106,x107,x108,x109,x110,x111,x112,x113,x114,x115,x116,x117,x118,x119,x120,x121,x122,(fv 123),(fv 124),(fv 125),(fv 126),(fv 127),(fv 128),(fv 129),(fv 130),(fv 131),(fv 132),(fv 133),(fv 134),(fv 135),(fv 136)] ∧ fv 4 = .bool false ∧ ((e = .exit 3 ∧ (((S.pairs.take i).drop j).map (·.2)).contains x.2 = false) ∨ (e = .ret ∧ (((S.pairs.take i).drop j).map (·.2)).contains x.2 = true)):=by
 intro m
 obtain ⟨L0,hL0⟩ : ∃ L,L = LP1 l50x0:=⟨_,rfl⟩
 have lo:=zAp hL0
 have lp:=fi.p
 have tl : (S.pairs.take i).length = i:=by rw [List.length_take]; omega
 rw [← hL0]
 induction m with
 | zero =>
  intro j j123 j124 j125 j126 j127 j128 j129 j130 j131 j132 j133 j134 j135 j136 hj
  obtain rfl : j = i:=by omega
  have hd : decide ((j : Int) < (j : Int)) = false:=by simp
  rw [lo,show (S.pairs.take j).drop j = [] by rw [List.drop_eq_nil_iff]; omega]
  unfold l50x0
  simp -implicitDefEqProofs (maxSteps:=5000000) only [go_sem,simprocAttr,hd,zAg,zAb]
  exact exF2 rfl (by first | exact ⟨rfl,.inl rfl⟩ | exact ⟨rfl,trivial⟩ | rfl | exact ⟨rfl,.inl trivial⟩)
 | succ m ih =>
  intro j j123 j124 j125 j126 j127 j128 j129 j130 j131 j132 j133 j134 j135 j136 hj
  have hd : decide ((j : Int) < (i : Int)) = true:=decide_eq_true (by omega)
  have e2 : IntKind.i64.wrap ((j : Int) + 1) = ((j + 1 : Nat) : Int):=by rw [zAk (by omega) (by omega)]; omega
  have hy:=List.getElem?_eq_getElem (show j < S.pairs.length by omega)
  have dj : (S.pairs.take i).drop j = S.pairs[j] :: (S.pairs.take i).drop (j + 1):=by
   rw [List.drop_eq_getElem_cons (by omega),List.getElem_take]
  rw [dj,List.map_cons,List.contains_cons]
  generalize S.pairs[j] = y at *
  obtain ⟨b2,c2,_,ix2,hc2,r1,r2,_,_⟩:=g.p.idx hy
  have key:=ih (j + 1)
  rw [lo]
  unfold l50x0
  by_cases h : y.2 = x.2
  ·have hb : (y.2 == x.2) = true:=by simp [h]
   have hb2 : (x.2 == y.2) = true:=by simp [h]
   rw [hb2,Bool.true_or]
   simp -implicitDefEqProofs (maxSteps:=5000000) only [go_sem,simprocAttr,itr,itq,hd,h5,h7,ix2,hc2,r2,hb,zAj,zAb]
   exact exF2 rfl (by first | exact ⟨rfl,.inr rfl⟩ | exact ⟨rfl,trivial⟩ | rfl | exact ⟨rfl,.inr trivial⟩)
  ·have hb : (y.2 == x.2) = false:=by simp [h]
   have hb2 : (x.2 == y.2) = false:=beq_eq_false_iff_ne.2 fun e=>h e.symm
   rw [hb2,Bool.false_or]
   simp -implicitDefEqProofs (maxSteps:=5000000) only [go_sem,simprocAttr,itr,itq,hd,h5,h7,ix2,hc2,r2,hb,e2]
   exact key _ _ _ _ _ _ _ _ _ _ _ _ _ _ (by omega)
set_option maxHeartbeats 64000000 in
theorem zR9 {q p3 p5 : Nat} (hk : S.kind = 1 ∨ S.kind = 2) (hq : cellsOf H q = some [.int .i64 b,.int .i64 s,.int .i64 w,.int .i64 a,.int .i64 r]) (h3 : cellsOf H p3 = some [vd,vs,.int .i64 S.next,.int .i64 S.kind,.int .i64 S.pid,vp]) (h5 : cellsOf H p5 = some [.int .i64 S.kind,.int .i64 S.pid,vp]) (x0 x1 x9 x10 x11 x12 x13 x14 x15 x16 x17 x18 x19 x20 x21 x22 x23 x24 x25 x26 x27 x28 x29 x30 x31 x32 x33 x34 x35 x36 x37 x38 x39 x40 x41 x42 x43 x44 x45 x46 x47 x48 x49 x50 x51 x52 x53 x54 x55 : AV) : ∀ (m i : Nat) (K : zAc) (j7 j8 j56 j57 j58 j59 j60 j61 j62 j63 j64 j65 j66 j67 j68 j69 j70 j71 j72 j73 j74 j75 j76 j77 j78 j79 j80 j81 j82 j83 j84 j85 j86 j87 j88 j89 j90 j91 j92 j93 j94 j95 j96 j97 j98 j99 j100 j101 j102 j103 j104 j105 j106 j107 j108 j109 j110 j111 j112 j113 j114 j115 j116 j117 j118 j119 j120 j121 j122 j123 j124 j125 j126 j127 j128 j129 j130 j131 j132 j133 j134 j135 j136 : AV),Adds H K → i + m = S.pairs.length →
  Outs (LP1 l50x1 [x0,x1,.ptr q 0,.ptr p3 0,.bool false,.ptr p5 0,.int .i64 (i : Int),j7,j8,x9,x10,x11,x12,x13,x14,x15,x16,x17,x18,x19,x20,x21,x22,x23,x24,x25,x26,x27,x28,x29,x30,x31,x32,x33,x34,x35,x36,x37,x38,x39,x40,x41,x42,x43,x44,x45,x46,x47,x48,x49,x50,x51,x52,x53,x54,x55,j56,j57,j58,j59,j60,j61,j62,j63,j64,j65,j66,j67,j68,j69,j70,j71,j72,j73,j74,j75,j76,j77,j78,j79,j80,j81,j82,j83,j84,j85,j86,j87,j88,j89,j90,j91,j92,j93,j94,j95,j96,j97,j98,j99,j100,j101,j102,j103,j104,j105,j106,j107,j108,j109,j110,j111,j112,j113,j114,j115,j116,j117,j118,j119,j120,j121,j122,j123,j124,j125,j126,j127,j128,j129,j130,j131,j132,j133,j134,j135,j136] K) fun e t K'=>Adds H K' ∧ ∃ fv : Nat → AV,t = [x0,x1,.ptr q 0,.ptr p3 0,(fv 4),.ptr p5 0,(fv 6),(fv 7),(fv 8),x9,x10,x11,x12,x13,x14,x15,x16,x17,x18,x19,x20,x21,x22,x23,x24,x25,x26,x27,x28,x29,x30,x31,x32,x33,x34,x35,x36,x37,x38,x39,x40,x41,x42,x43,x44,x45,x46,x47,x48,x49,x50,x51,x52,x53,x54,x55,(fv 56),(fv 57),(fv 58),(fv 59),(fv 60),(fv 61),(fv 62),(fv 63),(fv 64),(fv 65),(fv 66),(fv 67),(fv 68),(fv 69),(fv 70),(fv 71),(fv 72),(fv 73),(fv 74),(fv 75),(fv 76),(fv 77),(fv 78),(fv 79),(fv 80),(fv 81),(fv 82),(fv 83),(fv 84),(fv 85),(fv 86),(fv 87),(fv 88),(fv 89),(fv 90),(fv 91),(fv 92),(fv 93),(fv 94),(fv 95),(fv 96),(fv 97),(fv 98),(fv 99),(fv 100),(fv 101),(fv 102),(fv 103),(fv 104),(fv 105),(fv 106),(fv 107),(fv 108),(fv 109),(fv 110),(fv 111),(fv 112),(fv 113),(fv 114),(fv 115),(fv 116),(fv 117),(fv 118),(fv 119),(fv 120),(fv 121),(fv 122),(fv 123),(fv 124),(fv 125),(fv 126),(fv 127),(fv 128),(fv 129),(fv 130),(fv 131),(fv 132),(fv 133),(fv 134),(fv 135),(fv 136)] ∧ fv 4 = .bool false ∧ ((e = .exit 1 ∧ zEg S.kind b a (atsS S.snaps) (S.pairs.take i) (S.pairs.drop i) = true) ∨ (e = .ret ∧ zEg S.kind b a (atsS S.snaps) (S.pairs.take i) (S.pairs.drop i) = false)):=by
 intro m
 obtain ⟨L0,hL0⟩ : ∃ L,L = LP1 l50x1:=⟨_,rfl⟩
 have lo:=zAp hL0
 have lp:=fi.p
 obtain ⟨P,hP⟩ : ∃ P,P = S.pairs:=⟨_,rfl⟩
 have gp:=g.p
 have wl:=gp.len
 rw [← hP] at wl gp lp
 rw [← hL0,← hP]
 induction m with
 | zero =>
  intro i K j7 j8 j56 j57 j58 j59 j60 j61 j62 j63 j64 j65 j66 j67 j68 j69 j70 j71 j72 j73 j74 j75 j76 j77 j78 j79 j80 j81 j82 j83 j84 j85 j86 j87 j88 j89 j90 j91 j92 j93 j94 j95 j96 j97 j98 j99 j100 j101 j102 j103 j104 j105 j106 j107 j108 j109 j110 j111 j112 j113 j114 j115 j116 j117 j118 j119 j120 j121 j122 j123 j124 j125 j126 j127 j128 j129 j130 j131 j132 j133 j134 j135 j136 aK hi
  obtain rfl : i = P.length:=by omega
  have hd' : decide ((P.length : Int) < (P.length : Int)) = false:=by simp
  have c5:=aK.cells h5
  rw [List.drop_length,lo]
  unfold l50x1
  simp -implicitDefEqProofs (maxSteps:=5000000) only [go_sem,simprocAttr,itr,itq,c5,wl,hd',zAg,zAb]
  exact ⟨aK,exF2 rfl (by first | exact ⟨rfl,.inl rfl⟩ | exact ⟨rfl,trivial⟩ | rfl | exact ⟨rfl,.inl trivial⟩)⟩
 | succ m ih =>
  intro i K j7 j8 j56 j57 j58 j59 j60 j61 j62 j63 j64 j65 j66 j67 j68 j69 j70 j71 j72 j73 j74 j75 j76 j77 j78 j79 j80 j81 j82 j83 j84 j85 j86 j87 j88 j89 j90 j91 j92 j93 j94 j95 j96 j97 j98 j99 j100 j101 j102 j103 j104 j105 j106 j107 j108 j109 j110 j111 j112 j113 j114 j115 j116 j117 j118 j119 j120 j121 j122 j123 j124 j125 j126 j127 j128 j129 j130 j131 j132 j133 j134 j135 j136 aK hi
  have hlt : i < P.length:=by omega
  have hd' : decide ((i : Int) < (P.length : Int)) = true:=decide_eq_true (by omega)
  have e2 : IntKind.i64.wrap ((i : Int) + 1) = ((i + 1 : Nat) : Int):=by rw [zAk (by omega) (by omega)]; omega
  have hx:=List.getElem?_eq_getElem hlt
  have tk : P.take (i + 1) = P.take i ++ [P[i]]:=by rw [List.take_add_one,hx]; rfl
  have tl : (P.take i).length = i:=by rw [List.length_take]; omega
  have key:=ih (i + 1)
  rw [tk] at key
  rw [List.drop_eq_getElem_cons hlt,zJd]
  have prev : (i = 0 ∧ (P.take i).getLast? = none) ∨ ∃ n y b2 c2,i = n + 1 ∧ (P.take i).getLast? = some y ∧ zBj 2 vp (.int .i64 (n : Int)) = some (.ptr b2 (n * 2)) ∧ cellsOf H b2 = some c2 ∧ c2[n * 2]? = some (.int .i64 y.1):=by
   cases i with
   | zero=>exact .inl ⟨rfl,by simp⟩
   | succ n =>
    have hn : n < P.length:=by omega
    obtain ⟨b2,c2,_,ix2,hc2,r1,_,_,_⟩:=gp.idx (List.getElem?_eq_getElem hn)
    exact .inr ⟨n,P[n],b2,c2,rfl,by rw [zGe hn]; exact List.getElem?_eq_getElem hn,ix2,hc2,r1⟩
  generalize P[i] = x at *
  obtain ⟨bb,cs,sb,ix,hc0,h1,h2,ht,hle⟩:=gp.idx hx
  unfold prC at ht
  have hc:=aK.cells hc0
  obtain ⟨K1,hK1⟩ : ∃ K1,K1 = K ++ [ABlk.rw [.int .i64 x.1,.int .i64 x.2]]:=⟨_,rfl⟩
  have A1 : Adds K K1:=⟨_,hK1⟩
  have a1:=aK.trans A1
  have cq : cellsOf K1 K.length = some [.int .i64 x.1,.int .i64 x.2]:=by rw [hK1]; unfold cellsOf; simp
  have eh:=heldC (g.adds a1).s fi.s x.2
  have cg:=a1.cells hq
  have c3':=a1.cells h3
  have c50:=aK.cells h5
  have c5:=a1.cells h5
  have l0:=rplanL0 (g.adds a1) fi c5 cq (i:=i) (by rw [← hP]; omega) (m:=i) (j:=0)
  rw [show ((0 : Nat) : Int) = 0 from rfl,List.drop_zero,← hP] at l0
  have hK1:=hK1.symm
  unfold zLy
  generalize atsS S.snaps = hd at *
  rw [lo]
  unfold l50x1
  by_cases c1 : 0 ≤ x.1
  case neg =>
   have d1 : decide (x.1 < 0) = true:=decide_eq_true (by omega)
   rw [decide_eq_false c1,Bool.false_and,Bool.false_and]
   simp -implicitDefEqProofs (maxSteps:=5000000) only [go_sem,simprocAttr,itr,itq,hd',wl,c50,ix,hc,ht,hle,hK1,cq,d1,zAj,zAb]
   exact ⟨a1,exF2 rfl (by first | rfl | exact ⟨rfl,.inr rfl⟩ | exact ⟨rfl,trivial⟩ | exact ⟨rfl,.inr trivial⟩)⟩
  have d1 : decide (x.1 < 0) = false:=decide_eq_false (by omega)
  rw [decide_eq_true c1,Bool.true_and]
  by_cases c2 : x.1 < b
  case neg =>
   have d2 : decide (x.1 ≥ b) = true:=decide_eq_true (by omega)
   rw [decide_eq_false c2,Bool.false_and,Bool.false_and]
   simp -implicitDefEqProofs (maxSteps:=5000000) only [go_sem,simprocAttr,itr,itq,hd',wl,c50,ix,hc,ht,hle,hK1,cq,d1,cg,d2,zAj,zAb]
   exact ⟨a1,exF2 rfl (by first | rfl | exact ⟨rfl,.inr rfl⟩ | exact ⟨rfl,trivial⟩ | exact ⟨rfl,.inr trivial⟩)⟩
  have d2 : decide (x.1 ≥ b) = false:=decide_eq_false (by omega)
  rw [decide_eq_true c2,Bool.true_and]
  rcases prev with ⟨hi0,gl⟩ | ⟨n,y,b2,c2',hin,gl,ix2,hc2,r1⟩
  ·have dz : decide ((i : Int) > 0) = false:=decide_eq_false (by omega)
   rw [gl]
   show Outs _ fun e t K'=>Adds H K' ∧ ∃ fv : Nat → AV,t = [x0,x1,.ptr q 0,.ptr p3 0,(fv 4),.ptr p5 0,(fv 6),(fv 7),(fv 8),x9,x10,x11,x12,x13,x14,x15,x16,x17,x18,x19,x20,x21,x22,x23,x24,x25,x26,x27,x28,x29,x30,x31,x32,x33,x34,x35,x36,x37,x38,x39,x40,x41,x42,x43,x44,x45,x46,x47,x48,x49,x50,x51,x52,x53,x54,x55,(fv 56),(fv 57),(fv 58),(fv 59),(fv 60),(fv 61),(fv 62),(fv 63),(fv 64),(fv 65),(fv 66),(fv 67),(fv 68),(fv 69),(fv 70),(fv 71),(fv 72),(fv 73),(fv 74),(fv 75),(fv 76),(fv 77),(fv 78),(fv 79),(fv 80),(fv 81),(fv 82),(fv 83),(fv 84),(fv 85),(fv 86),(fv 87),(fv 88),(fv 89),(fv 90),(fv 91),(fv 92),(fv 93),(fv 94),(fv 95),(fv 96),(fv 97),(fv 98),(fv 99),(fv 100),(fv 101),(fv 102),(fv 103),(fv 104),(fv 105),(fv 106),(fv 107),(fv 108),(fv 109),(fv 110),(fv 111),(fv 112),(fv 113),(fv 114),(fv 115),(fv 116),(fv 117),(fv 118),(fv 119),(fv 120),(fv 121),(fv 122),(fv 123),(fv 124),(fv 125),(fv 126),(fv 127),(fv 128),(fv 129),(fv 130),(fv 131),(fv 132),(fv 133),(fv 134),(fv 135),(fv 136)] ∧ fv 4 = .bool false ∧ ((e = .exit 1 ∧ ((true && ((!(S.kind == 1) || hd.contains x.2) && (!(S.kind == 2) || ((x.2 == 255) || (decide (0 ≤ x.2) && (decide (x.2 < a) && (!hd.contains x.2 && !((P.take i).map (·.2)).contains x.2))))))) && zEg S.kind b a hd (P.take i ++ [x]) (P.drop (i + 1))) = true) ∨ (e = .ret ∧ ((true && ((!(S.kind == 1) || hd.contains x.2) && (!(S.kind == 2) || ((x.2 == 255) || (decide (0 ≤ x.2) && (decide (x.2 < a) && (!hd.contains x.2 && !((P.take i).map (·.2)).contains x.2))))))) && zEg S.kind b a hd (P.take i ++ [x]) (P.drop (i + 1))) = false))
   rw [Bool.true_and]
   rcases hk with k1 | k2
   ·have q1 : (S.kind == 1) = true:=by simp [k1]
    have q2 : (S.kind == 2) = false:=by simp [k1]
    rw [q1,q2,Bool.not_true,Bool.false_or,Bool.not_false,Bool.true_or,Bool.and_true]
    rcases hh : hd.contains x.2 with _ | _ <;> rw [hh] at eh
    ·rw [Bool.false_and]
     simp -implicitDefEqProofs (maxSteps:=5000000) only [go_sem,simprocAttr,itr,itq,hd',wl,c50,ix,hc,ht,hle,hK1,cq,d1,cg,d2,c5,dz,c3',eh,q1,zAj,zAb]
     exact ⟨a1,exF2 rfl (by first | rfl | exact ⟨rfl,.inr rfl⟩ | exact ⟨rfl,trivial⟩ | exact ⟨rfl,.inr trivial⟩)⟩
    ·rw [Bool.true_and]
     simp -implicitDefEqProofs (maxSteps:=5000000) only [go_sem,simprocAttr,itr,itq,hd',wl,c50,ix,hc,ht,hle,hK1,cq,d1,cg,d2,c5,dz,c3',eh,q1,e2]
     exact key K1 _ _ _ _ _ _ _ _ _ _ _ _ _ _ _ _ _ _ _ _ _ _ _ _ _ _ _ _ _ _ _ _ _ _ _ _ _ _ _ _ _ _ _ _ _ _ _ _ _ _ _ _ _ _ _ _ _ _ _ _ _ _ _ _ _ _ _ _ _ _ _ _ _ _ _ _ _ _ _ _ _ _ _ a1 (by omega)
   have q1 : (S.kind == 1) = false:=by simp [k2]
   have q2 : (S.kind == 2) = true:=by simp [k2]
   rw [q1,q2,Bool.not_false,Bool.true_or,Bool.true_and,Bool.not_true,Bool.false_or]
   by_cases z : x.2 = 255
   ·have z1 : (x.2 == 255) = true:=by simp [z]
    rw [z1,Bool.true_or,Bool.true_and]
    simp -implicitDefEqProofs (maxSteps:=5000000) only [go_sem,simprocAttr,itr,itq,hd',wl,c50,ix,hc,ht,hle,hK1,cq,d1,cg,d2,c5,dz,q1,z1,e2]
    exact key K1 _ _ _ _ _ _ _ _ _ _ _ _ _ _ _ _ _ _ _ _ _ _ _ _ _ _ _ _ _ _ _ _ _ _ _ _ _ _ _ _ _ _ _ _ _ _ _ _ _ _ _ _ _ _ _ _ _ _ _ _ _ _ _ _ _ _ _ _ _ _ _ _ _ _ _ _ _ _ _ _ _ _ _ a1 (by omega)
   have z1 : (x.2 == 255) = false:=by simp [z]
   rw [z1,Bool.false_or]
   by_cases p1 : 0 ≤ x.2
   case neg =>
    have y1 : decide (x.2 < 0) = true:=decide_eq_true (by omega)
    rw [decide_eq_false p1,Bool.false_and,Bool.false_and]
    simp -implicitDefEqProofs (maxSteps:=5000000) only [go_sem,simprocAttr,itr,itq,hd',wl,c50,ix,hc,ht,hle,hK1,cq,d1,cg,d2,c5,dz,q1,z1,y1,zAj,zAb]
    exact ⟨a1,exF2 rfl (by first | rfl | exact ⟨rfl,.inr rfl⟩ | exact ⟨rfl,trivial⟩ | exact ⟨rfl,.inr trivial⟩)⟩
   have y1 : decide (x.2 < 0) = false:=decide_eq_false (by omega)
   rw [decide_eq_true p1,Bool.true_and]
   by_cases p2 : x.2 < a
   case neg =>
    have y2 : decide (x.2 ≥ a) = true:=decide_eq_true (by omega)
    rw [decide_eq_false p2,Bool.false_and,Bool.false_and]
    simp -implicitDefEqProofs (maxSteps:=5000000) only [go_sem,simprocAttr,itr,itq,hd',wl,c50,ix,hc,ht,hle,hK1,cq,d1,cg,d2,c5,dz,q1,z1,y1,y2,zAj,zAb]
    exact ⟨a1,exF2 rfl (by first | rfl | exact ⟨rfl,.inr rfl⟩ | exact ⟨rfl,trivial⟩ | exact ⟨rfl,.inr trivial⟩)⟩
   have y2 : decide (x.2 ≥ a) = false:=decide_eq_false (by omega)
   rw [decide_eq_true p2,Bool.true_and]
   rcases hh : hd.contains x.2 with _ | _ <;> rw [hh] at eh
   case true =>
    rw [Bool.not_true,Bool.false_and,Bool.false_and]
    simp -implicitDefEqProofs (maxSteps:=5000000) only [go_sem,simprocAttr,itr,itq,hd',wl,c50,ix,hc,ht,hle,hK1,cq,d1,cg,d2,c5,dz,c3',eh,q1,z1,y1,y2,zAj,zAb]
    exact ⟨a1,exF2 rfl (by first | rfl | exact ⟨rfl,.inr rfl⟩ | exact ⟨rfl,trivial⟩ | exact ⟨rfl,.inr trivial⟩)⟩
   rw [Bool.not_false,Bool.true_and]
   simp -implicitDefEqProofs (maxSteps:=5000000) only [go_sem,simprocAttr,itr,itq,zAi,hd',wl,c50,ix,hc,ht,hle,hK1,cq,d1,cg,d2,c5,dz,c3',eh,q1,z1,y1,y2]
   unfold LP1 at l0
   generalize (envL prog).loop (runC (envL prog) (l50x0 (envL prog))) = LL0 at l0 ⊢
   refine zAq (fun r=>seqR (seqR (zAt 2 (zAt 3 r)) _) _) (l0 _ _ _ _ _ _ _ _ _ _ _ _ _ _ _ _ _ _ _ _ _ _ _ _ _ _ _ _ _ _ _ _ _ _ _ _ _ _ _ _ _ _ _ _ _ _ _ _ _ _ _ _ _ _ _ _ _ _ _ _ _ _ _ _ _ _ _ _ _ _ _ _ _ _ _ _ _ _ _ _ _ _ _ _ _ _ _ _ _ _ _ _ _ _ _ _ _ _ _ _ _ _ _ _ _ _ _ _ _ _ _ _ _ _ _ _ _ _ _ _ _ _ _ _ _ _ _ _ _ _ _ _ (by omega)) ?_
   rintro e t K2 ⟨rfl,fv,rfl,f4,⟨rfl,ho⟩ | ⟨rfl,ho⟩⟩
   ·rw [ho,Bool.not_false,Bool.true_and]
    simp -implicitDefEqProofs (maxSteps:=5000000) only [go_sem,simprocAttr,itr,itq,f4,e2]
    exact key K2 _ _ _ _ _ _ _ _ _ _ _ _ _ _ _ _ _ _ _ _ _ _ _ _ _ _ _ _ _ _ _ _ _ _ _ _ _ _ _ _ _ _ _ _ _ _ _ _ _ _ _ _ _ _ _ _ _ _ _ _ _ _ _ _ _ _ _ _ _ _ _ _ _ _ _ _ _ _ _ _ _ _ _ a1 (by omega)
   ·rw [ho,Bool.not_true,Bool.false_and]
    simp -implicitDefEqProofs (maxSteps:=5000000) only [go_sem,simprocAttr,itr,itq,zAj,zAb]
    exact ⟨a1,exF2 rfl (by first | exact ⟨f4,.inr trivial⟩ | exact ⟨f4,.inr rfl⟩ | exact f4 | exact ⟨f4,trivial⟩)⟩
  ·have dz : decide ((i : Int) > 0) = true:=decide_eq_true (by omega)
   have il2 : IntKind.i64.wrap ((i : Int) - 1) = (n : Int):=by rw [zAk (by omega) (by omega)]; omega
   have hc3:=a1.cells hc2
   rw [gl]
   show Outs _ fun e t K'=>Adds H K' ∧ ∃ fv : Nat → AV,t = [x0,x1,.ptr q 0,.ptr p3 0,(fv 4),.ptr p5 0,(fv 6),(fv 7),(fv 8),x9,x10,x11,x12,x13,x14,x15,x16,x17,x18,x19,x20,x21,x22,x23,x24,x25,x26,x27,x28,x29,x30,x31,x32,x33,x34,x35,x36,x37,x38,x39,x40,x41,x42,x43,x44,x45,x46,x47,x48,x49,x50,x51,x52,x53,x54,x55,(fv 56),(fv 57),(fv 58),(fv 59),(fv 60),(fv 61),(fv 62),(fv 63),(fv 64),(fv 65),(fv 66),(fv 67),(fv 68),(fv 69),(fv 70),(fv 71),(fv 72),(fv 73),(fv 74),(fv 75),(fv 76),(fv 77),(fv 78),(fv 79),(fv 80),(fv 81),(fv 82),(fv 83),(fv 84),(fv 85),(fv 86),(fv 87),(fv 88),(fv 89),(fv 90),(fv 91),(fv 92),(fv 93),(fv 94),(fv 95),(fv 96),(fv 97),(fv 98),(fv 99),(fv 100),(fv 101),(fv 102),(fv 103),(fv 104),(fv 105),(fv 106),(fv 107),(fv 108),(fv 109),(fv 110),(fv 111),(fv 112),(fv 113),(fv 114),(fv 115),(fv 116),(fv 117),(fv 118),(fv 119),(fv 120),(fv 121),(fv 122),(fv 123),(fv 124),(fv 125),(fv 126),(fv 127),(fv 128),(fv 129),(fv 130),(fv 131),(fv 132),(fv 133),(fv 134),(fv 135),(fv 136)] ∧ fv 4 = .bool false ∧ ((e = .exit 1 ∧ ((decide (y.1 < x.1) && ((!(S.kind == 1) || hd.contains x.2) && (!(S.kind == 2) || ((x.2 == 255) || (decide (0 ≤ x.2) && (decide (x.2 < a) && (!hd.contains x.2 && !((P.take i).map (·.2)).contains x.2))))))) && zEg S.kind b a hd (P.take i ++ [x]) (P.drop (i + 1))) = true) ∨ (e = .ret ∧ ((decide (y.1 < x.1) && ((!(S.kind == 1) || hd.contains x.2) && (!(S.kind == 2) || ((x.2 == 255) || (decide (0 ≤ x.2) && (decide (x.2 < a) && (!hd.contains x.2 && !((P.take i).map (·.2)).contains x.2))))))) && zEg S.kind b a hd (P.take i ++ [x]) (P.drop (i + 1))) = false))
   by_cases c4 : y.1 < x.1
   case neg =>
    have d4 : decide (x.1 ≤ y.1) = true:=decide_eq_true (by omega)
    rw [decide_eq_false c4,Bool.false_and,Bool.false_and]
    simp -implicitDefEqProofs (maxSteps:=5000000) only [go_sem,simprocAttr,itr,itq,hd',wl,c50,ix,hc,ht,hle,hK1,cq,d1,cg,d2,c5,dz,il2,ix2,hc3,r1,d4,zAj,zAb]
    exact ⟨a1,exF2 rfl (by first | rfl | exact ⟨rfl,.inr rfl⟩ | exact ⟨rfl,trivial⟩ | exact ⟨rfl,.inr trivial⟩)⟩
   have d4 : decide (x.1 ≤ y.1) = false:=decide_eq_false (by omega)
   rw [decide_eq_true c4,Bool.true_and]
   rcases hk with k1 | k2
   ·have q1 : (S.kind == 1) = true:=by simp [k1]
    have q2 : (S.kind == 2) = false:=by simp [k1]
    rw [q1,q2,Bool.not_true,Bool.false_or,Bool.not_false,Bool.true_or,Bool.and_true]
    rcases hh : hd.contains x.2 with _ | _ <;> rw [hh] at eh
    ·rw [Bool.false_and]
     simp -implicitDefEqProofs (maxSteps:=5000000) only [go_sem,simprocAttr,itr,itq,hd',wl,c50,ix,hc,ht,hle,hK1,cq,d1,cg,d2,c5,dz,il2,ix2,hc3,r1,d4,c3',eh,q1,zAj,zAb]
     exact ⟨a1,exF2 rfl (by first | rfl | exact ⟨rfl,.inr rfl⟩ | exact ⟨rfl,trivial⟩ | exact ⟨rfl,.inr trivial⟩)⟩
    ·rw [Bool.true_and]
     simp -implicitDefEqProofs (maxSteps:=5000000) only [go_sem,simprocAttr,itr,itq,hd',wl,c50,ix,hc,ht,hle,hK1,cq,d1,cg,d2,c5,dz,il2,ix2,hc3,r1,d4,c3',eh,q1,e2]
     exact key K1 _ _ _ _ _ _ _ _ _ _ _ _ _ _ _ _ _ _ _ _ _ _ _ _ _ _ _ _ _ _ _ _ _ _ _ _ _ _ _ _ _ _ _ _ _ _ _ _ _ _ _ _ _ _ _ _ _ _ _ _ _ _ _ _ _ _ _ _ _ _ _ _ _ _ _ _ _ _ _ _ _ _ _ a1 (by omega)
   have q1 : (S.kind == 1) = false:=by simp [k2]
   have q2 : (S.kind == 2) = true:=by simp [k2]
   rw [q1,q2,Bool.not_false,Bool.true_or,Bool.true_and,Bool.not_true,Bool.false_or]
   by_cases z : x.2 = 255
   ·have z1 : (x.2 == 255) = true:=by simp [z]
    rw [z1,Bool.true_or,Bool.true_and]
    simp -implicitDefEqProofs (maxSteps:=5000000) only [go_sem,simprocAttr,itr,itq,hd',wl,c50,ix,hc,ht,hle,hK1,cq,d1,cg,d2,c5,dz,il2,ix2,hc3,r1,d4,q1,z1,e2]
    exact key K1 _ _ _ _ _ _ _ _ _ _ _ _ _ _ _ _ _ _ _ _ _ _ _ _ _ _ _ _ _ _ _ _ _ _ _ _ _ _ _ _ _ _ _ _ _ _ _ _ _ _ _ _ _ _ _ _ _ _ _ _ _ _ _ _ _ _ _ _ _ _ _ _ _ _ _ _ _ _ _ _ _ _ _ a1 (by omega)
   have z1 : (x.2 == 255) = false:=by simp [z]
   rw [z1,Bool.false_or]
   by_cases p1 : 0 ≤ x.2
   case neg =>
    have y1 : decide (x.2 < 0) = true:=decide_eq_true (by omega)
    rw [decide_eq_false p1,Bool.false_and,Bool.false_and]
    simp -implicitDefEqProofs (maxSteps:=5000000) only [go_sem,simprocAttr,itr,itq,hd',wl,c50,ix,hc,ht,hle,hK1,cq,d1,cg,d2,c5,dz,il2,ix2,hc3,r1,d4,q1,z1,y1,zAj,zAb]
    exact ⟨a1,exF2 rfl (by first | rfl | exact ⟨rfl,.inr rfl⟩ | exact ⟨rfl,trivial⟩ | exact ⟨rfl,.inr trivial⟩)⟩
   have y1 : decide (x.2 < 0) = false:=decide_eq_false (by omega)
   rw [decide_eq_true p1,Bool.true_and]
   by_cases p2 : x.2 < a
   case neg =>
    have y2 : decide (x.2 ≥ a) = true:=decide_eq_true (by omega)
    rw [decide_eq_false p2,Bool.false_and,Bool.false_and]
    simp -implicitDefEqProofs (maxSteps:=5000000) only [go_sem,simprocAttr,itr,itq,hd',wl,c50,ix,hc,ht,hle,hK1,cq,d1,cg,d2,c5,dz,il2,ix2,hc3,r1,d4,q1,z1,y1,y2,zAj,zAb]
    exact ⟨a1,exF2 rfl (by first | rfl | exact ⟨rfl,.inr rfl⟩ | exact ⟨rfl,trivial⟩ | exact ⟨rfl,.inr trivial⟩)⟩
   have y2 : decide (x.2 ≥ a) = false:=decide_eq_false (by omega)
   rw [decide_eq_true p2,Bool.true_and]
   rcases hh : hd.contains x.2 with _ | _ <;> rw [hh] at eh
   case true =>
    rw [Bool.not_true,Bool.false_and,Bool.false_and]
    simp -implicitDefEqProofs (maxSteps:=5000000) only [go_sem,simprocAttr,itr,itq,hd',wl,c50,ix,hc,ht,hle,hK1,cq,d1,cg,d2,c5,dz,il2,ix2,hc3,r1,d4,c3',eh,q1,z1,y1,y2,zAj,zAb]
    exact ⟨a1,exF2 rfl (by first | rfl | exact ⟨rfl,.inr rfl⟩ | exact ⟨rfl,trivial⟩ | exact ⟨rfl,.inr trivial⟩)⟩
   rw [Bool.not_false,Bool.true_and]
   simp -implicitDefEqProofs (maxSteps:=5000000) only [go_sem,simprocAttr,itr,itq,zAi,hd',wl,c50,ix,hc,ht,hle,hK1,cq,d1,cg,d2,c5,dz,il2,ix2,hc3,r1,d4,c3',eh,q1,z1,y1,y2]
   unfold LP1 at l0
   generalize (envL prog).loop (runC (envL prog) (l50x0 (envL prog))) = LL0 at l0 ⊢
   refine zAq (fun r=>seqR (seqR (zAt 2 (zAt 3 r)) _) _) (l0 _ _ _ _ _ _ _ _ _ _ _ _ _ _ _ _ _ _ _ _ _ _ _ _ _ _ _ _ _ _ _ _ _ _ _ _ _ _ _ _ _ _ _ _ _ _ _ _ _ _ _ _ _ _ _ _ _ _ _ _ _ _ _ _ _ _ _ _ _ _ _ _ _ _ _ _ _ _ _ _ _ _ _ _ _ _ _ _ _ _ _ _ _ _ _ _ _ _ _ _ _ _ _ _ _ _ _ _ _ _ _ _ _ _ _ _ _ _ _ _ _ _ _ _ _ _ _ _ _ _ _ _ (by omega)) ?_
   rintro e t K2 ⟨rfl,fv,rfl,f4,⟨rfl,ho⟩ | ⟨rfl,ho⟩⟩
   ·rw [ho,Bool.not_false,Bool.true_and]
    simp -implicitDefEqProofs (maxSteps:=5000000) only [go_sem,simprocAttr,itr,itq,f4,e2]
    exact key K2 _ _ _ _ _ _ _ _ _ _ _ _ _ _ _ _ _ _ _ _ _ _ _ _ _ _ _ _ _ _ _ _ _ _ _ _ _ _ _ _ _ _ _ _ _ _ _ _ _ _ _ _ _ _ _ _ _ _ _ _ _ _ _ _ _ _ _ _ _ _ _ _ _ _ _ _ _ _ _ _ _ _ _ a1 (by omega)
   ·rw [ho,Bool.not_true,Bool.false_and]
    simp -implicitDefEqProofs (maxSteps:=5000000) only [go_sem,simprocAttr,itr,itq,zAj,zAb]
    exact ⟨a1,exF2 rfl (by first | exact ⟨f4,.inr trivial⟩ | exact ⟨f4,.inr rfl⟩ | exact f4 | exact ⟨f4,trivial⟩)⟩
end
end Go.Proofs.Ythgflkfhjnbheaa.G14
end
section
namespace Go.Proofs.Ythgflkfhjnbheaa.G14
open Go Go.Proofs.Ythgflkfhjnbheaa.Eng
def lastW (L : List SnS) : Bool:=match L.getLast? with | none=>true | some s=>zFz s
section
variable {b s w a r : Int} {H : zAc} {vd vs vp : AV} {S : StS} (g : StA H vd vs vp S) (fi : FitS S)
include g fi
set_option maxHeartbeats 16000000 in
theorem rplanC (hm : S.snaps.length < 8 → lastW S.snaps = zHl S.snaps) : (envL prog).call 50 [.agg [.int .i64 b,.int .i64 s,.int .i64 w,.int .i64 a,.int .i64 r],.agg [vd,vs,.int .i64 S.next,.int .i64 S.kind,.int .i64 S.pid,vp]] H = some (.bool (zFa b a S),H):=by
 have cd:=IS.cell g.d
 have cc:=g.s.cell
 have cp:=g.p.cell
 have fl:=fi.s.1
 obtain ⟨H1,hH1⟩ : ∃ H1,H1 = H ++ [ABlk.rw [.int .i64 b,.int .i64 s,.int .i64 w,.int .i64 a,.int .i64 r],.rw [vd,vs,.int .i64 S.next,.int .i64 S.kind,.int .i64 S.pid,vp],.rw [.int .i64 S.kind,.int .i64 S.pid,vp]]:=⟨_,rfl⟩
 have A1 : Adds H H1:=⟨_,hH1⟩
 have c0 : cellsOf H1 H.length = some [.int .i64 b,.int .i64 s,.int .i64 w,.int .i64 a,.int .i64 r]:=by rw [hH1]; unfold cellsOf; simp
 have c1 : cellsOf H1 (H.length + 1) = some [vd,vs,.int .i64 S.next,.int .i64 S.kind,.int .i64 S.pid,vp]:=by rw [hH1]; unfold cellsOf; simp
 have c2 : cellsOf H1 (H.length + 2) = some [.int .i64 S.kind,.int .i64 S.pid,vp]:=by rw [hH1]; unfold cellsOf; simp
 have g1:=g.adds A1
 have wp:=g1.p.len
 have ws:=g1.s.len
 have hH1:=hH1.symm
 have key : Outs (runC (envL prog) (b50 (envL prog)) ([.agg [.int .i64 b,.int .i64 s,.int .i64 w,.int .i64 a,.int .i64 r],.agg [vd,vs,.int .i64 S.next,.int .i64 S.kind,.int .i64 S.pid,vp]] ++ List.replicate (137 - [AV.agg [.int .i64 b,.int .i64 s,.int .i64 w,.int .i64 a,.int .i64 r],.agg [vd,vs,.int .i64 S.next,.int .i64 S.kind,.int .i64 S.pid,vp]].length) .undef) H) fun e' t K=>Adds H K ∧ fin [.tmp 4] (some (e',t,K)) = some (.bool (zFa b a S),K):=by
  unfold b50
  generalize hQ : (fun (e' : Ex) (t : T) (K : zAc)=>Adds H K ∧ fin [.tmp 4] (some (e',t,K)) = some (AV.bool (zFa b a S),K)) = Q
  unfold zFa zTb at hQ
  by_cases k0 : S.kind = 0
  ·have q0 : (S.kind == 0) = true:=by simp [k0]
   rw [if_pos k0] at hQ
   have wl:=len0 S.pairs
   rcases hz : (S.pid == 0) with _ | _ <;> rw [hz] at hQ
   ·rw [Bool.false_and,Bool.and_false] at hQ
    simp -implicitDefEqProofs (maxSteps:=5000000) only [go_sem,simprocAttr,itr,itq,zAe,cd.1,cd.2,cc.1,cc.2,cp.1,cp.2,hH1,c1,c2,q0,hz,zAb]
    subst hQ
    refine ⟨A1,?_⟩
    simp -implicitDefEqProofs (maxSteps:=5000000) only [go_sem,simprocAttr]
   ·rw [Bool.true_and] at hQ
    have e : (zEg S.kind b a (atsS S.snaps) [] S.pairs && S.pairs.isEmpty) = S.pairs.isEmpty:=by
     cases S.pairs with
     | nil=>rfl
     | cons x l=>rw [List.isEmpty_cons,Bool.and_false]
    rw [e] at hQ
    simp -implicitDefEqProofs (maxSteps:=5000000) only [go_sem,simprocAttr,itr,itq,zAe,cd.1,cd.2,cc.1,cc.2,cp.1,cp.2,hH1,c1,c2,q0,hz,wp,wl,zAb]
    subst hQ
    refine ⟨A1,?_⟩
    simp -implicitDefEqProofs (maxSteps:=5000000) only [go_sem,simprocAttr]
  have q0 : (S.kind == 0) = false:=by simp [k0]
  rw [if_neg k0] at hQ
  by_cases k1 : S.kind = 1
  ·have q1 : (S.kind == 1) = true:=by simp [k1]
   rw [if_pos k1] at hQ
   have ec:=rcindexC g1.s fi.s S.pid
   by_cases h1 : 0 ≤ cidF S.pid 0 S.snaps
   case neg =>
    have d1 : decide (cidF S.pid 0 S.snaps < 0) = true:=decide_eq_true (by omega)
    rw [decide_eq_false h1,Bool.and_false] at hQ
    simp -implicitDefEqProofs (maxSteps:=5000000) only [go_sem,simprocAttr,itr,itq,zAe,cd.1,cd.2,cc.1,cc.2,cp.1,cp.2,hH1,c1,c2,q0,q1,ec,d1,zAb]
    subst hQ
    refine ⟨A1,?_⟩
    simp -implicitDefEqProofs (maxSteps:=5000000) only [go_sem,simprocAttr]
   have d1 : decide (cidF S.pid 0 S.snaps < 0) = false:=decide_eq_false (by omega)
   rw [decide_eq_true h1,Bool.and_true] at hQ
   have l1:=zR9 g1 fi (.inl k1) c0 c1 c2 (m:=S.pairs.length) (i:=0) (K:=H1)
   rw [show ((0 : Nat) : Int) = 0 from rfl,List.drop_zero,List.take_zero] at l1
   simp -implicitDefEqProofs (maxSteps:=5000000) only [go_sem,simprocAttr,itr,itq,zAi,zAe,cd.1,cd.2,cc.1,cc.2,cp.1,cp.2,hH1,c1,c2,q0,q1,ec,d1]
   unfold LP1 at l1
   generalize (envL prog).loop (runC (envL prog) (l50x1 (envL prog))) = L0 at l1 ⊢
   refine zAq (fun r=>seqR (zAt 1 r) _) (l1 _ _ _ _ _ _ _ _ _ _ _ _ _ _ _ _ _ _ _ _ _ _ _ _ _ _ _ _ _ _ _ _ _ _ _ _ _ _ _ _ _ _ _ _ _ _ _ _ _ _ _ _ _ _ _ _ _ _ _ _ _ _ _ _ _ _ _ _ _ _ _ _ _ _ _ _ _ _ _ _ _ _ _ _ _ _ _ _ _ _ _ _ _ _ _ _ _ _ _ _ _ _ _ _ _ _ _ _ _ _ _ _ _ _ _ _ _ _ _ _ _ _ _ _ _ _ _ _ _ _ _ _ (Adds.refl H1) (by omega)) ?_
   rintro e t K ⟨aK,fv,rfl,f4,⟨rfl,ho⟩ | ⟨rfl,ho⟩⟩
   ·rw [ho] at hQ
    simp -implicitDefEqProofs (maxSteps:=5000000) only [go_sem,simprocAttr,zAb]
    subst hQ
    refine ⟨A1.trans aK,?_⟩
    simp -implicitDefEqProofs (maxSteps:=5000000) only [go_sem,simprocAttr]
   ·rw [ho] at hQ
    simp -implicitDefEqProofs (maxSteps:=5000000) only [go_sem,simprocAttr,zAb]
    subst hQ
    refine ⟨A1.trans aK,?_⟩
    simp -implicitDefEqProofs (maxSteps:=5000000) only [go_sem,simprocAttr,f4]
  have q1 : (S.kind == 1) = false:=by simp [k1]
  rw [if_neg k1] at hQ
  by_cases k2 : S.kind = 2
  case neg =>
   have q2 : (S.kind == 2) = false:=by simp [k2]
   rw [if_neg k2,Bool.and_false] at hQ
   simp -implicitDefEqProofs (maxSteps:=5000000) only [go_sem,simprocAttr,itr,itq,zAe,cd.1,cd.2,cc.1,cc.2,cp.1,cp.2,hH1,c1,c2,q0,q1,q2,zAb]
   subst hQ
   refine ⟨A1,?_⟩
   simp -implicitDefEqProofs (maxSteps:=5000000) only [go_sem,simprocAttr]
  have q2 : (S.kind == 2) = true:=by simp [k2]
  rw [if_pos k2] at hQ
  by_cases h1 : S.next ≤ S.pid
  case neg =>
   have d1 : decide (S.pid < S.next) = true:=decide_eq_true (by omega)
   rw [decide_eq_false h1,Bool.false_and,Bool.and_false] at hQ
   simp -implicitDefEqProofs (maxSteps:=5000000) only [go_sem,simprocAttr,itr,itq,zAe,cd.1,cd.2,cc.1,cc.2,cp.1,cp.2,hH1,c1,c2,q0,q1,q2,d1,zAb]
   subst hQ
   refine ⟨A1,?_⟩
   simp -implicitDefEqProofs (maxSteps:=5000000) only [go_sem,simprocAttr]
  have d1 : decide (S.pid < S.next) = false:=decide_eq_false (by omega)
  rw [decide_eq_true h1,Bool.true_and] at hQ
  by_cases h2 : S.pid ≤ 1000000
  case neg =>
   have d2 : decide (S.pid > 1000000) = true:=decide_eq_true (by omega)
   rw [decide_eq_false h2,Bool.false_and,Bool.and_false] at hQ
   simp -implicitDefEqProofs (maxSteps:=5000000) only [go_sem,simprocAttr,itr,itq,zAe,cd.1,cd.2,cc.1,cc.2,cp.1,cp.2,hH1,c1,c2,q0,q1,q2,d1,d2,zAb]
   subst hQ
   refine ⟨A1,?_⟩
   simp -implicitDefEqProofs (maxSteps:=5000000) only [go_sem,simprocAttr]
  have d2 : decide (S.pid > 1000000) = false:=decide_eq_false (by omega)
  rw [decide_eq_true h2,Bool.true_and] at hQ
  by_cases h8 : S.snaps.length < 8
  case neg =>
   have d8 : decide ((S.snaps.length : Int) ≥ 8) = true:=decide_eq_true (by omega)
   have e : zHl S.snaps = false:=by unfold zHl; rw [decide_eq_false h8,Bool.false_and]
   rw [e,Bool.and_false] at hQ
   simp -implicitDefEqProofs (maxSteps:=5000000) only [go_sem,simprocAttr,itr,itq,zAe,cd.1,cd.2,cc.1,cc.2,cp.1,cp.2,hH1,c1,c2,q0,q1,q2,d1,d2,ws,d8,zAb]
   subst hQ
   refine ⟨A1,?_⟩
   simp -implicitDefEqProofs (maxSteps:=5000000) only [go_sem,simprocAttr]
  have d8 : decide ((S.snaps.length : Int) ≥ 8) = false:=decide_eq_false (by omega)
  have ew : (envL prog).call 87 [vs] H1 = some (.bool (zHl S.snaps),H1):=by
   have:=wholeC g1.s fi.s
   rw [← hm h8]; exact this
  rcases hw : zHl S.snaps with _ | _ <;> rw [hw] at hQ ew
  ·rw [Bool.and_false] at hQ
   simp -implicitDefEqProofs (maxSteps:=5000000) only [go_sem,simprocAttr,itr,itq,zAe,cd.1,cd.2,cc.1,cc.2,cp.1,cp.2,hH1,c1,c2,q0,q1,q2,d1,d2,ws,d8,ew,zAb]
   subst hQ
   refine ⟨A1,?_⟩
   simp -implicitDefEqProofs (maxSteps:=5000000) only [go_sem,simprocAttr]
  ·rw [Bool.and_true] at hQ
   have l1:=zR9 g1 fi (.inr k2) c0 c1 c2 (m:=S.pairs.length) (i:=0) (K:=H1)
   rw [show ((0 : Nat) : Int) = 0 from rfl,List.drop_zero,List.take_zero] at l1
   simp -implicitDefEqProofs (maxSteps:=5000000) only [go_sem,simprocAttr,itr,itq,zAi,zAe,cd.1,cd.2,cc.1,cc.2,cp.1,cp.2,hH1,c1,c2,q0,q1,q2,d1,d2,ws,d8,ew]
   unfold LP1 at l1
   generalize (envL prog).loop (runC (envL prog) (l50x1 (envL prog))) = L0 at l1 ⊢
   refine zAq (fun r=>seqR (zAt 1 r) _) (l1 _ _ _ _ _ _ _ _ _ _ _ _ _ _ _ _ _ _ _ _ _ _ _ _ _ _ _ _ _ _ _ _ _ _ _ _ _ _ _ _ _ _ _ _ _ _ _ _ _ _ _ _ _ _ _ _ _ _ _ _ _ _ _ _ _ _ _ _ _ _ _ _ _ _ _ _ _ _ _ _ _ _ _ _ _ _ _ _ _ _ _ _ _ _ _ _ _ _ _ _ _ _ _ _ _ _ _ _ _ _ _ _ _ _ _ _ _ _ _ _ _ _ _ _ _ _ _ _ _ _ _ _ (Adds.refl H1) (by omega)) ?_
   rintro e t K ⟨aK,fv,rfl,f4,⟨rfl,ho⟩ | ⟨rfl,ho⟩⟩
   ·rw [ho] at hQ
    simp -implicitDefEqProofs (maxSteps:=5000000) only [go_sem,simprocAttr,zAb]
    subst hQ
    refine ⟨A1.trans aK,?_⟩
    simp -implicitDefEqProofs (maxSteps:=5000000) only [go_sem,simprocAttr]
   ·rw [ho] at hQ
    simp -implicitDefEqProofs (maxSteps:=5000000) only [go_sem,simprocAttr,zAb]
    subst hQ
    refine ⟨A1.trans aK,?_⟩
    simp -implicitDefEqProofs (maxSteps:=5000000) only [go_sem,simprocAttr,f4]
 obtain ⟨e',t,K,hr,aK,hf⟩:=key
 rw [c50,hr,hf]; exact aK.trimS rfl
end
end Go.Proofs.Ythgflkfhjnbheaa.G14
end
section
namespace Go.Proofs.Ythgflkfhjnbheaa.G14
open Go Go.Proofs.Ythgflkfhjnbheaa.Eng
theorem zQb {bl ar : Int} {L : List SnS} (G : GoodC bl ar L) (h8 : L.length < 8) : lastW L = zHl L:=by
 unfold lastW zHl
 rw [decide_eq_true h8,Bool.true_and]
 cases hl : L.getLast? with
 | none=>rfl
 | some s =>
  have hs:=List.mem_of_getLast? hl
  have o:=G.one s hs
  have:=zO2 o.tb.up o.u8 (List.all_eq_true.2 fun p hp=>o.sub p hp)
  show zFz s = (Bt.sumO s.ch == (s.tb.length : Int))
  unfold zFz
  simp only [any_idx]
  rw [← this]
  exact Bool.beq_comm
theorem zS9 {bl ar : Int} {S : StS} (G : GoodC bl ar S.snaps) : (S.snaps.all fun s=>decide (s.id < S.next)) = zTa S:=by
 unfold zTa
 have up:=G.up
 rw [List.pairwise_map] at up
 cases hl : S.snaps.getLast? with
 | none=>rw [List.getLast?_eq_none_iff.1 hl]; rfl
 | some s =>
  obtain ⟨A,hA⟩:=List.getLast?_eq_some_iff.1 hl
  rw [hA,List.pairwise_append] at up
  rw [hA,List.all_append]
  show (A.all _ && (decide (s.id < S.next) && true)) = decide (s.id < S.next)
  by_cases h : s.id < S.next
  ·rw [decide_eq_true h,Bool.and_true,Bool.and_true,List.all_eq_true]
   intro x hx
   have:=up.2.2 x hx s (by simp)
   simp; omega
  ·rw [decide_eq_false h,Bool.false_and,Bool.and_false]
section
variable {b s w a r : Int} {H : zAc} {vd vs vp : AV} {S : StS} (g : StA H vd vs vp S) (fi : FitS S) (lD : S.dirty.length ≤ 9223372036854775807)
include g fi lD
set_option maxHeartbeats 16000000 in
theorem zOh : (envL prog).call 15 [.agg [.int .i64 b,.int .i64 s,.int .i64 w,.int .i64 a,.int .i64 r],.agg [vd,vs,.int .i64 S.next,.int .i64 S.kind,.int .i64 S.pid,vp]] H = some (.bool (Gm.goodB b s w a r && zCp b s w a S),H):=by
 have cd:=IS.cell g.d
 have cc:=g.s.cell
 have cp:=g.p.cell
 have fl:=fi.s.1
 have eg:=Gm.goodL b s w a r
 unfold Gm.geo at eg
 rw [c15]
 unfold b15
 obtain ⟨H1,hH1⟩ : ∃ H1,H1 = H ++ [ABlk.rw [.int .i64 b,.int .i64 s,.int .i64 w,.int .i64 a,.int .i64 r],.rw [vd,vs,.int .i64 S.next,.int .i64 S.kind,.int .i64 S.pid,vp]]:=⟨_,rfl⟩
 have A1 : Adds H H1:=⟨_,hH1⟩
 have c0 : cellsOf H1 H.length = some [.int .i64 b,.int .i64 s,.int .i64 w,.int .i64 a,.int .i64 r]:=by rw [hH1]; unfold cellsOf; simp
 have c1 : cellsOf H1 (H.length + 1) = some [vd,vs,.int .i64 S.next,.int .i64 S.kind,.int .i64 S.pid,vp]:=by rw [hH1]; unfold cellsOf; simp
 have g1:=g.adds A1
 have tr : ∀ x : Bool,trim H (some (.bool x,H1)) = some (.bool x,H):=fun x=>A1.trimS rfl
 have hH1:=hH1.symm
 rcases hg : Gm.goodB b s w a r with _ | _ <;> rw [hg] at eg
 ·rw [Bool.false_and]
  simp -implicitDefEqProofs (maxSteps:=5000000) only [go_sem,simprocAttr,itr,itq,zAe,cd.1,cd.2,cc.1,cc.2,cp.1,cp.2,hH1,c0,c1,eg,tr]
 rw [Bool.true_and]
 have gg:=zDb hg
 have ed:=dirtyC gg (r:=r) g1.d lD g1.ok
 unfold zCp
 rcases hd : zHf b s w S.dirty with _ | _ <;> rw [hd] at ed
 ·rw [Bool.false_and]
  simp -implicitDefEqProofs (maxSteps:=5000000) only [go_sem,simprocAttr,itr,itq,zAe,cd.1,cd.2,cc.1,cc.2,cp.1,cp.2,hH1,c0,c1,eg,ed,tr]
 rw [Bool.true_and]
 have ec:=cgoodC g1.s fi.s (bl:=b) (by have:=gg.b1; omega) a
 rcases hc : zFc S.snaps b a with _ | _ <;> rw [hc] at ec
 ·rw [Bool.false_and]
  simp -implicitDefEqProofs (maxSteps:=5000000) only [go_sem,simprocAttr,itr,itq,zAe,cd.1,cd.2,cc.1,cc.2,cp.1,cp.2,hH1,c0,c1,eg,ed,ec,tr]
 rw [Bool.true_and]
 by_cases n1 : 1 ≤ S.next
 case neg =>
  have d1 : decide (S.next < 1) = true:=decide_eq_true (by omega)
  rw [decide_eq_false n1,Bool.false_and]
  simp -implicitDefEqProofs (maxSteps:=5000000) only [go_sem,simprocAttr,itr,itq,zAe,cd.1,cd.2,cc.1,cc.2,cp.1,cp.2,hH1,c0,c1,eg,ed,ec,d1,tr]
 have d1 : decide (S.next < 1) = false:=decide_eq_false (by omega)
 rw [decide_eq_true n1,Bool.true_and]
 by_cases n2 : S.next ≤ 1000001
 case neg =>
  have d2 : decide (S.next > 1000001) = true:=decide_eq_true (by omega)
  rw [decide_eq_false n2,Bool.false_and]
  simp -implicitDefEqProofs (maxSteps:=5000000) only [go_sem,simprocAttr,itr,itq,zAe,cd.1,cd.2,cc.1,cc.2,cp.1,cp.2,hH1,c0,c1,eg,ed,ec,d1,d2,tr]
 have d2 : decide (S.next > 1000001) = false:=decide_eq_false (by omega)
 rw [decide_eq_true n2,Bool.true_and]
 have ep:=planC (b:=b) (s:=s) (w:=w) (a:=a) (r:=r) g1 fi
 have ws:=g1.s.len
 unfold zTa
 by_cases h0 : S.snaps.length = 0
 ·have d0 : decide ((S.snaps.length : Int) > 0) = false:=decide_eq_false (by omega)
  have : S.snaps.getLast? = none:=by rw [List.eq_nil_of_length_eq_zero h0]; rfl
  rw [this]
  simp -implicitDefEqProofs (maxSteps:=5000000) only [go_sem,simprocAttr,itr,itq,zAe,cd.1,cd.2,cc.1,cc.2,cp.1,cp.2,hH1,c0,c1,eg,ed,ec,d1,d2,ws,d0,ep,tr]
 have d0 : decide ((S.snaps.length : Int) > 0) = true:=decide_eq_true (by omega)
 have hx:=List.getElem?_eq_getElem (show S.snaps.length - 1 < S.snaps.length by omega)
 rw [show S.snaps.getLast? = S.snaps[S.snaps.length - 1]? from List.getLast?_eq_getElem?,hx]
 generalize S.snaps[S.snaps.length - 1] = x at *
 show _ = some (AV.bool (decide (x.id < S.next) && zFa b a S),H)
 obtain ⟨bb,cs,vc,vt,sb,ix,hcc,h1,h2,h3,ht,hle,hbs,hip⟩:=g1.s.idx hx
 have w1 : IntKind.i64.wrap ((S.snaps.length : Int) - 1) = ((S.snaps.length - 1 : Nat) : Int):=by rw [zAk (by omega) (by omega)]; omega
 by_cases h : x.id < S.next
 ·have d3 : decide (x.id ≥ S.next) = false:=decide_eq_false (by omega)
  rw [decide_eq_true h,Bool.true_and]
  simp -implicitDefEqProofs (maxSteps:=5000000) only [go_sem,simprocAttr,itr,itq,zAe,cd.1,cd.2,cc.1,cc.2,cp.1,cp.2,hH1,c0,c1,eg,ed,ec,d1,d2,ws,d0,w1,ix,hcc,h1,d3,ep,tr]
 ·have d3 : decide (x.id ≥ S.next) = true:=decide_eq_true (by omega)
  rw [decide_eq_false h,Bool.false_and]
  simp -implicitDefEqProofs (maxSteps:=5000000) only [go_sem,simprocAttr,itr,itq,zAe,cd.1,cd.2,cc.1,cc.2,cp.1,cp.2,hH1,c0,c1,eg,ed,ec,d1,d2,ws,d0,w1,ix,hcc,h1,d3,ep,tr]
set_option maxHeartbeats 4000000 in
theorem rsgoodL0 {p3 : Nat} (h3 : cellsOf H p3 = some [vd,vs,.int .i64 S.next,.int .i64 S.kind,.int .i64 S.pid,vp]) (x0 x1 x2 x6 x7 x8 x9 x10 x11 x12 x13 x14 x15 x16 x17 x18 x19 x20 x21 x22 x23 x24 x25 x26 x27 x28 x29 x30 x31 x32 x33 x34 x35 x52 x53 x54 : AV) : ∀ (m i : Nat) (j36 j37 j38 j39 j40 j41 j42 j43 j44 j45 j46 j47 j48 j49 j50 j51 : AV),i + m = S.snaps.length →
  Outs (LP1 l16x0 [x0,x1,x2,.ptr p3 0,.bool false,.int .i64 (i : Int),x6,x7,x8,x9,x10,x11,x12,x13,x14,x15,x16,x17,x18,x19,x20,x21,x22,x23,x24,x25,x26,x27,x28,x29,x30,x31,x32,x33,x34,x35,j36,j37,j38,j39,j40,j41,j42,j43,j44,j45,j46,j47,j48,j49,j50,j51,x52,x53,x54] H) fun e t K=>K = H ∧ ∃ fv : Nat → AV,t = [x0,x1,x2,.ptr p3 0,(fv 4),(fv 5),x6,x7,x8,x9,x10,x11,x12,x13,x14,x15,x16,x17,x18,x19,x20,x21,x22,x23,x24,x25,x26,x27,x28,x29,x30,x31,x32,x33,x34,x35,(fv 36),(fv 37),(fv 38),(fv 39),(fv 40),(fv 41),(fv 42),(fv 43),(fv 44),(fv 45),(fv 46),(fv 47),(fv 48),(fv 49),(fv 50),(fv 51),x52,x53,x54] ∧ fv 4 = .bool false ∧ ((e = .exit 0 ∧ (S.snaps.drop i).all (fun s=>decide (s.id < S.next)) = true) ∨ (e = .ret ∧ (S.snaps.drop i).all (fun s=>decide (s.id < S.next)) = false)):=by
 intro m
 obtain ⟨L0,hL0⟩ : ∃ L,L = LP1 l16x0:=⟨_,rfl⟩
 have lo:=zAp hL0
 have wl:=g.s.len
 have fl:=fi.s.1
 rw [← hL0]
 induction m with
 | zero =>
  intro i j36 j37 j38 j39 j40 j41 j42 j43 j44 j45 j46 j47 j48 j49 j50 j51 hi
  obtain rfl : i = S.snaps.length:=by omega
  have hd : decide ((S.snaps.length : Int) < (S.snaps.length : Int)) = false:=by simp
  rw [lo,List.drop_length]
  unfold l16x0
  simp -implicitDefEqProofs (maxSteps:=5000000) only [go_sem,simprocAttr,itr,itq,h3,wl,hd,zAg,zAb]
  exact exF2 rfl (by first | exact ⟨rfl,.inl rfl⟩ | exact ⟨rfl,trivial⟩ | rfl | exact ⟨rfl,.inl trivial⟩)
 | succ m ih =>
  intro i j36 j37 j38 j39 j40 j41 j42 j43 j44 j45 j46 j47 j48 j49 j50 j51 hi
  have hlt : i < S.snaps.length:=by omega
  have hd : decide ((i : Int) < (S.snaps.length : Int)) = true:=decide_eq_true (by omega)
  have e2 : IntKind.i64.wrap ((i : Int) + 1) = ((i + 1 : Nat) : Int):=by rw [zAk (by omega) (by omega)]; omega
  have hy:=List.getElem?_eq_getElem hlt
  rw [List.drop_eq_getElem_cons hlt,List.all_cons]
  generalize S.snaps[i] = x at *
  obtain ⟨bb,cs,vc,vt,sb,ix,hcc,h1,h2,h3',ht,hle,hbs,hip⟩:=g.s.idx hy
  have key:=ih (i + 1)
  rw [lo]
  unfold l16x0
  by_cases h : x.id < S.next
  ·have d3 : decide (x.id ≥ S.next) = false:=decide_eq_false (by omega)
   rw [decide_eq_true h,Bool.true_and]
   simp -implicitDefEqProofs (maxSteps:=5000000) only [go_sem,simprocAttr,itr,itq,h3,wl,hd,ix,hcc,h1,d3,e2]
   exact key _ _ _ _ _ _ _ _ _ _ _ _ _ _ _ _ (by omega)
  ·have d3 : decide (x.id ≥ S.next) = true:=decide_eq_true (by omega)
   rw [decide_eq_false h,Bool.false_and]
   simp -implicitDefEqProofs (maxSteps:=5000000) only [go_sem,simprocAttr,itr,itq,h3,wl,hd,ix,hcc,h1,d3,zAj,zAb]
   exact exF2 rfl (by first | exact ⟨rfl,.inr rfl⟩ | exact ⟨rfl,trivial⟩ | rfl | exact ⟨rfl,.inr trivial⟩)
set_option maxHeartbeats 16000000 in
theorem zNb : (envL prog).call 16 [.agg [.int .i64 b,.int .i64 s,.int .i64 w,.int .i64 a,.int .i64 r],.agg [vd,vs,.int .i64 S.next,.int .i64 S.kind,.int .i64 S.pid,vp]] H = some (.bool (Gm.goodB b s w a r && zCp b s w a S),H):=by
 have cd:=IS.cell g.d
 have cc:=g.s.cell
 have cp:=g.p.cell
 have fl:=fi.s.1
 have eg:=Gm.goodR b s w a r
 unfold Gm.geo at eg
 obtain ⟨H1,hH1⟩ : ∃ H1,H1 = H ++ [ABlk.rw [.int .i64 b,.int .i64 s,.int .i64 w,.int .i64 a,.int .i64 r],.rw [vd,vs,.int .i64 S.next,.int .i64 S.kind,.int .i64 S.pid,vp]]:=⟨_,rfl⟩
 have A1 : Adds H H1:=⟨_,hH1⟩
 have c0 : cellsOf H1 H.length = some [.int .i64 b,.int .i64 s,.int .i64 w,.int .i64 a,.int .i64 r]:=by rw [hH1]; unfold cellsOf; simp
 have c1 : cellsOf H1 (H.length + 1) = some [vd,vs,.int .i64 S.next,.int .i64 S.kind,.int .i64 S.pid,vp]:=by rw [hH1]; unfold cellsOf; simp
 have g1:=g.adds A1
 have tr : ∀ x : Bool,trim H (some (.bool x,H1)) = some (.bool x,H):=fun x=>A1.trimS rfl
 have hH1:=hH1.symm
 rcases hg : Gm.goodB b s w a r with _ | _ <;> rw [hg] at eg
 ·rw [Bool.false_and,c16]
  unfold b16
  simp -implicitDefEqProofs (maxSteps:=5000000) only [go_sem,simprocAttr,itr,itq,zAe,cd.1,cd.2,cc.1,cc.2,cp.1,cp.2,hH1,c0,c1,eg,tr]
 rw [Bool.true_and]
 have gg:=zDb hg
 have ed:=rdirtyC gg (r:=r) g1.d lD
 unfold zCp
 rcases hd : zHf b s w S.dirty with _ | _ <;> rw [hd] at ed
 ·rw [Bool.false_and,c16]
  unfold b16
  simp -implicitDefEqProofs (maxSteps:=5000000) only [go_sem,simprocAttr,itr,itq,zAe,cd.1,cd.2,cc.1,cc.2,cp.1,cp.2,hH1,c0,c1,eg,ed,tr]
 rw [Bool.true_and]
 have ec:=rcgood g1.s fi.s (bl:=b) (by have:=gg.b1; omega) a
 rcases hc : zFc S.snaps b a with _ | _ <;> rw [hc] at ec
 ·rw [Bool.false_and,c16]
  unfold b16
  simp -implicitDefEqProofs (maxSteps:=5000000) only [go_sem,simprocAttr,itr,itq,zAe,cd.1,cd.2,cc.1,cc.2,cp.1,cp.2,hH1,c0,c1,eg,ed,ec,tr]
 rw [Bool.true_and]
 have G:=((zMp fun x hx=>(fi.s.2 x hx).u8).1 hc).2
 by_cases n1 : 1 ≤ S.next
 case neg =>
  have d1 : decide (S.next < 1) = true:=decide_eq_true (by omega)
  rw [decide_eq_false n1,Bool.false_and,c16]
  unfold b16
  simp -implicitDefEqProofs (maxSteps:=5000000) only [go_sem,simprocAttr,itr,itq,zAe,cd.1,cd.2,cc.1,cc.2,cp.1,cp.2,hH1,c0,c1,eg,ed,ec,d1,tr]
 have d1 : decide (S.next < 1) = false:=decide_eq_false (by omega)
 rw [decide_eq_true n1,Bool.true_and]
 by_cases n2 : S.next ≤ 1000001
 case neg =>
  have d2 : decide (S.next > 1000001) = true:=decide_eq_true (by omega)
  rw [decide_eq_false n2,Bool.false_and,c16]
  unfold b16
  simp -implicitDefEqProofs (maxSteps:=5000000) only [go_sem,simprocAttr,itr,itq,zAe,cd.1,cd.2,cc.1,cc.2,cp.1,cp.2,hH1,c0,c1,eg,ed,ec,d1,d2,tr]
 have d2 : decide (S.next > 1000001) = false:=decide_eq_false (by omega)
 rw [decide_eq_true n2,Bool.true_and]
 have ep:=rplanC (b:=b) (s:=s) (w:=w) (a:=a) (r:=r) g1 fi fun h8=>zQb G h8
 have l0:=rsgoodL0 g1 fi lD c1 (m:=S.snaps.length) (i:=0)
 rw [show ((0 : Nat) : Int) = 0 from rfl,List.drop_zero,zS9 G] at l0
 generalize zTa S = ls at *
 have key : Outs (runC (envL prog) (b16 (envL prog)) ([.agg [.int .i64 b,.int .i64 s,.int .i64 w,.int .i64 a,.int .i64 r],.agg [vd,vs,.int .i64 S.next,.int .i64 S.kind,.int .i64 S.pid,vp]] ++ List.replicate (55 - [AV.agg [.int .i64 b,.int .i64 s,.int .i64 w,.int .i64 a,.int .i64 r],.agg [vd,vs,.int .i64 S.next,.int .i64 S.kind,.int .i64 S.pid,vp]].length) .undef) H) fun e' t K=>K = H1 ∧ fin [.tmp 4] (some (e',t,K)) = some (.bool (ls && zFa b a S),K):=by
  unfold b16
  generalize hQ : (fun (e' : Ex) (t : T) (K : zAc)=>K = H1 ∧ fin [.tmp 4] (some (e',t,K)) = some (AV.bool (ls && zFa b a S),K)) = Q
  simp -implicitDefEqProofs (maxSteps:=5000000) only [go_sem,simprocAttr,itr,itq,zAi,zAe,cd.1,cd.2,cc.1,cc.2,cp.1,cp.2,hH1,c0,c1,eg,ed,ec,d1,d2]
  unfold LP1 at l0
  generalize (envL prog).loop (runC (envL prog) (l16x0 (envL prog))) = L0 at l0 ⊢
  refine zAq (fun r=>seqR (zAt 0 r) _) (l0 _ _ _ _ _ _ _ _ _ _ _ _ _ _ _ _ _ _ _ _ _ _ _ _ _ _ _ _ _ _ _ _ _ _ _ _ _ _ _ _ _ _ _ _ _ _ _ _ _ _ _ _ (by omega)) ?_
  rintro e t K ⟨rfl,fv,rfl,f4,⟨rfl,ho⟩ | ⟨rfl,ho⟩⟩
  ·rw [ho,Bool.true_and] at hQ
   simp -implicitDefEqProofs (maxSteps:=5000000) only [go_sem,simprocAttr,itr,itq,c0,c1,ep,zAb]
   subst hQ
   refine ⟨rfl,?_⟩
   simp -implicitDefEqProofs (maxSteps:=5000000) only [go_sem,simprocAttr]
  ·rw [ho,Bool.false_and] at hQ
   simp -implicitDefEqProofs (maxSteps:=5000000) only [go_sem,simprocAttr,zAb]
   subst hQ
   refine ⟨rfl,?_⟩
   simp -implicitDefEqProofs (maxSteps:=5000000) only [go_sem,simprocAttr,f4]
 obtain ⟨e',t,K,hr,rfl,hf⟩:=key
 rw [c16,hr,hf]; exact tr _
end
end Go.Proofs.Ythgflkfhjnbheaa.G14
end
