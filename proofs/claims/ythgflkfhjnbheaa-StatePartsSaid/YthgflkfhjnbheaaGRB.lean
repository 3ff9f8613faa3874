/- What the functions that the law reaches answer, for every argument. No condition but those in each statement. -/
import Derived.Test.YthgflkfhjnbheaaN
import Derived.Test.YthgflkfhjnbheaaE6
import Derived.Test.YthgflkfhjnbheaaGRA
set_option linter.unusedSimpArgs false
set_option linter.unusedVariables false
set_option linter.unusedSectionVars false
set_option maxRecDepth 10000
section
namespace Go.Proofs.Ythgflkfhjnbheaa.G14
open Go Go.Proofs.Ythgflkfhjnbheaa.Eng
noncomputable abbrev LQU (l : Env → CT):=(envL prog).loop (runC (envL prog) (l (envL prog)))
noncomputable abbrev tyU : TyD:=ty 1 false 1 [.int .u8 0]
theorem growU {n : Nat} (h1 : 1 ≤ n) (hn : n ≤ 2000000000) (H : zAb) : (envL prog).call 63 [.nilSl,.int .i64 (n : Int)] H = some (.sl H.length 0 1 0 n false,H ++ [.rw (List.replicate n (tyU).zero).flatten]):=by
 have w0 : IntKind.i64.wrap (0 - 0) = 0:=by decide
 have w1 : IntKind.i64.wrap ((n : Int) - 0) = (n : Int):=by rw [zAl (by omega) (by omega)]; omega
 have d1 : decide ((n : Int) < 0) = false:=decide_eq_false (by omega)
 have d2 : decide ((n : Int) > 0) = true:=decide_eq_true (by omega)
 have ha:=appN_nil (d:=tyU) (H:=H) (n:=n) (k:=1) (by omega) rfl (by decide) h1 (by unfold roomy; show n * 1 ≤ _; omega)
 have sl0 : zCy 1 .nilSl none (some (.int .i64 0)) none = some .nilSl:=by simp [zCy,asI]
 have sl1 : zCy 1 (.sl H.length 0 1 n n false) none (some (.int .i64 0)) none = some (.sl H.length 0 1 0 n false):=by simp [zCy,asI]
 unfold tyU at ha
 rw [c63]
 unfold b63
 have hcap : capSl .nilSl = some (.int .i64 0):=rfl
 have w00 : IntKind.i64.wrap 0 = 0:=by decide
 simp -implicitDefEqProofs (maxSteps:=5000000) only [go_sem,simprocAttr,hcap,w0,w00,w1,d1,d2,ha,sl0,sl1]
 exact zA9 (by simp [AV.under])
theorem grow0U (H : zAb) : (envL prog).call 63 [.nilSl,.int .i64 0] H = some (.nilSl,H):=by
 have w0 : IntKind.i64.wrap (0 - 0) = 0:=by decide
 have d1 : decide ((0 : Int) < 0) = false:=rfl
 have d2 : decide ((0 : Int) > 0) = false:=rfl
 rw [c63]
 unfold b63
 have hcap : capSl .nilSl = some (.int .i64 0):=rfl
 have w00 : IntKind.i64.wrap 0 = 0:=by decide
 simp -implicitDefEqProofs (maxSteps:=5000000) only [go_sem,simprocAttr,hcap,w0,w00,d1,d2]
def totU (Xs : List (AV × Nat × List AV)) : Nat:=(Xs.map fun x=>x.2.1).sum
def catU (Xs : List (AV × Nat × List AV)) : List AV:=(Xs.map fun x=>x.2.2).flatten
section
variable {H : zAb} {a : Nat} {Xs : List (AV × Nat × List AV)} (ha : cellsOf H a = some (Xs.map fun x=>x.1)) (hs : ∀ x ∈ Xs,Src 1 H x.1 x.2.1 x.2.2) (ht : totU Xs ≤ 2000000000) (hX : Xs.length ≤ 1000)
include ha hs ht hX
set_option maxHeartbeats 2000000 in
theorem sumLU (x0 x1 x2 x4 x6 x7 x8 x23 x24 x25 x26 x27 x28 x29 x30 x31 x32 x33 x34 x35 : AV) : ∀ (k i : Nat) (j5 j12 j13 j14 j15 j16 j17 j18 j19 j20 j21 j22 : AV),i + k = Xs.length →
  Outs (LQU l24x0 [x0,x1,x2,.int .i64 (totU (Xs.take i) : Int),x4,j5,x6,x7,x8,.sl a 0 1 Xs.length Xs.length true,.int .i64 (Xs.length : Int),.int .i64 (i : Int),j12,j13,j14,j15,j16,j17,j18,j19,j20,j21,j22,x23,x24,x25,x26,x27,x28,x29,x30,x31,x32,x33,x34,x35] H) fun e t H'=>e = .exit 0 ∧ H' = H ∧ ∃ k : Nat → AV,t = [x0,x1,x2,.int .i64 (totU Xs : Int),x4,(k 5),x6,x7,x8,.sl a 0 1 Xs.length Xs.length true,.int .i64 (Xs.length : Int),(k 11),(k 12),(k 13),(k 14),(k 15),(k 16),(k 17),(k 18),(k 19),(k 20),(k 21),(k 22),x23,x24,x25,x26,x27,x28,x29,x30,x31,x32,x33,x34,x35]:=by
 intro k
 obtain ⟨L,hL⟩ : ∃ L,L = LQU l24x0:=⟨_,rfl⟩
 have lo:=zAr hL
 rw [← hL]
 induction k with
 | zero =>
  intro i j5 j12 j13 j14 j15 j16 j17 j18 j19 j20 j21 j22 hi
  obtain rfl : i = Xs.length:=by omega
  have hd : decide ((Xs.length : Int) < (Xs.length : Int)) = false:=by simp
  rw [List.take_length,lo]
  unfold l24x0
  simp -implicitDefEqProofs (maxSteps:=5000000) only [go_sem,simprocAttr,hd,zAh,zAc]
  exact exF rfl
 | succ k ih =>
  intro i j5 j12 j13 j14 j15 j16 j17 j18 j19 j20 j21 j22 hi
  have hlt : i < Xs.length:=by omega
  have hx:=List.getElem?_eq_getElem hlt
  have hv:=zJ8 (fun x : AV × Nat × List AV=>x.1) hx
  have sx:=hs _ (List.getElem_mem hlt)
  generalize Xs[i] = x at *
  have hd : decide ((i : Int) < (Xs.length : Int)) = true:=decide_eq_true (by omega)
  have et : totU (Xs.take (i + 1)) = totU (Xs.take i) + x.2.1:=by unfold totU; rw [List.take_add_one,hx]; simp
  have le : totU (Xs.take (i + 1)) ≤ totU Xs:=by
   unfold totU
   rw [← List.take_append_drop (i + 1) Xs,List.map_append,List.sum_append,List.take_append_drop]
   exact Nat.le_add_right _ _
  have e2 : IntKind.i64.wrap ((i : Int) + 1) = ((i + 1 : Nat) : Int):=by
   skip
   rw [zAl (by omega) (by omega)]; omega
  have e3 : IntKind.i64.wrap ((totU (Xs.take i) : Int) + (x.2.1 : Int)) = (totU (Xs.take (i + 1)) : Int):=by rw [zAl (by omega) (by omega)]; omega
  have d3 : decide ((totU (Xs.take (i + 1)) : Int) < 0) = false:=decide_eq_false (by omega)
  have ix:=zFg a 1 Xs.length Xs.length i true .i64 (by omega) hlt
  rw [Nat.mul_one] at ix
  have hl:=sx.len
  rw [lo]
  unfold l24x0
  simp -implicitDefEqProofs (maxSteps:=5000000) only [go_sem,simprocAttr,hd,ix,ha,hv,hl,e2,e3,d3]
  exact ih (i + 1) _ _ _ _ _ _ _ _ _ _ _ _ (by omega)
def OutU (H : zAb) (Xs : List (AV × Nat × List AV)) (i : Nat) (l : AV) (H' : zAb) : Prop :=
 (totU Xs = 0 ∧ l = .nilSl ∧ H' = H) ∨ (totU Xs ≠ 0 ∧ l = .sl H.length 0 1 (totU (Xs.take i)) (totU Xs) false ∧ ∃ Z : List AV,Z.length + totU (Xs.take i) * 1 = totU Xs * 1 ∧ H' = H ++ [.rw (catU (Xs.take i) ++ Z)])
theorem zT3 : ∀ i,(catU (Xs.take i)).length = totU (Xs.take i) * 1:=by
 intro i
 have : ∀ Ys : List (AV × Nat × List AV),(∀ x ∈ Ys,x.2.2.length = x.2.1 * 1) → (catU Ys).length = totU Ys * 1:=by
  intro Ys
  induction Ys with
  | nil=>intro _; rfl
  | cons x Ys ih =>
   intro h
   have e:=ih fun y hy=>h y (by simp [hy])
   unfold catU totU at e ⊢
   rw [List.map_cons,List.map_cons,List.flatten_cons,List.sum_cons,List.length_append,e,h x (by simp),Nat.add_mul]
 exact this _ fun x hx=>(hs x (List.mem_of_mem_take hx)).clen
set_option maxHeartbeats 2000000 in
theorem catLU (x0 x1 x2 x3 x4 x5 x7 x9 x10 x11 x12 x13 x14 x15 x16 x17 x18 x19 x20 x21 x22 x23 x24 x35 : AV) : ∀ (k i : Nat) (l : AV) (H1 : zAb) (j8 j28 j29 j30 j31 j32 j33 j34 : AV),OutU H Xs i l H1 → i + k = Xs.length →
  Outs (LQU l24x1 [x0,x1,x2,x3,x4,x5,l,x7,j8,x9,x10,x11,x12,x13,x14,x15,x16,x17,x18,x19,x20,x21,x22,x23,x24,.sl a 0 1 Xs.length Xs.length true,.int .i64 (Xs.length : Int),.int .i64 (i : Int),j28,j29,j30,j31,j32,j33,j34,x35] H1) fun e t H'=>e = .exit 2 ∧ ∃ l',OutU H Xs Xs.length l' H' ∧ ∃ k : Nat → AV,t = [x0,x1,x2,x3,x4,x5,l',x7,(k 8),x9,x10,x11,x12,x13,x14,x15,x16,x17,x18,x19,x20,x21,x22,x23,x24,.sl a 0 1 Xs.length Xs.length true,.int .i64 (Xs.length : Int),(k 27),(k 28),(k 29),(k 30),(k 31),(k 32),(k 33),(k 34),x35]:=by
 intro k
 obtain ⟨L,hL⟩ : ∃ L,L = LQU l24x1:=⟨_,rfl⟩
 have lo:=zAr hL
 rw [← hL]
 induction k with
 | zero =>
  intro i l H1 j8 j28 j29 j30 j31 j32 j33 j34 ho hi
  obtain rfl : i = Xs.length:=by omega
  have hd : decide ((Xs.length : Int) < (Xs.length : Int)) = false:=by simp
  rw [lo]
  unfold l24x1
  simp -implicitDefEqProofs (maxSteps:=5000000) only [go_sem,simprocAttr,hd,zAh,zAc]
  exact ⟨l,ho,exF rfl⟩
 | succ k ih =>
  intro i l H1 j8 j28 j29 j30 j31 j32 j33 j34 ho hi
  have hlt : i < Xs.length:=by omega
  have cl:=zT3 ha hs ht hX
  have hx:=List.getElem?_eq_getElem hlt
  have hv:=zJ8 (fun x : AV × Nat × List AV=>x.1) hx
  have sx:=hs _ (List.getElem_mem hlt)
  generalize Xs[i] = x at *
  have hd : decide ((i : Int) < (Xs.length : Int)) = true:=decide_eq_true (by omega)
  have et : totU (Xs.take (i + 1)) = totU (Xs.take i) + x.2.1:=by unfold totU; rw [List.take_add_one,hx]; simp
  have ec : catU (Xs.take (i + 1)) = catU (Xs.take i) ++ x.2.2:=by unfold catU; rw [List.take_add_one,hx]; simp
  have le : totU (Xs.take (i + 1)) ≤ totU Xs:=by
   unfold totU
   rw [← List.take_append_drop (i + 1) Xs,List.map_append,List.sum_append,List.take_append_drop]
   exact Nat.le_add_right _ _
  have e2 : IntKind.i64.wrap ((i : Int) + 1) = ((i + 1 : Nat) : Int):=by rw [zAl (by omega) (by omega)]; omega
  have ix:=zFg a 1 Xs.length Xs.length i true .i64 (by omega) hlt
  rw [Nat.mul_one] at ix
  obtain ⟨l2,H2,ho2,ea⟩ : ∃ l2 H2,OutU H Xs (i + 1) l2 H2 ∧ app tyU l x.1 H1 = some (l2,H2):=by
   rcases ho with ⟨h0,rfl,rfl⟩ | ⟨h0,rfl,Z,hZ,rfl⟩
   ·have : x.2.1 = 0:=by omega
    rw [this] at sx
    exact ⟨_,_,.inl ⟨h0,rfl,rfl⟩,app_nil0 rfl sx⟩
   ·refine ⟨_,_,.inr ⟨h0,rfl,Z.drop x.2.2.length,?_,rfl⟩,?_⟩
    ·rw [List.length_drop,sx.clen,et,Nat.add_mul]
     rw [et] at le
     have:=Nat.mul_le_mul_right 1 le
     rw [Nat.add_mul] at this
     omega
    ·have:=app_in (k:=1) (by omega) (d:=tyU) rfl (H:=H ++ [.rw (catU (Xs.take i) ++ Z)]) (b:=H.length) (m:=totU (Xs.take i)) (n:=totU Xs) (A:=catU (Xs.take i)) (Z:=Z) (by simp) (cl i) (sx.adds _) (by
      rw [sx.clen]
      rw [et] at le
      have:=Nat.mul_le_mul_right 1 le
      rw [Nat.add_mul] at this
      omega) (by omega)
     rw [this,et,ec]
     simp
  have hm : ∀ G,cellsOf (H ++ G) a = some (Xs.map fun x=>x.1):=fun G=>zBz ha
  have hm1 : cellsOf H1 a = some (Xs.map fun x=>x.1):=by
   rcases ho with ⟨_,_,rfl⟩ | ⟨_,_,Z,_,rfl⟩
   ·exact ha
   ·exact hm _
  unfold tyU at ea
  rw [lo]
  unfold l24x1
  simp -implicitDefEqProofs (maxSteps:=5000000) only [go_sem,simprocAttr,hd,ix,hm1,hv,e2,ea]
  exact ih (i + 1) l2 H2 _ _ _ _ _ _ _ _ ho2 (by omega)
set_option maxHeartbeats 2000000 in
theorem concatU : ∃ l H',((totU Xs = 0 ∧ l = .nilSl ∧ H' = H) ∨ (totU Xs ≠ 0 ∧ l = .sl H.length 0 1 (totU Xs) (totU Xs) false ∧ H' = H ++ [.rw (catU Xs)])) ∧ (envL prog).call 24 [.sl a 0 1 Xs.length Xs.length true] H = some (l,H'):=by
 have l0:=sumLU ha hs ht hX (k:=Xs.length) (i:=0)
 have cl:=zT3 ha hs ht hX
 rw [show ((0 : Nat) : Int) = 0 from rfl,List.take_zero,show totU [] = 0 from rfl,show ((0 : Nat) : Int) = 0 from rfl] at l0
 have l1:=catLU ha hs ht hX (k:=Xs.length) (i:=0)
 rw [show ((0 : Nat) : Int) = 0 from rfl] at l1
 obtain ⟨g,H1,ho,hg⟩ : ∃ g H1,OutU H Xs 0 g H1 ∧ (envL prog).call 63 [.nilSl,.int .i64 (totU Xs : Int)] H = some (g,H1):=by
  by_cases h0 : totU Xs = 0
  ·refine ⟨_,_,.inl ⟨h0,rfl,rfl⟩,?_⟩
   rw [h0]; exact grow0U H
  ·refine ⟨_,_,.inr ⟨h0,rfl,(List.replicate (totU Xs) (tyU).zero).flatten,?_,rfl⟩,?_⟩
   ·rw [zLe (k:=1) (by rfl),List.take_zero,show totU [] = 0 from rfl,Nat.zero_mul,Nat.add_zero]
   ·rw [List.take_zero,show totU [] = 0 from rfl,show catU [] = [] from rfl,List.nil_append]
    exact growU (by omega) ht H
 have o : Outs (runC (envL prog) (b24 (envL prog)) ([.sl a 0 1 Xs.length Xs.length true] ++ List.replicate (36 - [AV.sl a 0 1 Xs.length Xs.length true].length) .undef) H) fun e' t H'=>∃ l,OutU H Xs Xs.length l H' ∧ fin [.tmp 2] (some (e',t,H')) = some (l,H'):=by
  unfold b24
  generalize hQ : (fun (e' : Ex) (t : T) (H' : zAb)=>∃ l,OutU H Xs Xs.length l H' ∧ fin [.tmp 2] (some (e',t,H')) = some (l,H')) = Q
  simp -implicitDefEqProofs (maxSteps:=5000000) only [go_sem,simprocAttr,zAj]
  unfold LQU at l0 l1
  generalize (envL prog).loop (runC (envL prog) (l24x0 (envL prog))) = L0 at l0 ⊢
  refine zAq (fun r=>seqR (zAt 0 r) _) (l0 _ _ _ _ _ _ _ _ _ _ _ _ _ _ _ _ _ _ _ _ _ _ _ _ _ _ _ _ _ _ _ _ (by omega)) ?_
  rintro e t H' ⟨rfl,rfl,k,rfl⟩
  simp -implicitDefEqProofs (maxSteps:=5000000) only [go_sem,simprocAttr,zAj,hg]
  generalize (envL prog).loop (runC (envL prog) (l24x1 (envL prog))) = L1 at l1 ⊢
  refine zAq (fun r=>seqR (zAt 2 r) _) (l1 _ _ _ _ _ _ _ _ _ _ _ _ _ _ _ _ _ _ _ _ _ _ _ _ _ _ _ _ _ _ _ _ _ _ ho (by omega)) ?_
  rintro e t H' ⟨rfl,l,ho,k,rfl⟩
  simp -implicitDefEqProofs (maxSteps:=5000000) only [go_sem,simprocAttr,zAc]
  subst hQ
  refine ⟨l,ho,?_⟩
  simp -implicitDefEqProofs (maxSteps:=5000000) only [go_sem,simprocAttr]
 obtain ⟨e',t,H',hr,l,ho,hf⟩:=o
 rw [c24,hr,hf]
 rcases ho with ⟨h0,rfl,rfl⟩ | ⟨h0,rfl,Z,hZ,rfl⟩
 ·exact ⟨_,_,.inl ⟨h0,rfl,rfl⟩,zBw rfl⟩
 ·rw [List.take_length] at hZ ⊢
  obtain rfl : Z = []:=List.eq_nil_of_length_eq_zero (by omega)
  rw [List.append_nil]
  exact ⟨_,_,.inr ⟨h0,rfl,rfl⟩,zA9 (by simp [AV.under])⟩
end
end Go.Proofs.Ythgflkfhjnbheaa.G14
end
section
namespace Go.Proofs.Ythgflkfhjnbheaa.G14
open Go Go.Proofs.Ythgflkfhjnbheaa.Eng
structure StS where
 dirty : List Int
 snaps : List SnS
 next : Int
 kind : Int
 pid : Int
 pairs : List PrS
deriving DecidableEq
def u8w (n : Int) : Int:=IntKind.u8.wrap n
def zC2 (b s w : Int) (pre : List Int) : List Int → Bool
 | []=>true
 | x :: l=>((x == -1) || (decide (0 ≤ x) && (decide (x < b) && ((x.tmod s == (pre.length : Int).tdiv w) && !pre.contains x)))) && zC2 b s w (pre ++ [x]) l
def zGc (b s w : Int) (l : List Int) : Bool:=((l.length : Int) == s * w) && zC2 b s w [] l
def atsS (L : List SnS) : List Int:=(L.map fun s=>s.tb.map (·.2)).flatten
def zLl (kind b ar : Int) (held : List Int) (pre : List PrS) (x : PrS) : Bool :=
 decide (0 ≤ x.1) && (decide (x.1 < b) && ((match pre.getLast? with | none=>true | some q=>decide (q.1 < x.1)) &&
  ((!(kind == 1) || held.contains x.2) && (!(kind == 2) || ((x.2 == 255) || (decide (0 ≤ x.2) && (decide (x.2 < ar) && (!held.contains x.2 && !(pre.map (·.2)).contains x.2))))))))
def zD8 (kind b ar : Int) (held : List Int) : List PrS → List PrS → Bool
 | _,[]=>true
 | pre,x :: l=>zLl kind b ar held pre x && zD8 kind b ar held (pre ++ [x]) l
def zHe (L : List SnS) : Bool:=decide (L.length < 8) && (match L.getLast? with | none=>true | some s=>Bt.sumO s.ch == (s.tb.length : Int))
def zM6 (S : StS) : Bool :=
 if S.kind = 0 then (S.pid == 0) && S.pairs.isEmpty else if S.kind = 1 then decide (0 ≤ cidF S.pid 0 S.snaps) else if S.kind = 2 then decide (S.next ≤ S.pid) && (decide (S.pid ≤ 1000000) && zHe S.snaps) else false
def zEh (b ar : Int) (S : StS) : Bool:=zD8 S.kind b ar (atsS S.snaps) [] S.pairs && zM6 S
def zM5 (S : StS) : Bool:=match S.snaps.getLast? with | none=>true | some s=>decide (s.id < S.next)
def zCt (b s w ar : Int) (S : StS) : Bool:=zGc b s w S.dirty && (zEz S.snaps b ar && (decide (1 ≤ S.next) && (decide (S.next ≤ 1000001) && (zM5 S && zEh b ar S))))
def zD9 : List Int → List PrS → List Int
 | z,[]=>z
 | z,p :: l=>zD9 (z.set p.1.toNat (if p.2 = 255 then 255 else u8w (p.2 + 1))) l
def zBv (b : Int) (l : List PrS) : List Int:=zD9 (List.replicate b.toNat 0) l
def zDc (b : Int) (s : SnS) : List Int:=putS 4 (IntKind.u64.wrap s.id) ++ (s.ch ++ zBv b s.tb)
def zIs (b : Int) : SnS:=⟨0,List.replicate (Bt.newN b) 0,[]⟩
def zBh (b : Int) : Nat → List SnS → List Int
 | 0,_=>[]
 | k + 1,[]=>zDc b (zIs b) ++ zBh b k []
 | k + 1,s :: L=>zDc b s ++ zBh b k L
def encT (b : Int) (S : StS) : List Int :=
 putS 4 (IntKind.u64.wrap S.next) ++ ([u8w S.snaps.length,u8w S.kind] ++ (putS 4 (IntKind.u64.wrap S.pid) ++ (S.dirty.map (fun d=>u8w (d + 1)) ++ (zBh b 8 S.snaps ++ zBv b S.pairs))))
def unmF : Nat → List Int → List PrS
 | _,[]=>[]
 | i,c :: l=>(if c = 0 then [] else [((i : Int),if c = 255 then 255 else c - 1)]) ++ unmF (i + 1) l
def unmS (z : List Int) : List PrS:=unmF 0 z
def snOf (nb b : Nat) (z : List Int) : SnS:=⟨getS (z.take 4),(z.drop 4).take nb,unmS ((z.drop (4 + nb)).take b)⟩
def zDu (nb b : Nat) : Nat → List Int → List SnS
 | 0,_=>[]
 | k + 1,z=>snOf nb b z :: zDu nb b k (z.drop (4 + nb + b))
def rawT (n nb b : Nat) (z : List Int) : StS :=
 ⟨((z.drop 10).take n).map (· - 1),(zDu nb b 8 (z.drop (10 + n))).take ((z[4]?).getD 0).toNat,getS (z.take 4),(z[5]?).getD 0,getS ((z.drop 6).take 4),unmS ((z.drop (10 + n + 8 * (4 + nb + b))).take b)⟩
theorem zH4 : ∀ (l : List PrS) (z : List Int),(zD9 z l).length = z.length
 | [],z=>rfl
 | p :: l,z=>by rw [zD9,zH4 l,List.length_set]
theorem zDf (b : Int) (l : List PrS) : (zBv b l).length = b.toNat:=by unfold zBv; rw [zH4,List.length_replicate]
theorem zMr (n : Int) : 0 ≤ u8w n ∧ u8w n ≤ 255:=by unfold u8w; rw [zQt]; omega
theorem zN0 {n : Int} (h : 0 ≤ n ∧ n ≤ 255) : u8w n = n:=by unfold u8w; rw [zQt]; omega
theorem zOe : ∀ (l : List PrS) (z : List Int),IsU8 z → IsU8 (zD9 z l)
 | [],z,h=>h
 | p :: l,z,h=>by
  rw [zD9]
  refine zOe l _ fun x hx=>?_
  rcases List.mem_or_eq_of_mem_set hx with hx | rfl
  ·exact h x hx
  ·split
   ·omega
   ·exact zMr _
theorem zOd (b : Int) (l : List PrS) : IsU8 (zBv b l):=zOe l _ (Bt.rep_u8 _)
def zO5 (p : PrS) : Prop:=0 ≤ p.1 ∧ ((0 ≤ p.2 ∧ p.2 ≤ 253) ∨ p.2 = 255)
theorem zFn : ∀ (x y : List Int) (i : Nat),unmF i (x ++ y) = unmF i x ++ unmF (i + x.length) y
 | [],y,i=>rfl
 | c :: x,y,i=>by
  rw [List.cons_append,unmF,unmF,zFn x y (i + 1),List.append_assoc,List.length_cons,show i + 1 + x.length = i + (x.length + 1) by omega]
theorem zHs : ∀ (n i : Nat),unmF i (List.replicate n 0) = []
 | 0,i=>rfl
 | n + 1,i=>by rw [List.replicate_succ,unmF,zHs n]; rfl
theorem zH3 : ∀ (l : List PrS) (x : List Int) (m : Nat),asc l → (∀ p ∈ l,(x.length : Int) ≤ p.1 ∧ p.1 < ((x.length + m : Nat) : Int)) → (∀ p ∈ l,zO5 p) → unmF 0 (zD9 (x ++ List.replicate m 0) l) = unmF 0 x ++ l
 | [],x,m,_,_,_=>by rw [zD9,zFn,zHs]
 | p :: l,x,m,ha,hr,ho=>by
  obtain ⟨a1,a2⟩:=zGj.1 ha
  have hp:=hr p (by simp)
  have op:=ho p (by simp)
  obtain ⟨k,hk⟩ : ∃ k : Nat,p.1 = ((x.length + k : Nat) : Int):=⟨(p.1 - x.length).toNat,by omega⟩
  have hkm : k < m:=by omega
  have er : List.replicate m (0 : Int) = List.replicate k 0 ++ 0 :: List.replicate (m - (k + 1)) 0:=by
   rw [← List.replicate_succ,List.replicate_append_replicate]; congr 1; omega
  obtain ⟨v,hv⟩ : ∃ v,v = (if p.2 = 255 then 255 else u8w (p.2 + 1)):=⟨_,rfl⟩
  have hset : (x ++ List.replicate m 0).set p.1.toNat v = (x ++ List.replicate k 0 ++ [v]) ++ List.replicate (m - (k + 1)) 0:=by
   have lx : (x ++ List.replicate k (0 : Int)).length = x.length + k:=by rw [List.length_append,List.length_replicate]
   rw [er,hk,Int.toNat_natCast,← List.append_assoc,List.set_append_right _ _ (by omega),lx,Nat.sub_self,List.set_cons_zero]
   simp
  rw [zD9,← hv,hset,zH3 l _ _ a2 (fun q hq=>?_) (fun q hq=>ho q (by simp [hq]))]
  ·rw [zFn,zFn,zHs,List.append_nil,Nat.zero_add,List.length_append,List.length_replicate]
   have hv0 : v ≠ 0 ∧ (if v = 255 then (255 : Int) else v - 1) = p.2:=by
    rcases op.2 with h | h
    ·rw [if_neg (by omega),zN0 (by omega)] at hv
     subst hv
     exact ⟨by omega,by rw [if_neg (by omega)]; omega⟩
    ·rw [if_pos h] at hv
     subst hv
     exact ⟨by decide,by rw [if_pos rfl,h]⟩
   have : unmF (x.length + k) [v] = [p]:=by
    unfold unmF
    rw [if_neg hv0.1,hv0.2]
    unfold unmF
    rw [List.append_nil,← hk]
   rw [this,List.append_assoc]; rfl
  ·have h1:=a1 q hq
   have h2:=hr q (by simp [hq])
   simp only [List.length_append,List.length_replicate,List.length_singleton]
   omega
theorem zNy {b : Int} {l : List PrS} (ha : asc l) (hr : ∀ p ∈ l,p.1 < b) (ho : ∀ p ∈ l,zO5 p) : unmS (zBv b l) = l:=by
 have:=zH3 l [] b.toNat ha (fun p hp=>by have:=(ho p hp).1; have:=hr p hp; simp; omega) ho
 simpa [unmS,zBv,unmF] using this
theorem zFr {b : Int} {s : SnS} : (zDc b s).length = 4 + s.ch.length + b.toNat:=by
 unfold zDc; rw [List.length_append,List.length_append,zBk,zDf]; omega
structure SlotOk (b : Int) (s : SnS) : Prop where
 id : 0 ≤ s.id ∧ s.id ≤ 1000000
 lc : s.ch.length = Bt.newN b
 up : asc s.tb
 rng : ∀ p ∈ s.tb,p.1 < b
 mo : ∀ p ∈ s.tb,zO5 p
theorem zOb (b : Int) : SlotOk b (zIs b):=⟨(by show (0 : Int) ≤ 0 ∧ (0 : Int) ≤ 1000000; decide),(by show (List.replicate (Bt.newN b) (0 : Int)).length = _; rw [List.length_replicate]),zIm,fun p h=>(by cases h),fun p h=>(by cases h)⟩
theorem zK2 {b : Int} {s : SnS} (h : SlotOk b s) (y : List Int) : snOf (Bt.newN b) b.toNat (zDc b s ++ y) = s ∧ (zDc b s ++ y).drop (4 + Bt.newN b + b.toNat) = y:=by
 have hl:=zFr (b:=b) (s:=s)
 rw [h.lc] at hl
 have pl : ∀ n,(putS 4 n).length = 4:=fun n=>zBk 4 n
 refine ⟨?_,by rw [← hl,List.drop_left]⟩
 have e1 : (zDc b s ++ y).take 4 = putS 4 (IntKind.u64.wrap s.id):=by
  unfold zDc; rw [List.append_assoc,List.take_append_of_le_length (by rw [pl]; exact Nat.le_refl _),List.take_of_length_le (by rw [pl]; exact Nat.le_refl _)]
 have e2 : (zDc b s ++ y).drop 4 = s.ch ++ (zBv b s.tb ++ y):=by
  have:=List.drop_left (l₁:=putS 4 (IntKind.u64.wrap s.id)) (l₂:=s.ch ++ (zBv b s.tb ++ y))
  rw [pl] at this
  unfold zDc; rw [List.append_assoc,List.append_assoc]; exact this
 have e3 : (zDc b s ++ y).drop (4 + Bt.newN b) = zBv b s.tb ++ y:=by
  rw [← List.drop_drop,e2,← h.lc,List.drop_left]
 unfold snOf
 rw [e1,e2,e3]
 have w:=zCg (n:=s.id) h.id.1 (by have:=h.id.2; omega)
 rw [w,zHk 4 s.id h.id.1 (by have:=h.id.2; omega)]
 rw [show (s.ch ++ (zBv b s.tb ++ y)).take (Bt.newN b) = s.ch by rw [← h.lc,List.take_left]]
 rw [show (zBv b s.tb ++ y).take b.toNat = zBv b s.tb by rw [← zDf b s.tb,List.take_left]]
 rw [zNy h.up h.rng h.mo]
theorem zFp {b : Int} : ∀ (k : Nat) (L : List SnS) (y : List Int),(∀ s ∈ L,SlotOk b s) → L.length ≤ k → ∃ R,zDu (Bt.newN b) b.toNat k (zBh b k L ++ y) = L ++ R ∧ (zBh b k L ++ y).drop (k * (4 + Bt.newN b + b.toNat)) = y ∧ (zBh b k L).length = k * (4 + Bt.newN b + b.toNat)
 | 0,L,y,h,hl=>by
  obtain rfl:=List.length_eq_zero_iff.1 (Nat.le_zero.1 hl)
  exact ⟨[],rfl,by simp [zBh],by simp [zBh]⟩
 | k + 1,[],y,h,hl=>by
  obtain ⟨R,r1,r2,r3⟩:=zFp k [] y (fun s hs=>by cases hs) (by simp)
  obtain ⟨e1,e2⟩:=zK2 (zOb b) (zBh b k [] ++ y)
  have hl:=zFr (b:=b) (s:=zIs b)
  rw [(zOb b).lc] at hl
  refine ⟨zIs b :: R,?_,?_,by rw [zBh,List.length_append,hl,r3,Nat.add_mul,Nat.one_mul]; omega⟩
  ·rw [zBh,List.append_assoc,zDu,e1,e2,r1]; rfl
  ·rw [zBh,List.append_assoc,Nat.add_mul,Nat.one_mul,Nat.add_comm,← List.drop_drop,e2,r2]
 | k + 1,s :: L,y,h,hl=>by
  obtain ⟨R,r1,r2,r3⟩:=zFp k L y (fun x hx=>h x (by simp [hx])) (by simpa using hl)
  obtain ⟨e1,e2⟩:=zK2 (h s (by simp)) (zBh b k L ++ y)
  have hls:=zFr (b:=b) (s:=s)
  rw [(h s (by simp)).lc] at hls
  refine ⟨R,?_,?_,by rw [zBh,List.length_append,hls,r3,Nat.add_mul,Nat.one_mul]; omega⟩
  ·rw [zBh,List.append_assoc,zDu,e1,e2,r1]; rfl
  ·rw [zBh,List.append_assoc,Nat.add_mul,Nat.one_mul,Nat.add_comm,← List.drop_drop,e2,r2]
end Go.Proofs.Ythgflkfhjnbheaa.G14
end
section
namespace Go.Proofs.Ythgflkfhjnbheaa.G14
open Go Go.Proofs.Ythgflkfhjnbheaa.Eng
theorem zJd {b s w : Int} : ∀ (l pre : List Int),zC2 b s w pre l = true → ∀ x ∈ l,x = -1 ∨ (0 ≤ x ∧ x < b)
 | [],_,_,x,h=>absurd h (by simp)
 | y :: l,pre,h,x,hx=>by
  rw [zC2,Bool.and_eq_true] at h
  rcases List.mem_cons.1 hx with rfl | hx
  ·have h1:=h.1
   rw [Bool.or_eq_true,beq_iff_eq] at h1
   rcases h1 with h1 | h1
   ·exact .inl h1
   ·rw [Bool.and_eq_true,Bool.and_eq_true,decide_eq_true_eq,decide_eq_true_eq] at h1
    exact .inr ⟨h1.1,h1.2.1⟩
  ·exact zJd l _ h.2 x hx
theorem zTv {n : Int} : ∀ (L : List SnS) (i : Nat),0 ≤ cidF n i L → ∃ s ∈ L,s.id = n
 | [],i,h=>absurd h (by unfold cidF; omega)
 | s :: L,i,h=>by
  unfold cidF at h
  split at h
  ·rename_i e; exact ⟨s,by simp,e⟩
  ·obtain ⟨u,hu,e⟩:=zTv L (i + 1) h; exact ⟨u,by simp [hu],e⟩
theorem ats_mem {L : List SnS} {a : Int} : a ∈ atsS L ↔ ∃ s ∈ L,∃ p ∈ s.tb,p.2 = a:=by
 unfold atsS
 rw [List.mem_flatten]
 constructor
 ·rintro ⟨l,hl,ha⟩
  obtain ⟨s,hs,rfl⟩:=List.mem_map.1 hl
  obtain ⟨p,hp,rfl⟩:=List.mem_map.1 ha
  exact ⟨s,hs,p,hp,rfl⟩
 ·rintro ⟨s,hs,p,hp,rfl⟩
  exact ⟨_,List.mem_map.2 ⟨s,hs,rfl⟩,List.mem_map.2 ⟨p,hp,rfl⟩⟩
theorem zLm {kind b ar : Int} {held : List Int} : ∀ (l pre : List PrS),zD8 kind b ar held pre l = true → asc pre →
  asc (pre ++ l) ∧ ∀ x ∈ l,(0 ≤ x.1 ∧ x.1 < b) ∧ (kind = 1 → x.2 ∈ held) ∧ (kind = 2 → x.2 = 255 ∨ (0 ≤ x.2 ∧ x.2 < ar))
 | [],pre,_,ha=>⟨by rw [List.append_nil]; exact ha,fun x hx=>by cases hx⟩
 | x :: l,pre,h,ha=>by
  rw [zD8,Bool.and_eq_true] at h
  obtain ⟨h1,h2⟩:=h
  unfold zLl at h1
  simp only [Bool.and_eq_true,decide_eq_true_eq] at h1
  obtain ⟨q1,q2,q3,q4,q5⟩:=h1
  have lt : ∀ q ∈ pre,q.1 < x.1:=fun q hq=>by
   rcases List.eq_nil_or_concat pre with e | ⟨z,y,e⟩
   ·rw [e] at hq; cases hq
   ·rw [List.concat_eq_append] at e
    have hy : y.1 < x.1:=by
     rw [e,List.getLast?_concat] at q3
     simpa using q3
    rw [e] at hq ha
    rcases List.mem_append.1 hq with hq | hq
    ·have:=(zG0.1 ha).2.2 q hq y (by simp); omega
    ·rw [List.mem_singleton.1 hq]; exact hy
  have ha2 : asc (pre ++ [x]):=zG0.2 ⟨ha,zGj.2 ⟨fun q hq=>(by cases hq),zIm⟩,fun p hp q hq=>by rw [List.mem_singleton.1 hq]; exact lt p hp⟩
  obtain ⟨r1,r2⟩:=zLm l _ h2 ha2
  rw [List.append_assoc] at r1
  refine ⟨r1,fun y hy=>?_⟩
  rcases List.mem_cons.1 hy with rfl | hy
  ·refine ⟨⟨q1,q2⟩,fun hk=>?_,fun hk=>?_⟩
   ·subst hk
    simp only [beq_self_eq_true,Bool.not_true,Bool.false_or] at q4
    exact List.contains_iff_mem.1 q4
   ·subst hk
    simp only [beq_self_eq_true,Bool.not_true,Bool.false_or,Bool.or_eq_true,beq_iff_eq,Bool.and_eq_true,decide_eq_true_eq] at q5
    exact q5.imp_right fun h=>⟨h.1,h.2.1⟩
  ·exact r2 y hy
structure GoodT (b n ar : Int) (S : StS) : Prop where
 dl : (S.dirty.length : Int) = n
 dr : ∀ x ∈ S.dirty,-1 ≤ x ∧ x < b
 sl : S.snaps.length ≤ 8
 sn : GoodC b ar S.snaps
 nx : 1 ≤ S.next ∧ S.next ≤ 1000001
 kd : 0 ≤ S.kind ∧ S.kind ≤ 2
 pd : 0 ≤ S.pid ∧ S.pid ≤ 1000000
 pu : asc S.pairs
 pr : ∀ p ∈ S.pairs,p.1 < b
 pm : ∀ p ∈ S.pairs,zO5 p
theorem zDo {b s w ar : Int} {S : StS} (hb : 1 ≤ b ∧ b ≤ 64) (har : ar ≤ 200) (hu : ∀ x ∈ S.snaps,IsU8 x.ch) (h : zCt b s w ar S = true) : GoodT b (s * w) ar S:=by
 unfold zCt at h
 simp only [Bool.and_eq_true,decide_eq_true_eq] at h
 obtain ⟨h1,h2,h3,h4,h5,h6⟩:=h
 unfold zGc at h1
 rw [Bool.and_eq_true,beq_iff_eq] at h1
 obtain ⟨c1,c2⟩:=(zGg hu).1 h2
 unfold zEh at h6
 rw [Bool.and_eq_true] at h6
 obtain ⟨p1,p2⟩:=zLm S.pairs [] h6.1 zIm
 have h7:=h6.2
 unfold zM6 at h7
 have hk : (S.kind = 0 ∧ S.pid = 0 ∧ S.pairs = []) ∨ (S.kind = 1 ∧ 0 ≤ S.pid ∧ S.pid ≤ 1000000) ∨ (S.kind = 2 ∧ 0 ≤ S.pid ∧ S.pid ≤ 1000000):=by
  split at h7
  ·rename_i e
   rw [Bool.and_eq_true,beq_iff_eq,List.isEmpty_iff] at h7
   exact .inl ⟨e,h7⟩
  ·split at h7
   ·rename_i e
    rw [decide_eq_true_eq] at h7
    obtain ⟨u,hu',e2⟩:=zTv _ _ h7
    have:=(c2.one u hu').id
    exact .inr (.inl ⟨e,by omega,by omega⟩)
   ·split at h7
    ·rename_i e
     rw [Bool.and_eq_true,Bool.and_eq_true,decide_eq_true_eq,decide_eq_true_eq] at h7
     exact .inr (.inr ⟨e,by omega,by omega⟩)
    ·cases h7
 refine ⟨h1.1,fun x hx=>?_,c1,c2,⟨h3,h4⟩,by omega,by omega,by simpa using p1,fun p hp=>(p2 p hp).1.2,fun p hp=>?_⟩
 ·rcases zJd S.dirty [] h1.2 x hx with h | h
  ·omega
  ·omega
 ·obtain ⟨q1,q2,q3⟩:=p2 p hp
  refine ⟨q1.1,?_⟩
  rcases hk with ⟨_,_,e⟩ | ⟨e,_⟩ | ⟨e,_⟩
  ·rw [e] at hp; cases hp
  ·obtain ⟨u,hu',p',hp',e2⟩:=ats_mem.1 (q2 e)
   have:=((c2.one u hu').tb.rng p' hp').2
   exact .inl (by omega)
  ·rcases q3 e with h | h
   ·exact .inr h
   ·exact .inl (by omega)
theorem zMt {α : Type} {l m : List α} {n : Nat} (h : l.length = n) : (l ++ m).take n = l:=by rw [← h,List.take_left]
theorem zKd {α : Type} {l m : List α} {n : Nat} (h : l.length = n) : (l ++ m).drop n = m:=by rw [← h,List.drop_left]
theorem zMw {b ar : Int} {L : List SnS} (g : GoodC b ar L) (har : ar ≤ 200) : ∀ s ∈ L,SlotOk b s:=fun s hs=>by
 have o:=g.one s hs
 exact ⟨⟨by have:=o.id.1; omega,o.id.2⟩,(zS7.1 o.ch).1,o.tb.up,fun p hp=>(o.tb.rng p hp).1.2,fun p hp=>⟨(o.tb.rng p hp).1.1,.inl (by have:=(o.tb.rng p hp).2; omega)⟩⟩
theorem zF9 {b n ar : Int} {S : StS} (g : GoodT b n ar S) (har : ar ≤ 200) : (encT b S).length = 10 + n.toNat + 8 * (4 + Bt.newN b + b.toNat) + b.toNat:=by
 obtain ⟨R,_,_,h3⟩:=zFp 8 S.snaps [] (zMw g.sn har) g.sl
 have:=g.dl
 unfold encT
 simp only [List.length_append,zBk,List.length_map,h3,zDf,List.length_cons,List.length_nil]
 omega
theorem zNe {b ar : Int} {S : StS} (g : GoodC b ar S.snaps) : IsU8 (encT b S):=by
 have sl : ∀ s : SnS,IsU8 s.ch → IsU8 (zDc b s):=fun s h x hx=>by
  unfold zDc at hx
  rcases List.mem_append.1 hx with h1 | h1
  ·exact zJw _ _ x h1
  ·rcases List.mem_append.1 h1 with h1 | h1
   ·exact h x h1
   ·exact zOd _ _ x h1
 have ss : ∀ (k : Nat) (L : List SnS),(∀ s ∈ L,IsU8 s.ch) → IsU8 (zBh b k L):=by
  intro k
  induction k with
  | zero=>intro L _ x hx; cases hx
  | succ k ih =>
   intro L hL x hx
   cases L with
   | nil =>
    rw [zBh] at hx
    rcases List.mem_append.1 hx with h | h
    ·exact sl _ (Bt.rep_u8 _) x h
    ·exact ih [] (fun s hs=>(by cases hs)) x h
   | cons s L =>
    rw [zBh] at hx
    rcases List.mem_append.1 hx with h | h
    ·exact sl _ (hL s (by simp)) x h
    ·exact ih L (fun s hs=>hL s (by simp [hs])) x h
 intro x hx
 unfold encT at hx
 rcases List.mem_append.1 hx with h | hx
 ·exact zJw _ _ x h
 rcases List.mem_append.1 hx with h | hx
 ·simp only [List.mem_cons,List.mem_nil_iff,or_false] at h
  rcases h with rfl | rfl <;> exact zMr _
 rcases List.mem_append.1 hx with h | hx
 ·exact zJw _ _ x h
 rcases List.mem_append.1 hx with h | hx
 ·obtain ⟨y,_,rfl⟩:=List.mem_map.1 h; exact zMr _
 rcases List.mem_append.1 hx with h | hx
 ·exact ss 8 _ (fun s hs=>(g.one s hs).u8) x h
 ·exact zOd _ _ x hx
theorem zJu {b n ar : Int} {S : StS} (g : GoodT b n ar S) (hb : b ≤ 64) (har : ar ≤ 200) : rawT n.toNat (Bt.newN b) b.toNat (encT b S) = S:=by
 obtain ⟨R,h1,h2,h3⟩:=zFp 8 S.snaps (zBv b S.pairs) (zMw g.sn har) g.sl
 have dl : S.dirty.length = n.toNat:=by have:=g.dl; omega
 obtain ⟨A,hA⟩ : ∃ A,A = putS 4 (IntKind.u64.wrap S.next):=⟨_,rfl⟩
 obtain ⟨P,hP⟩ : ∃ P,P = putS 4 (IntKind.u64.wrap S.pid):=⟨_,rfl⟩
 obtain ⟨D,hD⟩ : ∃ D,D = S.dirty.map (fun d=>u8w (d + 1)):=⟨_,rfl⟩
 obtain ⟨Z,hZ⟩ : ∃ Z,Z = zBh b 8 S.snaps:=⟨_,rfl⟩
 have lA : A.length = 4:=by rw [hA]; exact zBk 4 _
 have lP : P.length = 4:=by rw [hP]; exact zBk 4 _
 have lD : D.length = n.toNat:=by rw [hD,List.length_map]; exact dl
 have lZ : Z.length = 8 * (4 + Bt.newN b + b.toNat):=by rw [hZ]; exact h3
 have e : encT b S = A ++ ([u8w S.snaps.length,u8w S.kind] ++ (P ++ (D ++ (Z ++ zBv b S.pairs)))):=by rw [hA,hP,hD,hZ]; rfl
 have d4 : (encT b S).drop 4 = [u8w S.snaps.length,u8w S.kind] ++ (P ++ (D ++ (Z ++ zBv b S.pairs))):=by rw [e]; exact zKd lA
 have d6 : (encT b S).drop 6 = P ++ (D ++ (Z ++ zBv b S.pairs)):=by
  rw [show (6 : Nat) = 4 + 2 from rfl,← List.drop_drop,d4]; rfl
 have d10 : (encT b S).drop 10 = D ++ (Z ++ zBv b S.pairs):=by
  rw [show (10 : Nat) = 6 + 4 from rfl,← List.drop_drop,d6]; exact zKd lP
 have dn : (encT b S).drop (10 + n.toNat) = Z ++ zBv b S.pairs:=by
  rw [← List.drop_drop,d10]; exact zKd lD
 have dz : (encT b S).drop (10 + n.toNat + 8 * (4 + Bt.newN b + b.toNat)) = zBv b S.pairs:=by
  rw [← List.drop_drop,dn]; exact zKd lZ
 have t4 : (encT b S).take 4 = A:=by rw [e]; exact zMt lA
 have i4 : (encT b S)[4]? = some (u8w S.snaps.length):=by
  have:=congrArg (fun l : List Int=>l[0]?) d4
  simpa using this
 have i5 : (encT b S)[5]? = some (u8w S.kind):=by
  have:=congrArg (fun l : List Int=>l[1]?) d4
  simpa using this
 unfold rawT
 rw [d10,dn,dz,t4,d6,i4,i5,zMt lD,zMt lP]
 have sl:=g.sl
 have w1:=zCg (n:=S.next) (by have:=g.nx; omega) (by have:=g.nx; omega)
 have w2:=zCg (n:=S.pid) g.pd.1 (by have:=g.pd; omega)
 have u1:=zN0 (n:=(S.snaps.length : Int)) (by omega)
 have u2:=zN0 (n:=S.kind) (by have:=g.kd; omega)
 have eD : D.map (· - 1) = S.dirty:=by
  rw [hD,List.map_map]
  conv=>rhs; rw [← List.map_id S.dirty]
  refine List.map_congr_left fun x hx=>?_
  have:=g.dr x hx
  show u8w (x + 1) - 1 = x
  rw [zN0 (by omega)]; omega
 have eM : (zBv b S.pairs).take b.toNat = zBv b S.pairs:=List.take_of_length_le (by rw [zDf]; exact Nat.le_refl _)
 rw [eD,hZ,h1,Option.getD_some,Option.getD_some,u1,u2,Int.toNat_natCast,List.take_left,hA,hP,w1,w2,zHk 4 S.next (by have:=g.nx; omega) (by have:=g.nx; omega),zHk 4 S.pid g.pd.1 (by have:=g.pd; omega),eM,zNy g.pu g.pr g.pm]
theorem enc_inj {b n ar : Int} {S T : StS} (g : GoodT b n ar S) (g' : GoodT b n ar T) (hb : b ≤ 64) (har : ar ≤ 200) : encT b S = encT b T ↔ S = T:=by
 constructor
 ·intro e
  have h1:=zJu g hb har
  have h2:=zJu g' hb har
  rw [e] at h1
  exact h1.symm.trans h2
 ·intro e; rw [e]
end Go.Proofs.Ythgflkfhjnbheaa.G14
end
section
namespace Go.Proofs.Ythgflkfhjnbheaa.G14
open Go Go.Proofs.Ythgflkfhjnbheaa.Eng
def zEe (x y : List Int) (f t : Nat) : Prop:=x.length = y.length ∧ ∀ i,i < f ∨ t ≤ i → x[i]? = y[i]?
theorem zUf (A B C B' : List Int) (h : B.length = B'.length) : zEe (A ++ (B ++ C)) (A ++ (B' ++ C)) A.length (A.length + B.length):=by
 refine ⟨by simp [h],fun i hi=>?_⟩
 rcases hi with hi | hi
 ·rw [List.getElem?_append_left hi,List.getElem?_append_left hi]
 ·rw [List.getElem?_append_right (by omega),List.getElem?_append_right (by omega),List.getElem?_append_right (by omega),List.getElem?_append_right (by omega),h]
theorem zGk {x y : List Int} {f t : Nat} (A : List Int) (h : zEe x y f t) : zEe (A ++ x) (A ++ y) (A.length + f) (A.length + t):=by
 refine ⟨by simp [h.1],fun i hi=>?_⟩
 by_cases c : i < A.length
 ·rw [List.getElem?_append_left c,List.getElem?_append_left c]
 ·rw [List.getElem?_append_right (by omega),List.getElem?_append_right (by omega)]
  exact h.2 _ (by omega)
theorem zG1 {x y : List Int} {f t : Nat} (A : List Int) (h : zEe x y f t) : zEe (x ++ A) (y ++ A) f t:=by
 refine ⟨by simp [h.1],fun i hi=>?_⟩
 by_cases c : i < x.length
 ·rw [List.getElem?_append_left c,List.getElem?_append_left (by have:=h.1; omega)]
  exact h.2 _ hi
 ·rw [List.getElem?_append_right (by omega),List.getElem?_append_right (by have:=h.1; omega),h.1]
theorem zMm (x : List Int) (i : Nat) (a : Int) : zEe x (x.set i a) i (i + 1):=by
 refine ⟨by simp,fun j hj=>?_⟩
 rw [List.getElem?_set_ne (by omega)]
theorem zS5 {b s w ar : Int} {S : StS} (h : zCt b s w ar S = true) (hn : S.next ≤ 1000000) (hk : S.kind = 0) : zCt b s w ar { S with next:=S.next + 1 } = true:=by
 unfold zCt at *
 simp only [Bool.and_eq_true,decide_eq_true_eq] at *
 obtain ⟨h1,h2,h3,h4,h5,h6⟩:=h
 refine ⟨h1,h2,by omega,by omega,?_,?_⟩
 ·unfold zM5 at *
  cases hl : S.snaps.getLast? with
  | none=>rfl
  | some x =>
   simp only [hl,decide_eq_true_eq] at h5 ⊢
   omega
 ·unfold zEh zM6 at *
  simp only [hk,if_true] at h6 ⊢
  exact h6
theorem zQn (b : Int) (S : StS) (n : Int) : zEe (encT b S) (encT b { S with next:=n }) 0 4:=by
 have:=zUf [] (putS 4 (IntKind.u64.wrap S.next)) ([u8w S.snaps.length,u8w S.kind] ++ (putS 4 (IntKind.u64.wrap S.pid) ++ (S.dirty.map (fun d=>u8w (d + 1)) ++ (zBh b 8 S.snaps ++ zBv b S.pairs)))) (putS 4 (IntKind.u64.wrap n)) (by rw [zBk,zBk])
 rw [zBk] at this
 exact this
theorem zL7 {b s w : Int} : ∀ (l pre : List Int),(zC2 b s w pre l = true ↔ ∀ i x,l[i]? = some x → x = -1 ∨ (0 ≤ x ∧ x < b ∧ x.tmod s = ((pre.length + i : Nat) : Int).tdiv w ∧ x ∉ pre ∧ x ∉ l.take i))
 | [],pre=>by simp [zC2]
 | y :: l,pre=>by
  rw [zC2,Bool.and_eq_true,zL7 l (pre ++ [y])]
  have h0 : ((y == -1) || (decide (0 ≤ y) && (decide (y < b) && ((y.tmod s == (pre.length : Int).tdiv w) && !pre.contains y)))) = true ↔ (y = -1 ∨ (0 ≤ y ∧ y < b ∧ y.tmod s = (pre.length : Int).tdiv w ∧ y ∉ pre)):=by
   simp only [Bool.or_eq_true,Bool.and_eq_true,beq_iff_eq,decide_eq_true_eq,Bool.not_eq_true',← Bool.not_eq_true,List.contains_iff_mem]
  rw [h0]
  constructor
  ·rintro ⟨h1,h2⟩ i x hx
   cases i with
   | zero =>
    simp only [List.getElem?_cons_zero,Option.some.injEq] at hx
    subst hx
    rcases h1 with h1 | ⟨a,b',c,d⟩
    ·exact .inl h1
    ·exact .inr ⟨a,b',by simpa using c,d,by simp⟩
   | succ i =>
    rcases h2 i x (by simpa using hx) with q | ⟨a,b',c,d,e⟩
    ·exact .inl q
    ·refine .inr ⟨a,b',?_,fun m=>d (List.mem_append_left _ m),fun m=>?_⟩
     ·rw [c,List.length_append,List.length_singleton]; congr 2; omega
     ·rw [List.take_succ_cons] at m
      rcases List.mem_cons.1 m with rfl | m
      ·exact d (by simp)
      ·exact e m
  ·intro h
   constructor
   ·rcases h 0 y rfl with q | ⟨a,b',c,d,_⟩
    ·exact .inl q
    ·exact .inr ⟨a,b',by simpa using c,d⟩
   ·intro i x hx
    rcases h (i + 1) x (by simpa using hx) with q | ⟨a,b',c,d,e⟩
    ·exact .inl q
    ·refine .inr ⟨a,b',?_,fun m=>?_,fun m=>e (by rw [List.take_succ_cons]; exact List.mem_cons_of_mem _ m)⟩
     ·rw [c,List.length_append,List.length_singleton]; congr 2; omega
     ·rcases List.mem_append.1 m with m | m
      ·exact d m
      ·rw [List.mem_singleton.1 m] at e; exact e (by rw [List.take_succ_cons]; simp)
theorem zKw {l : List Int} {k j : Nat} {a x : Int} (h : x ∈ (l.set k a).take j) : x ∈ l.take j ∨ x = a:=by
 rw [List.take_set] at h
 exact List.mem_or_eq_of_mem_set h
theorem zPw {b s w ar : Int} {S : StS} (h : zCt b s w ar S = true) (k : Nat) : zCt b s w ar { S with dirty:=S.dirty.set k (-1) } = true:=by
 unfold zCt at *
 rw [Bool.and_eq_true] at h ⊢
 refine ⟨?_,h.2⟩
 have h1:=h.1
 unfold zGc at *
 rw [Bool.and_eq_true] at h1 ⊢
 refine ⟨by simpa using h1.1,?_⟩
 rw [zL7] at *
 have h2:=h1.2
 intro i x hx
 show _ ∨ _
 have hx : (S.dirty.set k (-1))[i]? = some x:=hx
 by_cases hk : k = i
 ·subst hk
  left
  have hlt:=(List.getElem?_eq_some_iff.1 hx).1
  rw [List.length_set] at hlt
  rw [List.getElem?_set_self hlt] at hx
  injection hx with hx; exact hx.symm
 ·rw [List.getElem?_set_ne hk] at hx
  rcases h2 i x hx with q | ⟨a,b',c,d,e⟩
  ·exact .inl q
  ·refine .inr ⟨a,b',c,d,fun m=>?_⟩
   rcases zKw m with m | m
   ·exact e m
   ·omega
theorem zNu (b : Int) (S : StS) (k : Nat) : zEe (encT b S) (encT b { S with dirty:=S.dirty.set k (-1) }) (10 + k) (11 + k):=by
 have h0:=zMm (S.dirty.map (fun d=>u8w (d + 1))) k (u8w (-1 + 1))
 rw [← List.map_set] at h0
 have h1:=zGk (putS 4 (IntKind.u64.wrap S.next) ++ ([u8w S.snaps.length,u8w S.kind] ++ putS 4 (IntKind.u64.wrap S.pid))) (zG1 (zBh b 8 S.snaps ++ zBv b S.pairs) h0)
 have hl : (putS 4 (IntKind.u64.wrap S.next) ++ ([u8w S.snaps.length,u8w S.kind] ++ putS 4 (IntKind.u64.wrap S.pid))).length = 10:=by
  simp only [List.length_append,zBk,List.length_cons,List.length_nil]
 rw [hl] at h1
 have e : ∀ D : List Int,(putS 4 (IntKind.u64.wrap S.next) ++ ([u8w S.snaps.length,u8w S.kind] ++ putS 4 (IntKind.u64.wrap S.pid))) ++ (D ++ (zBh b 8 S.snaps ++ zBv b S.pairs)) = putS 4 (IntKind.u64.wrap S.next) ++ ([u8w S.snaps.length,u8w S.kind] ++ (putS 4 (IntKind.u64.wrap S.pid) ++ (D ++ (zBh b 8 S.snaps ++ zBv b S.pairs)))):=fun D=>by
  simp only [List.append_assoc]
 rw [e,e] at h1
 exact ⟨h1.1,fun i hi=>h1.2 i (by omega)⟩
theorem zH5 : ∀ (l : List PrS) (x y : List Int) (k : Nat),zEe x y k (k + 1) → zEe (zD9 x l) (zD9 y l) k (k + 1)
 | [],_,_,_,h=>h
 | p :: l,x,y,k,h=>by
  rw [zD9,zD9]
  refine zH5 l _ _ k ⟨by simp [h.1],fun i hi=>?_⟩
  by_cases e : p.1.toNat = i
  ·subst e
   by_cases c : p.1.toNat < x.length
   ·rw [List.getElem?_set_self c,List.getElem?_set_self (by have:=h.1; omega)]
   ·rw [List.getElem?_eq_none (by rw [List.length_set]; omega),List.getElem?_eq_none (by rw [List.length_set]; have:=h.1; omega)]
  ·rw [List.getElem?_set_ne e,List.getElem?_set_ne e]
   exact h.2 i hi
theorem zSo (b : Int) (p : PrS) (l : List PrS) : zEe (zBv b (p :: l)) (zBv b l) p.1.toNat (p.1.toNat + 1):=by
 unfold zBv
 rw [zD9]
 have:=zMm (List.replicate b.toNat (0 : Int)) p.1.toNat (if p.2 = 255 then 255 else u8w (p.2 + 1))
 exact zH5 l _ _ _ ⟨this.1.symm,fun i hi=>(this.2 i hi).symm⟩
theorem zN3 {b : Int} {nb : Nat} : ∀ (k : Nat) (L : List SnS) (i : Nat) (s t : SnS),L[i]? = some s → i < k → (∀ x ∈ L,x.ch.length = nb) → t.ch = s.ch → t.id = s.id → ∀ {f e : Nat},zEe (zBv b s.tb) (zBv b t.tb) f e →
  zEe (zBh b k L) (zBh b k (L.set i t)) (i * (4 + nb + b.toNat) + (4 + nb) + f) (i * (4 + nb + b.toNat) + (4 + nb) + e)
 | 0,L,i,s,t,h,hi,_,_,_,_,_,_=>absurd hi (by omega)
 | k + 1,[],i,s,t,h,_,_,_,_,_,_,_=>by simp at h
 | k + 1,u :: L,0,s,t,h,hi,hc,e1,e2,f,e,ha=>by
  simp only [List.getElem?_cons_zero,Option.some.injEq] at h
  subst h
  rw [List.set_cons_zero,zBh,zBh]
  refine zG1 _ ?_
  unfold zDc
  rw [e1,e2,← List.append_assoc,← List.append_assoc]
  have:=zGk (putS 4 (IntKind.u64.wrap u.id) ++ u.ch) ha
  rw [List.length_append,zBk,hc u (by simp)] at this
  exact ⟨this.1,fun i hi=>this.2 i (by omega)⟩
 | k + 1,u :: L,i + 1,s,t,h,hi,hc,e1,e2,f,e,ha=>by
  rw [List.set_cons_succ,zBh,zBh]
  have ih:=zN3 (b:=b) (nb:=nb) k L i s t (by simpa using h) (by omega) (fun x hx=>hc x (by simp [hx])) e1 e2 ha
  have:=zGk (zDc b u) ih
  rw [zFr,hc u (by simp)] at this
  refine ⟨this.1,fun j hj=>this.2 j ?_⟩
  rw [Nat.add_mul,Nat.one_mul] at hj
  omega
theorem zQm {b : Int} {S : StS} {nb n : Nat} {i : Nat} {s : SnS} {p : PrS} {l : List PrS} (hs : S.snaps[i]? = some s) (hi : i < 8) (hc : ∀ x ∈ S.snaps,x.ch.length = nb) (ht : s.tb = p :: l) (hn : S.dirty.length = n) :
  zEe (encT b S) (encT b { S with snaps:=S.snaps.set i { s with tb:=l } }) (10 + n + i * (4 + nb + b.toNat) + 4 + nb + p.1.toNat) (10 + n + i * (4 + nb + b.toNat) + 4 + nb + p.1.toNat + 1):=by
 have h0:=zN3 (b:=b) (nb:=nb) 8 S.snaps i s { s with tb:=l } hs hi hc rfl rfl (f:=p.1.toNat) (e:=p.1.toNat + 1) (by rw [ht]; exact zSo b p l)
 have h1:=zGk (putS 4 (IntKind.u64.wrap S.next) ++ ([u8w S.snaps.length,u8w S.kind] ++ (putS 4 (IntKind.u64.wrap S.pid) ++ S.dirty.map (fun d=>u8w (d + 1))))) (zG1 (zBv b S.pairs) h0)
 have hl : (putS 4 (IntKind.u64.wrap S.next) ++ ([u8w S.snaps.length,u8w S.kind] ++ (putS 4 (IntKind.u64.wrap S.pid) ++ S.dirty.map (fun d=>u8w (d + 1))))).length = 10 + n:=by
  simp only [List.length_append,zBk,List.length_cons,List.length_nil,List.length_map,hn]; omega
 rw [hl] at h1
 have e : ∀ Z : List Int,(putS 4 (IntKind.u64.wrap S.next) ++ ([u8w S.snaps.length,u8w S.kind] ++ (putS 4 (IntKind.u64.wrap S.pid) ++ S.dirty.map (fun d=>u8w (d + 1))))) ++ (Z ++ zBv b S.pairs) = putS 4 (IntKind.u64.wrap S.next) ++ ([u8w S.snaps.length,u8w S.kind] ++ (putS 4 (IntKind.u64.wrap S.pid) ++ (S.dirty.map (fun d=>u8w (d + 1)) ++ (Z ++ zBv b S.pairs)))):=fun Z=>by
  simp only [List.append_assoc]
 rw [e,e] at h1
 have e2 : encT b { S with snaps:=S.snaps.set i { s with tb:=l } } = putS 4 (IntKind.u64.wrap S.next) ++ ([u8w S.snaps.length,u8w S.kind] ++ (putS 4 (IntKind.u64.wrap S.pid) ++ (S.dirty.map (fun d=>u8w (d + 1)) ++ (zBh b 8 (S.snaps.set i { s with tb:=l }) ++ zBv b S.pairs)))):=by
  unfold encT; simp only [List.length_set]
 rw [e2]
 exact ⟨h1.1,fun j hj=>h1.2 j (by omega)⟩
theorem zS6 {bl ar : Int} {A : List SnS} {s : SnS} {p : PrS} {l : List PrS} (g : GoodC bl ar (A ++ [s])) (ht : s.tb = p :: l) : GoodC bl ar (A ++ [{ s with tb:=l }]):=by
 have os:=g.one s (by simp)
 have up:=g.up
 rw [List.map_append,List.pairwise_append] at up
 have ap:=g.ap
 rw [List.pairwise_append] at ap
 have fu:=g.full
 rw [dl_app (by simp)] at fu
 have sub : ∀ q ∈ l,q ∈ s.tb:=fun q hq=>by rw [ht]; exact List.mem_cons_of_mem _ hq
 refine ⟨fun x hx=>?_,?_,?_,?_⟩
 ·rcases List.mem_append.1 hx with h | h
  ·exact g.one x (by simp [h])
  ·rw [List.mem_singleton.1 h]
   refine ⟨os.u8,os.id,os.ch,⟨fun q hq=>os.tb.rng q (sub q hq),?_,fun q hq r hr e=>os.tb.inj q (sub q hq) r (sub r hr) e⟩,fun q hq=>os.sub q (sub q hq)⟩
   have:=os.tb.up
   rw [ht] at this
   exact (zGj.1 this).2
 ·rw [List.map_append,List.pairwise_append]
  exact up
 ·rw [List.pairwise_append]
  exact ⟨ap.1,by simp,fun x hx y hy q hq r hr=>by
   rw [List.mem_singleton.1 hy] at hr
   exact ap.2.2 x hx s (by simp) q hq r (sub r hr)⟩
 ·rw [dl_app (by simp)]
  intro x hx
  simp only [List.dropLast_singleton,List.append_nil] at hx
  exact fu x (by simp [hx])
theorem good_tb {b s w ar : Int} {S : StS} (hu : ∀ x ∈ S.snaps,IsU8 x.ch) (h : zCt b s w ar S = true) {A : List SnS} {x : SnS} {p : PrS} {l : List PrS} (hs : S.snaps = A ++ [x]) (ht : x.tb = p :: l) (hk : S.kind = 0) : zCt b s w ar { S with snaps:=A ++ [{ x with tb:=l }] } = true:=by
 unfold zCt at *
 simp only [Bool.and_eq_true,decide_eq_true_eq] at *
 obtain ⟨h1,h2,h3,h4,h5,h6⟩:=h
 rw [hs] at h2 hu
 obtain ⟨c1,c2⟩:=(zGg hu).1 h2
 have c3:=zS6 c2 ht
 refine ⟨h1,(zGg fun y hy=>(c3.one y hy).u8).2 ⟨by simpa using c1,c3⟩,h3,h4,?_,?_⟩
 ·unfold zM5 at *
  rw [hs] at h5
  simp only [List.getLast?_concat] at h5 ⊢
  exact h5
 ·unfold zEh zM6 at *
  simp only [hk,if_true,Bool.and_eq_true,List.isEmpty_iff] at h6 ⊢
  refine ⟨?_,h6.2⟩
  rw [h6.2.2]; rfl
end Go.Proofs.Ythgflkfhjnbheaa.G14
end
section
namespace Go.Proofs.Ythgflkfhjnbheaa.G14
open Go Go.Proofs.Ythgflkfhjnbheaa.Eng
theorem IS.cell {H : zAb} {v : AV} {zs : List Int} (g : IS H v zs) : zAy v = some [v] ∧ v.isCell = true:=by
 rcases g with ⟨rfl,rfl⟩ | ⟨b,o,l,e,cs,rfl,hc,_⟩ <;> exact ⟨rfl,rfl⟩
theorem IS.lt {H : zAb} {v : AV} {zs : List Int} (g : IS H v zs) : ∀ b,slb v = some b → b < H.length:=by
 rcases g with ⟨rfl,rfl⟩ | ⟨b,o,l,e,cs,rfl,hc,_⟩
 ·intro b h; cases h
 ·intro b' h; injection h with h; subst h; exact zCe hc
theorem IS.frS {H H' : zAb} {F : Nat → Prop} {v : AV} {zs : List Int} (g : IS H v zs) (a : Fr H H' F) (n : ∀ b,slb v = some b → ¬ F b) : IS H' v zs:=by
 rcases g with h | ⟨b,o,l,e,cs,rfl,hc,h⟩
 ·exact .inl h
 ·exact .inr ⟨b,o,l,e,cs,rfl,a.cells hc (n b rfl),h⟩
theorem FS.is {H : zAb} {B : Nat} {v : AV} {zs : List Int} (g : FS H B v zs) : IS H v zs:=GR.is g
section
variable {H : zAb} {v : AV} {zs : List Int} (g : IS H v zs) (hl : zs.length ≤ 1000000000) (x : Int)
include g hl
set_option maxHeartbeats 4000000 in
theorem indexL2 (x2 x3 x6 : AV) : ∀ (k i : Nat) (j5 j9 j10 j11 j12 j13 j14 j15 j16 j17 j18 : AV),i + k = zs.length →
  Outs (LP1 l92x0 [v,.int .i64 x,x2,x3,.int .i64 0,j5,x6,.int .i64 (zs.length : Int),.int .i64 (i : Int),j9,j10,j11,j12,j13,j14,j15,j16,j17,j18] H) fun e t K=>K = H ∧ ∃ fv : Nat → AV,t = [v,.int .i64 x,x2,x3,(fv 4),(fv 5),x6,.int .i64 (zs.length : Int),(fv 8),(fv 9),(fv 10),(fv 11),(fv 12),(fv 13),(fv 14),(fv 15),(fv 16),(fv 17),(fv 18)] ∧ ((e = .exit 0 ∧ idxI x i (zs.drop i) = -1) ∨ (e = .ret ∧ fv 4 = .int .i64 (idxI x i (zs.drop i)))):=by
 intro k
 obtain ⟨L0,hL0⟩ : ∃ L,L = LP1 l92x0:=⟨_,rfl⟩
 have lo:=zAr hL0
 rw [← hL0]
 induction k with
 | zero =>
  intro i j5 j9 j10 j11 j12 j13 j14 j15 j16 j17 j18 hi
  obtain rfl : i = zs.length:=by omega
  have hd : decide ((zs.length : Int) < (zs.length : Int)) = false:=by simp
  rw [List.drop_length,lo]
  unfold l92x0
  simp -implicitDefEqProofs (maxSteps:=5000000) only [go_sem,simprocAttr,hd,zAh,zAc]
  exact exF2 rfl (.inl rfl)
 | succ k ih =>
  intro i j5 j9 j10 j11 j12 j13 j14 j15 j16 j17 j18 hi
  have hlt : i < zs.length:=by omega
  have hd : decide ((i : Int) < (zs.length : Int)) = true:=decide_eq_true (by omega)
  have e2 : IntKind.i64.wrap ((i : Int) + 1) = ((i + 1 : Nat) : Int):=by rw [zAl (by omega) (by omega)]; omega
  have hx:=List.getElem?_eq_getElem hlt
  rw [List.drop_eq_getElem_cons hlt]
  generalize zs[i] = z at *
  obtain ⟨a,ix,ld⟩:=g.idx hx .i64
  rw [lo]
  unfold l92x0
  by_cases h : x = z
  ·have hb : (x == z) = true:=by simp [h]
   rw [idxI,if_pos h]
   simp -implicitDefEqProofs (maxSteps:=5000000) only [go_sem,simprocAttr,itr,itq,hd,ix,ld,hb,zAi,zAc]
   exact exF2 rfl (.inr rfl)
  ·have hb : (x == z) = false:=by simp [h]
   rw [idxI,if_neg h]
   simp -implicitDefEqProofs (maxSteps:=5000000) only [go_sem,simprocAttr,itr,itq,hd,ix,ld,hb,e2]
   exact ih (i + 1) _ _ _ _ _ _ _ _ _ _ _ (by omega)
theorem sindexC2 : (envL prog).call 92 [v,.int .i64 x] H = some (.int .i64 (idxI x 0 zs),H):=by
 have l0:=indexL2 g hl x (k:=zs.length) (i:=0)
 rw [show ((0 : Nat) : Int) = 0 from rfl,List.drop_zero] at l0
 have wl:=g.len
 have key : Outs (runC (envL prog) (b92 (envL prog)) ([v,.int .i64 x] ++ List.replicate (19 - [v,AV.int .i64 x].length) .undef) H) fun e' t K=>K = H ∧ fin [.tmp 4] (some (e',t,K)) = some (.int .i64 (idxI x 0 zs),K):=by
  unfold b92
  generalize hQ : (fun (e' : Ex) (t : T) (K : zAb)=>K = H ∧ fin [.tmp 4] (some (e',t,K)) = some (AV.int .i64 (idxI x 0 zs),K)) = Q
  simp -implicitDefEqProofs (maxSteps:=5000000) only [go_sem,simprocAttr,itr,itq,zAj,wl]
  unfold LP1 at l0
  generalize (envL prog).loop (runC (envL prog) (l92x0 (envL prog))) = L0 at l0 ⊢
  refine zAq (fun r=>seqR (zAt 0 r) _) (l0 _ _ _ _ _ _ _ _ _ _ _ _ _ _ (by omega)) ?_
  rintro e t K ⟨rfl,fv,rfl,⟨rfl,ho⟩ | ⟨rfl,f4⟩⟩
  ·simp -implicitDefEqProofs (maxSteps:=5000000) only [go_sem,simprocAttr,zAc]
   subst hQ
   rw [ho]
   refine ⟨rfl,?_⟩
   simp -implicitDefEqProofs (maxSteps:=5000000) only [go_sem,simprocAttr]
  ·simp -implicitDefEqProofs (maxSteps:=5000000) only [go_sem,simprocAttr,zAc]
   subst hQ
   refine ⟨rfl,?_⟩
   simp -implicitDefEqProofs (maxSteps:=5000000) only [go_sem,simprocAttr,f4]
 obtain ⟨e',t,K,hr,rfl,hf⟩:=key
 rw [c92,hr,hf]; exact zBw rfl
theorem zEx : (envL prog).call 75 [v,.int .i64 x] H = some (.bool (zs.contains x),H):=by
 have ei:=sindexC2 g hl x
 have ed:=zJ3 x zs 0
 rw [c75]
 unfold b75
 simp -implicitDefEqProofs (maxSteps:=5000000) only [go_sem,simprocAttr,itr,itq,ei,ed]
theorem IS.take {i : Nat} (hi : i ≤ zs.length) (ok : zIy v) : ∃ w,zCy 1 v none (some (.int .i64 (i : Int))) none = some w ∧ IS H w (zs.take i):=by
 rcases g with ⟨rfl,rfl⟩ | ⟨b,o,l,e,cs,rfl,hc,hg,hle⟩
 ·obtain rfl : i = 0:=by simpa using hi
  exact ⟨.nilSl,rfl,.inl ⟨rfl,rfl⟩⟩
 ·refine ⟨.sl b o 1 i l e,?_,.inr ⟨b,o,l,e,cs,by rw [List.length_take,Nat.min_eq_left hi],hc,fun j z hz=>?_,by rw [List.length_take]; omega⟩⟩
  ·unfold zCy asI
   have:=ok _ _ _ _ _ _ rfl
   simp only [ne_eq,not_true,if_false,Option.bind_some,Int.toNat_natCast,Option.map_some,Option.getD_some,Option.getD_none]
   rw [if_pos ⟨by omega,by omega,by omega⟩]
   simp
  ·rw [List.getElem?_take] at hz
   split at hz
   ·exact hg j z hz
   ·cases hz
end
theorem and32 : ∀ n : Nat,n ≤ 100 → binV .and .none (.int .u64 (n : Int)) (.int .u64 4294967295) = some (.int .u64 (n : Int)):=by
 have : ∀ n : Fin 101,IntKind.u64.wrap ((BitVec.ofInt 64 ((n : Nat) : Int) &&& BitVec.ofInt 64 4294967295).toNat : Int) = ((n : Nat) : Int):=by decide +kernel
 intro n h
 show some (AV.int .u64 (IntKind.u64.wrap ((BitVec.ofInt 64 (n : Int) &&& BitVec.ofInt 64 4294967295).toNat : Int))) = _
 rw [this ⟨n,by omega⟩]
theorem shr32 : ∀ n : Nat,n ≤ 100 → binV .shr .none (.int .u64 (n : Int)) (.int .u64 32) = some (.int .u64 0):=by
 intro n h
 show (if (32 : Int) < 0 then none else some (AV.int .u64 ((n : Int).fdiv (2 ^ min (Int.toNat 32) 64)))) = _
 rw [if_neg (by omega),show ((2 : Int) ^ min (Int.toNat 32) 64) = 4294967296 from rfl,Int.fdiv_eq_ediv_of_nonneg _ (by omega),Int.ediv_eq_zero_of_lt (by omega) (by omega)]
theorem mulC {n : Nat} (hn : n ≤ 100) (H : zAb) : (envL prog).call 74 [.int .u64 1,.int .u64 (n : Int)] H = some (.tup [.int .u64 0,.int .u64 (n : Int)],H):=by
 have a1:=and32 1 (by omega)
 have a0:=and32 0 (by omega)
 have an:=and32 n hn
 have s1:=shr32 1 (by omega)
 have s0:=shr32 0 (by omega)
 have sn:=shr32 n hn
 have w : IntKind.u64.wrap (n : Int) = (n : Int):=zCg (by omega) (by omega)
 rw [show ((1 : Nat) : Int) = 1 from rfl] at a1 s1
 rw [show ((0 : Nat) : Int) = 0 from rfl] at a0 s0
 have w0 : IntKind.u64.wrap 0 = 0:=by decide
 have e : (envL prog).call 91 [.int .u64 1,.int .u64 (n : Int)] H = some (.tup [.int .u64 0,.int .u64 (n : Int)],H):=by
  rw [c91]
  unfold b91
  simp -implicitDefEqProofs (maxSteps:=5000000) only [go_sem,simprocAttr,a1,a0,an,s1,s0,sn,w,w0,Int.one_mul,Int.zero_mul,Int.add_zero,Int.zero_add,Int.mul_zero]
 rw [c74]
 unfold b74
 simp -implicitDefEqProofs (maxSteps:=5000000) only [go_sem,simprocAttr,e]
end Go.Proofs.Ythgflkfhjnbheaa.G14
end
section
namespace Go.Proofs.Ythgflkfhjnbheaa.G14
open Go Go.Proofs.Ythgflkfhjnbheaa.Eng
theorem zPl {n m : Nat} (hm : m < n) : zB8 (i64s (List.replicate m (-1) ++ List.replicate (n - m) 0)) m (i64s (List.replicate (min m (n - m)) (-1))) = i64s (List.replicate (m + min m (n - m)) (-1) ++ List.replicate (n - (m + min m (n - m))) 0):=by
 unfold i64s
 have e : (List.replicate m (-1 : Int) ++ List.replicate (n - m) 0).map (AV.int .i64) = List.replicate m (AV.int .i64 (-1)) ++ List.replicate (n - m) (AV.int .i64 0):=by simp
 rw [e]
 have:=zKz (List.replicate m (AV.int .i64 (-1))) (List.replicate (n - m) (AV.int .i64 0)) ((List.replicate (min m (n - m)) (-1)).map (AV.int .i64)) (by simp; omega)
 rw [List.length_replicate] at this
 rw [this]
 simp only [List.map_append,List.map_replicate,List.length_replicate,List.drop_replicate,List.replicate_append_replicate]
 congr 2; omega
noncomputable abbrev mixB (n m : Nat) : ABlk:=.rw (i64s (List.replicate m (-1) ++ List.replicate (n - m) 0))
theorem mix_copy {H : zAb} {n m : Nat} (h1 : 1 ≤ m) (hm : m < n) : zKf (ty 1 false 8 [.int .i64 0]) (.sl H.length m 1 (n - m) (n - m) true) (.sl H.length 0 1 m n true) (H ++ [mixB n m]) = some (.int .i64 ((min m (n - m) : Nat) : Int),H ++ [mixB n (m + min m (n - m))]):=by
 have hk : (H ++ [mixB n m])[H.length]? = some (mixB n m):=by simp
 have ll : (i64s (List.replicate m (-1) ++ List.replicate (n - m) 0)).length = n:=by rw [zCl]; simp; omega
 have rd:=zRx hk (off:=0) (n:=min m (n - m) * 1) (by rw [ll]; omega)
 have es : ((i64s (List.replicate m (-1) ++ List.replicate (n - m) 0)).drop 0).take (min m (n - m) * 1) = i64s (List.replicate (min m (n - m)) (-1)):=by
  unfold i64s
  rw [List.drop_zero,Nat.mul_one,← List.map_take,List.take_append_of_le_length (by simp; omega),List.take_replicate]
  congr 2; omega
 rw [es] at rd
 rw [zTi (d:=ty 1 false 8 [.int .i64 0]) (sz:=1) rfl (by decide) hk (by omega) rd (by rw [zCl,ll]; simp; omega) (zLt _),zPl hm]
 congr 2
 simp
set_option maxHeartbeats 4000000 in
theorem repL {H : zAb} {n : Nat} (hn : n ≤ 100) (x0 x1 x2 x3 x4 x5 x6 x9 x10 x11 x12 x13 x14 x15 x16 x17 x18 x19 x20 x21 x22 x23 x24 x25 x26 x27 x28 x29 x30 x31 x32 x33 x47 : AV) : ∀ (k m : Nat) (j34 j35 j36 j37 j38 j39 j40 j41 j42 j43 j44 j45 j46 : AV),1 ≤ m → m ≤ n → n ≤ m + k →
  Outs (LP1 l44x0 [x0,x1,x2,x3,x4,x5,x6,.sl H.length 0 1 n n true,.int .i64 (m : Int),x9,x10,x11,x12,x13,x14,x15,x16,x17,x18,x19,x20,x21,x22,x23,x24,x25,x26,x27,x28,x29,x30,x31,x32,x33,j34,j35,j36,j37,j38,j39,j40,j41,j42,j43,j44,j45,j46,x47] (H ++ [mixB n m])) fun e t K=>e = .exit 0 ∧ K = H ++ [mixB n n] ∧ ∃ fv : Nat → AV,t = [x0,x1,x2,x3,x4,x5,x6,.sl H.length 0 1 n n true,(fv 8),x9,x10,x11,x12,x13,x14,x15,x16,x17,x18,x19,x20,x21,x22,x23,x24,x25,x26,x27,x28,x29,x30,x31,x32,x33,(fv 34),(fv 35),(fv 36),(fv 37),(fv 38),(fv 39),(fv 40),(fv 41),(fv 42),(fv 43),(fv 44),(fv 45),(fv 46),x47]:=by
 intro k
 obtain ⟨L0,hL0⟩ : ∃ L,L = LP1 l44x0:=⟨_,rfl⟩
 have lo:=zAr hL0
 rw [← hL0]
 induction k with
 | zero =>
  intro m j34 j35 j36 j37 j38 j39 j40 j41 j42 j43 j44 j45 j46 h1 h2 h3
  obtain rfl : m = n:=by omega
  have hd : decide ((m : Int) < (m : Int)) = false:=by simp
  rw [lo]
  unfold l44x0
  simp -implicitDefEqProofs (maxSteps:=5000000) only [go_sem,simprocAttr,hd,zAh,zAc]
  exact exF rfl
 | succ k ih =>
  intro m j34 j35 j36 j37 j38 j39 j40 j41 j42 j43 j44 j45 j46 h1 h2 h3
  by_cases hm : m = n
  ·subst hm
   have hd : decide ((m : Int) < (m : Int)) = false:=by simp
   rw [lo]
   unfold l44x0
   simp -implicitDefEqProofs (maxSteps:=5000000) only [go_sem,simprocAttr,hd,zAh,zAc]
   exact exF rfl
  ·have hlt : m < n:=by omega
   have hd : decide ((m : Int) < (n : Int)) = true:=decide_eq_true (by omega)
   have cp:=mix_copy (H:=H) h1 hlt
   have q1:=zMx (sz:=1) (b:=H.length) (off:=0) (len:=n) (cp:=n) (ex:=true) (i:=m) (by omega) (Nat.le_refl _)
   have q2:=sl_to (sz:=1) (b:=H.length) (off:=0) (len:=n) (cp:=n) (ex:=true) (u:=m) (by omega)
   rw [Nat.mul_one,Nat.zero_add] at q1
   obtain ⟨m',hm'⟩ : ∃ m',m' = m + min m (n - m):=⟨_,rfl⟩
   have e2 : IntKind.i64.wrap ((m : Int) + ((min m (n - m) : Nat) : Int)) = ((m' : Nat) : Int):=by rw [zAl (by omega) (by omega)]; omega
   rw [← hm'] at cp
   have key:=ih m'
   rw [lo]
   unfold l44x0
   simp -implicitDefEqProofs (maxSteps:=5000000) only [go_sem,simprocAttr,itr,itq,hd,q1,q2,cp,e2]
   exact key _ _ _ _ _ _ _ _ _ _ _ _ _ (by omega) (by omega) (by omega)
theorem repeatC {H : zAb} {a n : Nat} (ha : H[a]? = some (.rw [.int .i64 (-1)])) (n1 : 1 ≤ n) (hn : n ≤ 100) : (envL prog).call 44 [.sl a 0 1 1 1 true,.int .i64 (n : Int)] H = some (.sl H.length 0 1 n n true,H ++ [.rw (i64s (List.replicate n (-1)))]):=by
 have d0 : decide ((n : Int) < 0) = false:=decide_eq_false (by omega)
 have w : IntKind.u64.wrap (n : Int) = (n : Int):=zCg (by omega) (by omega)
 have w1 : IntKind.u64.wrap 1 = 1:=by decide
 have wi : IntKind.i64.wrap (n : Int) = (n : Int):=zAl (by omega) (by omega)
 have em:=mulC hn H
 have dz : decide ((0 : Int) > 0) = false:=rfl
 have dm : decide ((n : Int) > 9223372036854775807) = false:=decide_eq_false (by omega)
 have mk:=zLp 1 8 n false [.int .i64 0] (by omega) (by omega) (by unfold roomy; omega) H
 have mk : zBy (ty 1 false 8 [.int .i64 0]) (.int .i64 (n : Int)) (.int .i64 (n : Int)) H = some (.sl H.length 0 1 n n true,H ++ [.rw (i64s (List.replicate n 0))]):=by
  rw [mk]; unfold i64s; simp [List.map_replicate]
 have la:=zBb ha
 have cp : zKf (ty 1 false 8 [.int .i64 0]) (.sl H.length 0 1 n n true) (.sl a 0 1 1 1 true) (H ++ [.rw (i64s (List.replicate n 0))]) = some (.int .i64 1,H ++ [mixB n 1]):=by
  have hk : (H ++ [ABlk.rw (i64s (List.replicate n 0))])[H.length]? = some (.rw (i64s (List.replicate n 0))):=by simp
  have ha2 : (H ++ [ABlk.rw (i64s (List.replicate n 0))])[a]? = some (.rw [.int .i64 (-1)]):=by rw [List.getElem?_append_left la]; exact ha
  have rd:=zRx ha2 (off:=0) (n:=min 1 n * 1) (by simp; omega)
  rw [show ([AV.int .i64 (-1)].drop 0).take (min 1 n * 1) = [.int .i64 (-1)] by rw [Nat.min_eq_left n1]; rfl] at rd
  rw [zTi (d:=ty 1 false 8 [.int .i64 0]) (sz:=1) rfl (by decide) hk (by omega) rd (by rw [zCl]; simp; omega) rfl,Nat.min_eq_left n1]
  congr 2
  obtain ⟨k,rfl⟩ : ∃ k,n = k + 1:=⟨n - 1,by omega⟩
  simp [i64s,zBq,List.replicate_succ]
 have l0:=repL (H:=H) hn (k:=n) (m:=1)
 rw [show ((1 : Nat) : Int) = 1 from rfl] at l0
 have key : Outs (runC (envL prog) (b44 (envL prog)) ([.sl a 0 1 1 1 true,.int .i64 (n : Int)] ++ List.replicate (48 - [AV.sl a 0 1 1 1 true,.int .i64 (n : Int)].length) .undef) H) fun e' t K=>K = H ++ [mixB n n] ∧ fin [.tmp 4] (some (e',t,K)) = some (.sl H.length 0 1 n n true,K):=by
  unfold b44
  generalize hQ : (fun (e' : Ex) (t : T) (K : zAb)=>K = H ++ [mixB n n] ∧ fin [.tmp 4] (some (e',t,K)) = some (AV.sl H.length 0 1 n n true,K)) = Q
  simp -implicitDefEqProofs (maxSteps:=5000000) only [go_sem,simprocAttr,itr,itq,zAj,d0,w,w1,em,dz,dm,wi,mk,cp]
  unfold LP1 at l0
  generalize (envL prog).loop (runC (envL prog) (l44x0 (envL prog))) = L0 at l0 ⊢
  refine zAq (fun r=>seqR (zAt 0 r) _) (l0 _ _ _ _ _ _ _ _ _ _ _ _ _ _ _ _ _ _ _ _ _ _ _ _ _ _ _ _ _ _ _ _ _ _ _ _ _ _ _ _ _ _ _ _ _ _ (by omega) (by omega) (by omega)) ?_
  rintro e t K ⟨rfl,rfl,fv,rfl⟩
  simp -implicitDefEqProofs (maxSteps:=5000000) only [go_sem,simprocAttr,zAc]
  subst hQ
  refine ⟨rfl,?_⟩
  simp -implicitDefEqProofs (maxSteps:=5000000) only [go_sem,simprocAttr]
 obtain ⟨e',t,K,hr,rfl,hf⟩:=key
 rw [c44,hr,hf]
 have : mixB n n = .rw (i64s (List.replicate n (-1))):=by unfold mixB; rw [Nat.sub_self]; simp
 rw [this]
 exact zA9 (by simp [AV.under])
end Go.Proofs.Ythgflkfhjnbheaa.G14
end
section
namespace Go.Proofs.Ythgflkfhjnbheaa.G14
open Go Go.Proofs.Ythgflkfhjnbheaa.Eng
structure Geo (b s w a : Int) : Prop where
 b1 : 1 ≤ b ∧ b ≤ 64
 s1 : 1 ≤ s ∧ s ≤ 8
 w1 : 1 ≤ w ∧ w ≤ 4
 a1 : 0 ≤ a ∧ a ≤ 200
theorem zF5 {b s w a r : Int} (h : Gm.goodB b s w a r = true) : Geo b s w a:=by
 unfold Gm.goodB Gm.shapeB Gm.btw at h
 simp only [Bool.and_eq_true,decide_eq_true_eq] at h
 obtain ⟨⟨⟨⟨h1,h2⟩,h3⟩,h4⟩,_⟩:=h
 exact ⟨by omega,by omega,by omega,by omega⟩
theorem Geo.sw {b s w a : Int} (g : Geo b s w a) : ∃ n : Nat,s * w = n ∧ 1 ≤ n ∧ n ≤ 32:=by
 obtain ⟨_,⟨h1,h2⟩,⟨h3,h4⟩,_⟩:=g
 have e1 : s * w ≤ 8 * 4:=Int.mul_le_mul h2 h4 (by omega) (by omega)
 have e2 : 1 * 1 ≤ s * w:=Int.mul_le_mul h1 h3 (by omega) (by omega)
 exact ⟨(s * w).toNat,by omega,by omega,by omega⟩
def z6 : List AV:=[.nilSl,.nilSl,.int .i64 0,.int .i64 0,.int .i64 0,.nilSl]
section
variable (b s w a r : Int) (H : zAb)
set_option maxHeartbeats 4000000 in
theorem firstC (hg : Gm.goodB b s w a r = true) : ∃ v K,(envL prog).call 13 [Gm.geo b s w a r] H = some (.tup [.agg [v,.nilSl,.int .i64 1,.int .i64 0,.int .i64 0,.nilSl],.int .i64 0],K) ∧ Adds H K ∧ IS K v (List.replicate (s * w).toNat (-1)):=by
 have eg:=Gm.goodL b s w a r
 unfold Gm.geo at eg ⊢
 rw [hg] at eg
 obtain ⟨n,hn,n1,n2⟩:=(zF5 hg).sw
 have wm : IntKind.i64.wrap (s * w) = (n : Int):=by rw [zAl (by omega) (by omega)]; exact hn
 rw [hn,Int.toNat_natCast]
 have key : Outs (runC (envL prog) (b13 (envL prog)) ([AV.agg [.int .i64 b,.int .i64 s,.int .i64 w,.int .i64 a,.int .i64 r]] ++ List.replicate (16 - [AV.agg [.int .i64 b,.int .i64 s,.int .i64 w,.int .i64 a,.int .i64 r]].length) .undef) H) fun e' t K=>∃ v,Adds H K ∧ IS K v (List.replicate n (-1)) ∧ (∀ x,slb v = some x → H.length ≤ x) ∧ v.under H.length = false ∧ fin [.cell 2 6 true,.tmp 3] (some (e',t,K)) = some (.tup [.agg [v,.nilSl,.int .i64 1,.int .i64 0,.int .i64 0,.nilSl],.int .i64 0],K):=by
  unfold b13
  generalize hQ : (fun (e' : Ex) (t : T) (K : zAb)=>∃ v,Adds H K ∧ IS K v (List.replicate n (-1)) ∧ (∀ x,slb v = some x → H.length ≤ x) ∧ v.under H.length = false ∧ fin [.cell 2 6 true,.tmp 3] (some (e',t,K)) = some (.tup [.agg [v,.nilSl,.int .i64 1,.int .i64 0,.int .i64 0,.nilSl],.int .i64 0],K)) = Q
  obtain ⟨H1,hH1⟩ : ∃ H1,H1 = H ++ [ABlk.rw [.int .i64 b,.int .i64 s,.int .i64 w,.int .i64 a,.int .i64 r],.rw [.nilSl,.nilSl,.int .i64 0,.int .i64 0,.int .i64 0,.nilSl],.rw [.int .i64 (-1)]]:=⟨_,rfl⟩
  have er:=repeatC (H:=H1) (a:=H.length + 2) (n:=n) (by rw [hH1]; simp) n1 (by omega)
  have l1 : H1.length = H.length + 3:=by rw [hH1]; simp
  have b1 : H1[H.length + 1]? = some (.rw [.nilSl,.nilSl,.int .i64 0,.int .i64 0,.int .i64 0,.nilSl]):=by rw [hH1]; simp
  have c0 : cellsOf H1 H.length = some [.int .i64 b,.int .i64 s,.int .i64 w,.int .i64 a,.int .i64 r]:=by rw [hH1]; unfold cellsOf; simp
  obtain ⟨H2,hH2⟩ : ∃ H2,H2 = H1 ++ [ABlk.rw (i64s (List.replicate n (-1)))]:=⟨_,rfl⟩
  rw [← hH2] at er
  have b2 : H2[H.length + 1]? = some (.rw [.nilSl,.nilSl,.int .i64 0,.int .i64 0,.int .i64 0,.nilSl]):=by rw [hH2,List.getElem?_append_left (by omega)]; exact b1
  have l2 : H2.length = H.length + 4:=by rw [hH2]; simp [l1]
  have wr : zA4 H2 (H.length + 1) 0 [.sl H1.length 0 1 n n true,.nilSl,.int .i64 1,.int .i64 0,.int .i64 0,.nilSl] = some (H2.set (H.length + 1) (.rw [.sl H1.length 0 1 n n true,.nilSl,.int .i64 1,.int .i64 0,.int .i64 0,.nilSl])):=by
   rw [zA5 b2,if_pos ⟨by simp,rfl⟩]; rfl
  have ce : cellsOf (H2.set (H.length + 1) (.rw [.sl H1.length 0 1 n n true,.nilSl,.int .i64 1,.int .i64 0,.int .i64 0,.nilSl])) (H.length + 1) = some [.sl H1.length 0 1 n n true,.nilSl,.int .i64 1,.int .i64 0,.int .i64 0,.nilSl]:=zAm (zBf _ _ _ (by omega))
  have aK : Adds H (H2.set (H.length + 1) (.rw [.sl H1.length 0 1 n n true,.nilSl,.int .i64 1,.int .i64 0,.int .i64 0,.nilSl])):=Adds.of_get (by simp; omega) fun x hx=>by
   rw [zAn _ _ _ _ (by omega),hH2,List.getElem?_append_left (by omega),hH1,List.getElem?_append_left (by omega)]
  have iv : IS (H2.set (H.length + 1) (.rw [.sl H1.length 0 1 n n true,.nilSl,.int .i64 1,.int .i64 0,.int .i64 0,.nilSl])) (.sl H1.length 0 1 n n true) (List.replicate n (-1)):=by
   have:=IS.block (H:=H2.set (H.length + 1) (.rw [.sl H1.length 0 1 n n true,.nilSl,.int .i64 1,.int .i64 0,.int .i64 0,.nilSl])) (b:=H1.length) (zs:=List.replicate n (-1)) (l:=n) (e:=true) (by rw [zAn _ _ _ _ (by omega),hH2]; simp)
   rwa [List.length_replicate] at this
  have hH1:=hH1.symm
  simp -implicitDefEqProofs (maxSteps:=5000000) only [go_sem,simprocAttr,itr,itq,eg,hH1,c0,wm,er,wr,zAc]
  subst hQ
  refine ⟨_,aK,iv,fun x hx=>by injection hx with hx; omega,by simp [AV.under]; omega,?_⟩
  simp -implicitDefEqProofs (maxSteps:=5000000) only [go_sem,simprocAttr,itr,itq,ce]
 obtain ⟨e',t,K,hr,v,aK,bs,wb,vu,hf⟩:=key
 refine ⟨v,K,?_,aK,bs⟩
 rw [c13,hr,hf]
 exact zA9 (by simp [AV.under,zA7,vu])
end
end Go.Proofs.Ythgflkfhjnbheaa.G14
end
section
namespace Go.Proofs.Ythgflkfhjnbheaa.G14
open Go Go.Proofs.Ythgflkfhjnbheaa.Eng
def zKe (b s w : Int) (pre : List Int) (x : Int) : Bool:=(x == -1) || (decide (0 ≤ x) && (decide (x < b) && ((x.tmod s == (pre.length : Int).tdiv w) && !pre.contains x)))
theorem zIf (b s w : Int) (pre : List Int) (x : Int) (l : List Int) : zC2 b s w pre (x :: l) = (zKe b s w pre x && zC2 b s w (pre ++ [x]) l):=rfl
section
variable {b s w a r : Int} (gg : Geo b s w a) {H : zAb} {v : AV} {D : List Int} (g : IS H v D) (hl : D.length ≤ 1000000)
include gg g hl
set_option maxHeartbeats 16000000 in
theorem dirtyL (ok : zIy v) {q : Nat} (hq : cellsOf H q = some [.int .i64 b,.int .i64 s,.int .i64 w,.int .i64 a,.int .i64 r]) (x0 x3 x7 x8 x9 x10 x11 x12 x13 x14 : AV) : ∀ (m i : Nat) (j5 j6 j18 j19 j20 j21 j22 j23 j24 j25 j26 j27 j28 j29 j30 j31 j32 j33 j34 j35 j36 j37 j38 j39 j40 j41 j42 j43 j44 j45 j46 j47 j48 j49 j50 : AV),i + m = D.length →
  Outs (LP1 l45x0 [x0,v,.ptr q 0,x3,.bool false,j5,j6,x7,x8,x9,x10,x11,x12,x13,x14,v,.int .i64 (D.length : Int),.int .i64 (i : Int),j18,j19,j20,j21,j22,j23,j24,j25,j26,j27,j28,j29,j30,j31,j32,j33,j34,j35,j36,j37,j38,j39,j40,j41,j42,j43,j44,j45,j46,j47,j48,j49,j50] H) fun e t K=>K = H ∧ ∃ fv : Nat → AV,t = [x0,v,.ptr q 0,x3,(fv 4),(fv 5),(fv 6),x7,x8,x9,x10,x11,x12,x13,x14,v,.int .i64 (D.length : Int),(fv 17),(fv 18),(fv 19),(fv 20),(fv 21),(fv 22),(fv 23),(fv 24),(fv 25),(fv 26),(fv 27),(fv 28),(fv 29),(fv 30),(fv 31),(fv 32),(fv 33),(fv 34),(fv 35),(fv 36),(fv 37),(fv 38),(fv 39),(fv 40),(fv 41),(fv 42),(fv 43),(fv 44),(fv 45),(fv 46),(fv 47),(fv 48),(fv 49),(fv 50)] ∧ ((e = .exit 0 ∧ zC2 b s w (D.take i) (D.drop i) = true) ∨ (e = .ret ∧ fv 4 = .bool false ∧ zC2 b s w (D.take i) (D.drop i) = false)):=by
 intro m
 obtain ⟨L0,hL0⟩ : ∃ L,L = LP1 l45x0:=⟨_,rfl⟩
 have lo:=zAr hL0
 have hs0:=gg.s1.1
 have hw0:=gg.w1.1
 rw [← hL0]
 induction m with
 | zero =>
  intro i j5 j6 j18 j19 j20 j21 j22 j23 j24 j25 j26 j27 j28 j29 j30 j31 j32 j33 j34 j35 j36 j37 j38 j39 j40 j41 j42 j43 j44 j45 j46 j47 j48 j49 j50 hi
  obtain rfl : i = D.length:=by omega
  have hd : decide ((D.length : Int) < (D.length : Int)) = false:=by simp
  rw [List.drop_length,lo]
  unfold l45x0
  simp -implicitDefEqProofs (maxSteps:=5000000) only [go_sem,simprocAttr,hd,zAh,zAc]
  exact exF2 rfl (.inl rfl)
 | succ m ih =>
  intro i j5 j6 j18 j19 j20 j21 j22 j23 j24 j25 j26 j27 j28 j29 j30 j31 j32 j33 j34 j35 j36 j37 j38 j39 j40 j41 j42 j43 j44 j45 j46 j47 j48 j49 j50 hi
  have hlt : i < D.length:=by omega
  have hd : decide ((i : Int) < (D.length : Int)) = true:=decide_eq_true (by omega)
  have e2 : IntKind.i64.wrap ((i : Int) + 1) = ((i + 1 : Nat) : Int):=by rw [zAl (by omega) (by omega)]; omega
  have hx:=List.getElem?_eq_getElem hlt
  have tk : D.take (i + 1) = D.take i ++ [D[i]]:=by rw [List.take_add_one,hx]; rfl
  obtain ⟨w1,es,gs⟩:=IS.take g (by omega) (i:=i) (by omega) ok
  have key:=ih (i + 1)
  rw [tk] at key
  rw [List.drop_eq_getElem_cons hlt,zIf]
  generalize D[i] = x at *
  have ec:=zEx gs (by rw [List.length_take]; omega) x
  have tl : (D.take i).length = i:=by rw [List.length_take]; omega
  obtain ⟨ad,ix,ld⟩:=g.idx hx .i64
  have rm:=zGu .none .i64 x s (by omega)
  have qt:=zNa .none .i64 (i : Int) w (by omega)
  have wq : IntKind.i64.wrap ((i : Int).tdiv w) = (i : Int).tdiv w:=by
   have h1:=Int.tdiv_le_self w (show (0 : Int) ≤ i by omega)
   have h2:=Int.tdiv_nonneg (show (0 : Int) ≤ i by omega) (show 0 ≤ w by omega)
   rw [zAl (by omega) (by omega)]
  rw [wq] at qt
  unfold zKe
  rw [tl]
  rw [lo]
  unfold l45x0
  by_cases c0 : x = -1
  ·have d0 : (x == -1) = true:=by simp [c0]
   rw [d0,Bool.true_or,Bool.true_and]
   simp -implicitDefEqProofs (maxSteps:=5000000) only [go_sem,simprocAttr,itr,itq,hd,ix,ld,d0,e2]
   exact key _ _ _ _ _ _ _ _ _ _ _ _ _ _ _ _ _ _ _ _ _ _ _ _ _ _ _ _ _ _ _ _ _ _ _ (by omega)
  have d0 : (x == -1) = false:=by simp [c0]
  rw [d0,Bool.false_or]
  by_cases c1 : 0 ≤ x
  case neg =>
   have d1 : decide (x < 0) = true:=decide_eq_true (by omega)
   rw [decide_eq_false c1,Bool.false_and,Bool.false_and]
   simp -implicitDefEqProofs (maxSteps:=5000000) only [go_sem,simprocAttr,itr,itq,hd,ix,ld,d0,d1,zAi,zAc]
   exact exF2 rfl (.inr rfl)
  have d1 : decide (x < 0) = false:=decide_eq_false (by omega)
  rw [decide_eq_true c1,Bool.true_and]
  by_cases c2 : x < b
  case neg =>
   have d2 : decide (x ≥ b) = true:=decide_eq_true (by omega)
   rw [decide_eq_false c2,Bool.false_and,Bool.false_and]
   simp -implicitDefEqProofs (maxSteps:=5000000) only [go_sem,simprocAttr,itr,itq,hd,ix,ld,d0,d1,hq,d2,zAi,zAc]
   exact exF2 rfl (.inr rfl)
  have d2 : decide (x ≥ b) = false:=decide_eq_false (by omega)
  rw [decide_eq_true c2,Bool.true_and]
  by_cases c3 : x.tmod s = (i : Int).tdiv w
  case neg =>
   have d3 : (x.tmod s != (i : Int).tdiv w) = true:=bne_iff_ne.2 c3
   rw [beq_eq_false_iff_ne.2 c3,Bool.false_and,Bool.false_and]
   simp -implicitDefEqProofs (maxSteps:=5000000) only [go_sem,simprocAttr,itr,itq,hd,ix,ld,d0,d1,hq,d2,rm,qt,d3,zAi,zAc]
   exact exF2 rfl (.inr rfl)
  have d3 : (x.tmod s != (i : Int).tdiv w) = false:=by simp [c3]
  rw [beq_iff_eq.2 c3,Bool.true_and]
  rcases hc : (D.take i).contains x with _ | _ <;> rw [hc] at ec
  ·rw [Bool.not_false,Bool.true_and]
   simp -implicitDefEqProofs (maxSteps:=5000000) only [go_sem,simprocAttr,itr,itq,hd,ix,ld,d0,d1,hq,d2,rm,qt,d3,es,ec,e2]
   exact key _ _ _ _ _ _ _ _ _ _ _ _ _ _ _ _ _ _ _ _ _ _ _ _ _ _ _ _ _ _ _ _ _ _ _ (by omega)
  ·rw [Bool.not_true,Bool.false_and]
   simp -implicitDefEqProofs (maxSteps:=5000000) only [go_sem,simprocAttr,itr,itq,hd,ix,ld,d0,d1,hq,d2,rm,qt,d3,es,ec,zAi,zAc]
   exact exF2 rfl (.inr rfl)
end
theorem dirtyC {b s w a r : Int} (gg : Geo b s w a) {H : zAb} {v : AV} {D : List Int} (g : IS H v D) (hl : D.length ≤ 9223372036854775807) (ok : zIy v) : (envL prog).call 45 [.agg [.int .i64 b,.int .i64 s,.int .i64 w,.int .i64 a,.int .i64 r],v] H = some (.bool (zGc b s w D),H):=by
 obtain ⟨n,hn,n1,n2⟩:=gg.sw
 have wm : IntKind.i64.wrap (s * w) = (n : Int):=by rw [zAl (by omega) (by omega)]; exact hn
 have wl:=g.len
 unfold zGc
 rw [hn]
 by_cases hlen : (D.length : Int) = (n : Int)
 case neg =>
  have d0 : ((D.length : Int) != (n : Int)) = true:=by simpa using hlen
  rw [beq_eq_false_iff_ne.2 hlen,Bool.false_and,c45]
  unfold b45
  simp -implicitDefEqProofs (maxSteps:=5000000) only [go_sem,simprocAttr,itr,itq,wl,wm,d0]
 rw [beq_iff_eq.2 hlen,Bool.true_and]
 have d0 : ((D.length : Int) != (n : Int)) = false:=by simp [hlen]
 obtain ⟨H1,hH1⟩ : ∃ H1,H1 = H ++ [ABlk.rw [.int .i64 b,.int .i64 s,.int .i64 w,.int .i64 a,.int .i64 r]]:=⟨_,rfl⟩
 have A1 : Adds H H1:=⟨_,hH1⟩
 have cq : cellsOf H1 H.length = some [.int .i64 b,.int .i64 s,.int .i64 w,.int .i64 a,.int .i64 r]:=by rw [hH1]; unfold cellsOf; simp
 have l0:=dirtyL gg (A1.is g) (by omega) ok cq (m:=D.length) (i:=0)
 rw [show ((0 : Nat) : Int) = 0 from rfl,List.drop_zero,List.take_zero] at l0
 have hH1':=hH1.symm
 have key : Outs (runC (envL prog) (b45 (envL prog)) ([.agg [.int .i64 b,.int .i64 s,.int .i64 w,.int .i64 a,.int .i64 r],v] ++ List.replicate (51 - [AV.agg [.int .i64 b,.int .i64 s,.int .i64 w,.int .i64 a,.int .i64 r],v].length) .undef) H) fun e' t K=>K = H1 ∧ fin [.tmp 4] (some (e',t,K)) = some (.bool (zC2 b s w [] D),K):=by
  unfold b45
  generalize hQ : (fun (e' : Ex) (t : T) (K : zAb)=>K = H1 ∧ fin [.tmp 4] (some (e',t,K)) = some (AV.bool (zC2 b s w [] D),K)) = Q
  simp -implicitDefEqProofs (maxSteps:=5000000) only [go_sem,simprocAttr,itr,itq,zAj,hH1',cq,wl,wm,d0]
  unfold LP1 at l0
  generalize (envL prog).loop (runC (envL prog) (l45x0 (envL prog))) = L0 at l0 ⊢
  refine zAq (fun r=>seqR (zAt 0 r) _) (l0 _ _ _ _ _ _ _ _ _ _ _ _ _ _ _ _ _ _ _ _ _ _ _ _ _ _ _ _ _ _ _ _ _ _ _ _ _ _ _ _ _ _ _ _ _ (by omega)) ?_
  rintro e t K ⟨rfl,fv,rfl,⟨rfl,ho⟩ | ⟨rfl,f4,ho⟩⟩
  ·simp -implicitDefEqProofs (maxSteps:=5000000) only [go_sem,simprocAttr,zAc]
   subst hQ
   rw [ho]
   refine ⟨rfl,?_⟩
   simp -implicitDefEqProofs (maxSteps:=5000000) only [go_sem,simprocAttr]
  ·simp -implicitDefEqProofs (maxSteps:=5000000) only [go_sem,simprocAttr,zAc]
   subst hQ
   rw [ho]
   refine ⟨rfl,?_⟩
   simp -implicitDefEqProofs (maxSteps:=5000000) only [go_sem,simprocAttr,f4]
 obtain ⟨e',t,K,hr,rfl,hf⟩:=key
 rw [c45,hr,hf]; exact A1.trimS rfl
end Go.Proofs.Ythgflkfhjnbheaa.G14
end
section
namespace Go.Proofs.Ythgflkfhjnbheaa.G14
open Go Go.Proofs.Ythgflkfhjnbheaa.Eng
section
variable {b s w a r : Int} (gg : Geo b s w a) {H : zAb} {v : AV} {D : List Int} (g : IS H v D) (hl : D.length ≤ 1000000)
include g hl
set_option maxHeartbeats 4000000 in
theorem rdirtyL0 {i : Nat} {x : Int} (hx : D[i]? = some x) (x0 x2 x3 x7 x8 x9 x10 x11 x12 x13 x14 x15 x16 x17 x18 x19 x20 x21 x22 x23 x24 x25 x26 x27 x28 x29 x30 x31 x32 x33 x34 x35 x36 x37 x38 x39 x40 x41 x42 x43 x44 x45 x46 x47 x48 x49 x50 x51 x52 x53 : AV) : ∀ (m j : Nat) (j54 j55 j56 j57 j58 j59 j60 j61 j62 j63 j64 j65 j66 j67 : AV),j + m = i →
  Outs (LP1 l48x0 [x0,v,x2,x3,.bool false,.int .i64 (i : Int),.int .i64 (j : Int),x7,x8,x9,x10,x11,x12,x13,x14,x15,x16,x17,x18,x19,x20,x21,x22,x23,x24,x25,x26,x27,x28,x29,x30,x31,x32,x33,x34,x35,x36,x37,x38,x39,x40,x41,x42,x43,x44,x45,x46,x47,x48,x49,x50,x51,x52,x53,j54,j55,j56,j57,j58,j59,j60,j61,j62,j63,j64,j65,j66,j67] H) fun e t K=>K = H ∧ ∃ fv : Nat → AV,t = [x0,v,x2,x3,(fv 4),.int .i64 (i : Int),(fv 6),x7,x8,x9,x10,x11,x12,x13,x14,x15,x16,x17,x18,x19,x20,x21,x22,x23,x24,x25,x26,x27,x28,x29,x30,x31,x32,x33,x34,x35,x36,x37,x38,x39,x40,x41,x42,x43,x44,x45,x46,x47,x48,x49,x50,x51,x52,x53,(fv 54),(fv 55),(fv 56),(fv 57),(fv 58),(fv 59),(fv 60),(fv 61),(fv 62),(fv 63),(fv 64),(fv 65),(fv 66),(fv 67)] ∧ fv 4 = .bool false ∧ ((e = .exit 2 ∧ ((D.take i).drop j).contains x = false) ∨ (e = .ret ∧ ((D.take i).drop j).contains x = true)):=by
 intro m
 obtain ⟨L0,hL0⟩ : ∃ L,L = LP1 l48x0:=⟨_,rfl⟩
 have lo:=zAr hL0
 have il:=(List.getElem?_eq_some_iff.1 hx).1
 have tl : (D.take i).length = i:=by rw [List.length_take]; omega
 obtain ⟨ax,ixx,ldx⟩:=g.idx hx .i64
 rw [← hL0]
 induction m with
 | zero =>
  intro j j54 j55 j56 j57 j58 j59 j60 j61 j62 j63 j64 j65 j66 j67 hj
  obtain rfl : j = i:=by omega
  have hd : decide ((j : Int) < (j : Int)) = false:=by simp
  rw [lo,show (D.take j).drop j = [] by rw [List.drop_eq_nil_iff]; omega]
  unfold l48x0
  simp -implicitDefEqProofs (maxSteps:=5000000) only [go_sem,simprocAttr,hd,zAh,zAc]
  exact exF2 rfl ⟨rfl,.inl rfl⟩
 | succ m ih =>
  intro j j54 j55 j56 j57 j58 j59 j60 j61 j62 j63 j64 j65 j66 j67 hj
  have hd : decide ((j : Int) < (i : Int)) = true:=decide_eq_true (by omega)
  have e2 : IntKind.i64.wrap ((j : Int) + 1) = ((j + 1 : Nat) : Int):=by rw [zAl (by omega) (by omega)]; omega
  have hy:=List.getElem?_eq_getElem (show j < D.length by omega)
  have dj : (D.take i).drop j = D[j] :: (D.take i).drop (j + 1):=by
   rw [List.drop_eq_getElem_cons (by omega),List.getElem_take]
  rw [dj,List.contains_cons]
  generalize D[j] = y at *
  obtain ⟨ad,ix,ld⟩:=g.idx hy .i64
  have key:=ih (j + 1)
  rw [lo]
  unfold l48x0
  by_cases h : y = x
  ·have hb : (y == x) = true:=by simp [h]
   have hb2 : (x == y) = true:=by simp [h]
   rw [hb2,Bool.true_or]
   simp -implicitDefEqProofs (maxSteps:=5000000) only [go_sem,simprocAttr,itr,itq,hd,ix,ld,ixx,ldx,hb,zAi,zAc]
   exact exF2 rfl ⟨rfl,by first | rfl | trivial | exact .inr rfl⟩
  ·have hb : (y == x) = false:=by simp [h]
   have hb2 : (x == y) = false:=beq_eq_false_iff_ne.2 fun e=>h e.symm
   rw [hb2,Bool.false_or]
   simp -implicitDefEqProofs (maxSteps:=5000000) only [go_sem,simprocAttr,itr,itq,hd,ix,ld,ixx,ldx,hb,e2]
   exact key _ _ _ _ _ _ _ _ _ _ _ _ _ _ (by omega)
include gg
set_option maxHeartbeats 16000000 in
theorem rdirtyL1 {q : Nat} (hq : cellsOf H q = some [.int .i64 b,.int .i64 s,.int .i64 w,.int .i64 a,.int .i64 r]) (x0 x3 x7 x8 x9 x10 x11 x12 x13 x14 : AV) : ∀ (m i : Nat) (j6 j15 j16 j17 j18 j19 j20 j21 j22 j23 j24 j25 j26 j27 j28 j29 j30 j31 j32 j33 j34 j35 j36 j37 j38 j39 j40 j41 j42 j43 j44 j45 j46 j47 j48 j49 j50 j51 j52 j53 j54 j55 j56 j57 j58 j59 j60 j61 j62 j63 j64 j65 j66 j67 : AV),i + m = D.length →
  Outs (LP1 l48x1 [x0,v,.ptr q 0,x3,.bool false,.int .i64 (i : Int),j6,x7,x8,x9,x10,x11,x12,x13,x14,j15,j16,j17,j18,j19,j20,j21,j22,j23,j24,j25,j26,j27,j28,j29,j30,j31,j32,j33,j34,j35,j36,j37,j38,j39,j40,j41,j42,j43,j44,j45,j46,j47,j48,j49,j50,j51,j52,j53,j54,j55,j56,j57,j58,j59,j60,j61,j62,j63,j64,j65,j66,j67] H) fun e t K=>K = H ∧ ∃ fv : Nat → AV,t = [x0,v,.ptr q 0,x3,(fv 4),(fv 5),(fv 6),x7,x8,x9,x10,x11,x12,x13,x14,(fv 15),(fv 16),(fv 17),(fv 18),(fv 19),(fv 20),(fv 21),(fv 22),(fv 23),(fv 24),(fv 25),(fv 26),(fv 27),(fv 28),(fv 29),(fv 30),(fv 31),(fv 32),(fv 33),(fv 34),(fv 35),(fv 36),(fv 37),(fv 38),(fv 39),(fv 40),(fv 41),(fv 42),(fv 43),(fv 44),(fv 45),(fv 46),(fv 47),(fv 48),(fv 49),(fv 50),(fv 51),(fv 52),(fv 53),(fv 54),(fv 55),(fv 56),(fv 57),(fv 58),(fv 59),(fv 60),(fv 61),(fv 62),(fv 63),(fv 64),(fv 65),(fv 66),(fv 67)] ∧ ((e = .exit 0 ∧ zC2 b s w (D.take i) (D.drop i) = true) ∨ (e = .ret ∧ fv 4 = .bool false ∧ zC2 b s w (D.take i) (D.drop i) = false)):=by
 intro m
 obtain ⟨L0,hL0⟩ : ∃ L,L = LP1 l48x1:=⟨_,rfl⟩
 have lo:=zAr hL0
 have hs0:=gg.s1.1
 have hw0:=gg.w1.1
 have wl:=g.len
 rw [← hL0]
 induction m with
 | zero =>
  intro i j6 j15 j16 j17 j18 j19 j20 j21 j22 j23 j24 j25 j26 j27 j28 j29 j30 j31 j32 j33 j34 j35 j36 j37 j38 j39 j40 j41 j42 j43 j44 j45 j46 j47 j48 j49 j50 j51 j52 j53 j54 j55 j56 j57 j58 j59 j60 j61 j62 j63 j64 j65 j66 j67 hi
  obtain rfl : i = D.length:=by omega
  have hd : decide ((D.length : Int) < (D.length : Int)) = false:=by simp
  rw [List.drop_length,lo]
  unfold l48x1
  simp -implicitDefEqProofs (maxSteps:=5000000) only [go_sem,simprocAttr,itr,itq,wl,hd,zAh,zAc]
  exact exF2 rfl (.inl rfl)
 | succ m ih =>
  intro i j6 j15 j16 j17 j18 j19 j20 j21 j22 j23 j24 j25 j26 j27 j28 j29 j30 j31 j32 j33 j34 j35 j36 j37 j38 j39 j40 j41 j42 j43 j44 j45 j46 j47 j48 j49 j50 j51 j52 j53 j54 j55 j56 j57 j58 j59 j60 j61 j62 j63 j64 j65 j66 j67 hi
  have hlt : i < D.length:=by omega
  have hd : decide ((i : Int) < (D.length : Int)) = true:=decide_eq_true (by omega)
  have e2 : IntKind.i64.wrap ((i : Int) + 1) = ((i + 1 : Nat) : Int):=by rw [zAl (by omega) (by omega)]; omega
  have hx:=List.getElem?_eq_getElem hlt
  have tk : D.take (i + 1) = D.take i ++ [D[i]]:=by rw [List.take_add_one,hx]; rfl
  have key:=ih (i + 1)
  rw [tk] at key
  rw [List.drop_eq_getElem_cons hlt,zIf]
  have l0:=rdirtyL0 g hl hx (m:=i) (j:=0)
  rw [show ((0 : Nat) : Int) = 0 from rfl,List.drop_zero] at l0
  generalize D[i] = x at *
  have tl : (D.take i).length = i:=by rw [List.length_take]; omega
  obtain ⟨ad,ix,ld⟩:=g.idx hx .i64
  have rm:=zGu .none .i64 x s (by omega)
  have qt:=zNa .none .i64 (i : Int) w (by omega)
  have wq : IntKind.i64.wrap ((i : Int).tdiv w) = (i : Int).tdiv w:=by
   have h1:=Int.tdiv_le_self w (show (0 : Int) ≤ i by omega)
   have h2:=Int.tdiv_nonneg (show (0 : Int) ≤ i by omega) (show 0 ≤ w by omega)
   rw [zAl (by omega) (by omega)]
  rw [wq] at qt
  unfold zKe
  rw [tl]
  rw [lo]
  unfold l48x1
  by_cases c0 : x = -1
  ·have d0 : (x == -1) = true:=by simp [c0]
   rw [d0,Bool.true_or,Bool.true_and]
   simp -implicitDefEqProofs (maxSteps:=5000000) only [go_sem,simprocAttr,itr,itq,wl,hd,ix,ld,d0,e2]
   exact key _ _ _ _ _ _ _ _ _ _ _ _ _ _ _ _ _ _ _ _ _ _ _ _ _ _ _ _ _ _ _ _ _ _ _ _ _ _ _ _ _ _ _ _ _ _ _ _ _ _ _ _ _ _ (by omega)
  have d0 : (x == -1) = false:=by simp [c0]
  rw [d0,Bool.false_or]
  by_cases c1 : 0 ≤ x
  case neg =>
   have d1 : decide (x < 0) = true:=decide_eq_true (by omega)
   rw [decide_eq_false c1,Bool.false_and,Bool.false_and]
   simp -implicitDefEqProofs (maxSteps:=5000000) only [go_sem,simprocAttr,itr,itq,wl,hd,ix,ld,d0,d1,zAi,zAc]
   exact exF2 rfl (.inr rfl)
  have d1 : decide (x < 0) = false:=decide_eq_false (by omega)
  rw [decide_eq_true c1,Bool.true_and]
  by_cases c2 : x < b
  case neg =>
   have d2 : decide (x ≥ b) = true:=decide_eq_true (by omega)
   rw [decide_eq_false c2,Bool.false_and,Bool.false_and]
   simp -implicitDefEqProofs (maxSteps:=5000000) only [go_sem,simprocAttr,itr,itq,wl,hd,ix,ld,d0,d1,hq,d2,zAi,zAc]
   exact exF2 rfl (.inr rfl)
  have d2 : decide (x ≥ b) = false:=decide_eq_false (by omega)
  rw [decide_eq_true c2,Bool.true_and]
  by_cases c3 : x.tmod s = (i : Int).tdiv w
  case neg =>
   have d3 : (x.tmod s != (i : Int).tdiv w) = true:=bne_iff_ne.2 c3
   rw [beq_eq_false_iff_ne.2 c3,Bool.false_and,Bool.false_and]
   simp -implicitDefEqProofs (maxSteps:=5000000) only [go_sem,simprocAttr,itr,itq,wl,hd,ix,ld,d0,d1,hq,d2,rm,qt,d3,zAi,zAc]
   exact exF2 rfl (.inr rfl)
  have d3 : (x.tmod s != (i : Int).tdiv w) = false:=by simp [c3]
  rw [beq_iff_eq.2 c3,Bool.true_and]
  simp -implicitDefEqProofs (maxSteps:=5000000) only [go_sem,simprocAttr,itr,itq,zAj,wl,hd,ix,ld,d0,d1,hq,d2,rm,qt,d3]
  unfold LP1 at l0
  generalize (envL prog).loop (runC (envL prog) (l48x0 (envL prog))) = LL0 at l0 ⊢
  refine zAq (fun r=>seqR (seqR (zAt 1 (zAt 2 r)) _) _) (l0 _ _ _ _ _ _ _ _ _ _ _ _ _ _ _ _ _ _ _ _ _ _ _ _ _ _ _ _ _ _ _ _ _ _ _ _ _ _ _ _ _ _ _ _ _ _ _ _ _ _ _ _ _ _ _ _ _ _ _ _ _ _ _ _ (by omega)) ?_
  rintro e t K ⟨rfl,fv,rfl,f4,⟨rfl,ho⟩ | ⟨rfl,ho⟩⟩
  ·rw [ho,Bool.not_false,Bool.true_and]
   simp -implicitDefEqProofs (maxSteps:=5000000) only [go_sem,simprocAttr,itr,itq,f4,e2]
   exact key _ _ _ _ _ _ _ _ _ _ _ _ _ _ _ _ _ _ _ _ _ _ _ _ _ _ _ _ _ _ _ _ _ _ _ _ _ _ _ _ _ _ _ _ _ _ _ _ _ _ _ _ _ _ (by omega)
  ·rw [ho,Bool.not_true,Bool.false_and]
   simp -implicitDefEqProofs (maxSteps:=5000000) only [go_sem,simprocAttr,itr,itq,zAi,zAc]
   exact exF2 rfl (.inr f4)
end
theorem rdirtyC {b s w a r : Int} (gg : Geo b s w a) {H : zAb} {v : AV} {D : List Int} (g : IS H v D) (hl : D.length ≤ 9223372036854775807) : (envL prog).call 48 [.agg [.int .i64 b,.int .i64 s,.int .i64 w,.int .i64 a,.int .i64 r],v] H = some (.bool (zGc b s w D),H):=by
 obtain ⟨n,hn,n1,n2⟩:=gg.sw
 have wm : IntKind.i64.wrap (s * w) = (n : Int):=by rw [zAl (by omega) (by omega)]; exact hn
 have wl:=g.len
 unfold zGc
 rw [hn]
 by_cases hlen : (D.length : Int) = (n : Int)
 case neg =>
  have d0 : ((D.length : Int) != (n : Int)) = true:=by simpa using hlen
  rw [beq_eq_false_iff_ne.2 hlen,Bool.false_and,c48]
  unfold b48
  simp -implicitDefEqProofs (maxSteps:=5000000) only [go_sem,simprocAttr,itr,itq,wl,wm,d0]
 rw [beq_iff_eq.2 hlen,Bool.true_and]
 have d0 : ((D.length : Int) != (n : Int)) = false:=by simp [hlen]
 obtain ⟨H1,hH1⟩ : ∃ H1,H1 = H ++ [ABlk.rw [.int .i64 b,.int .i64 s,.int .i64 w,.int .i64 a,.int .i64 r]]:=⟨_,rfl⟩
 have A1 : Adds H H1:=⟨_,hH1⟩
 have cq : cellsOf H1 H.length = some [.int .i64 b,.int .i64 s,.int .i64 w,.int .i64 a,.int .i64 r]:=by rw [hH1]; unfold cellsOf; simp
 have l0:=rdirtyL1 gg (A1.is g) (by omega) cq (m:=D.length) (i:=0)
 rw [show ((0 : Nat) : Int) = 0 from rfl,List.drop_zero,List.take_zero] at l0
 have hH1':=hH1.symm
 have key : Outs (runC (envL prog) (b48 (envL prog)) ([.agg [.int .i64 b,.int .i64 s,.int .i64 w,.int .i64 a,.int .i64 r],v] ++ List.replicate (68 - [AV.agg [.int .i64 b,.int .i64 s,.int .i64 w,.int .i64 a,.int .i64 r],v].length) .undef) H) fun e' t K=>K = H1 ∧ fin [.tmp 4] (some (e',t,K)) = some (.bool (zC2 b s w [] D),K):=by
  unfold b48
  generalize hQ : (fun (e' : Ex) (t : T) (K : zAb)=>K = H1 ∧ fin [.tmp 4] (some (e',t,K)) = some (AV.bool (zC2 b s w [] D),K)) = Q
  simp -implicitDefEqProofs (maxSteps:=5000000) only [go_sem,simprocAttr,itr,itq,zAj,hH1',cq,wl,wm,d0]
  unfold LP1 at l0
  generalize (envL prog).loop (runC (envL prog) (l48x1 (envL prog))) = L0 at l0 ⊢
  refine zAq (fun r=>seqR (zAt 0 r) _) (l0 _ _ _ _ _ _ _ _ _ _ _ _ _ _ _ _ _ _ _ _ _ _ _ _ _ _ _ _ _ _ _ _ _ _ _ _ _ _ _ _ _ _ _ _ _ _ _ _ _ _ _ _ _ _ _ _ _ _ _ _ _ _ _ _ (by omega)) ?_
  rintro e t K ⟨rfl,fv,rfl,⟨rfl,ho⟩ | ⟨rfl,f4,ho⟩⟩
  ·simp -implicitDefEqProofs (maxSteps:=5000000) only [go_sem,simprocAttr,zAc]
   subst hQ
   rw [ho]
   refine ⟨rfl,?_⟩
   simp -implicitDefEqProofs (maxSteps:=5000000) only [go_sem,simprocAttr]
  ·simp -implicitDefEqProofs (maxSteps:=5000000) only [go_sem,simprocAttr,zAc]
   subst hQ
   rw [ho]
   refine ⟨rfl,?_⟩
   simp -implicitDefEqProofs (maxSteps:=5000000) only [go_sem,simprocAttr,f4]
 obtain ⟨e',t,K,hr,rfl,hf⟩:=key
 rw [c48,hr,hf]; exact A1.trimS rfl
end Go.Proofs.Ythgflkfhjnbheaa.G14
end
section
namespace Go.Proofs.Ythgflkfhjnbheaa.G14
open Go Go.Proofs.Ythgflkfhjnbheaa.Eng
theorem zIl (s : SnS) (L : List SnS) : atsS (s :: L) = s.tb.map (·.2) ++ atsS L:=rfl
theorem zO3 : ∀ {L : List SnS},(∀ s ∈ L,s.tb.length ≤ 1000) → (atsS L).length ≤ 1000 * L.length
 | [],_=>by simp [atsS]
 | s :: L,h=>by
  have:=zO3 (L:=L) fun x hx=>h x (by simp [hx])
  have:=h s (by simp)
  rw [zIl,List.length_append,List.length_map,List.length_cons]; omega
theorem is_end {H K : zAb} {w : AV} {zs : List Int} (a : Adds H K) (g : IS K w zs) (wb : ∀ b,slb w = some b → H.length ≤ b) : ∃ K',trim H (some (w,K)) = some (w,K') ∧ Adds H K' ∧ IS K' w zs:=by
 rcases zEi (v:=w) a with e | ⟨u,e⟩
 ·exact ⟨K,e,a,g⟩
 ·refine ⟨H,e,Adds.refl H,?_⟩
  rcases g with g | ⟨b,o,l,ex,cs,rfl,_⟩
  ·exact .inl g
  ·have:=wb b rfl
   have:=zB3 u rfl
   omega
section
variable {H : zAb} {s : SnS} {vt : AV} (pt : IsP H vt s.tb) (lt : s.tb.length ≤ 1000)
include pt lt
set_option maxHeartbeats 4000000 in
theorem atsL_0 (x0 x1 x2 x4 x5 x6 x8 x9 x10 x11 x12 x13 x14 x27 x28 : AV) : ∀ (m j : Nat) (K : zAb) (w : AV) (acc : List Int) (j7 j18 j19 j20 j21 j22 j23 j24 j25 j26 : AV),Adds H K → FS K H.length w acc → acc.length + m ≤ 1000000 → j + m = s.tb.length →
  Outs (LP1 l78x0 [x0,x1,x2,w,x4,x5,x6,j7,x8,x9,x10,x11,x12,x13,x14,vt,.int .i64 (s.tb.length : Int),.int .i64 (j : Int),j18,j19,j20,j21,j22,j23,j24,j25,j26,x27,x28] K) fun e t K'=>e = .exit 2 ∧ Adds H K' ∧ ∃ fv : Nat → AV,t = [x0,x1,x2,(fv 3),x4,x5,x6,(fv 7),x8,x9,x10,x11,x12,x13,x14,vt,.int .i64 (s.tb.length : Int),(fv 17),(fv 18),(fv 19),(fv 20),(fv 21),(fv 22),(fv 23),(fv 24),(fv 25),(fv 26),x27,x28] ∧ FS K' H.length (fv 3) (acc ++ (s.tb.drop j).map (·.2)):=by
 intro m
 obtain ⟨L0,hL0⟩ : ∃ L,L = LP1 l78x0:=⟨_,rfl⟩
 have lo:=zAr hL0
 rw [← hL0]
 induction m with
 | zero =>
  intro j K w acc j7 j18 j19 j20 j21 j22 j23 j24 j25 j26 aK g al hj
  obtain rfl : j = s.tb.length:=by omega
  have hd : decide ((s.tb.length : Int) < (s.tb.length : Int)) = false:=by simp
  rw [List.drop_length,List.map_nil,List.append_nil,lo]
  unfold l78x0
  simp -implicitDefEqProofs (maxSteps:=5000000) only [go_sem,simprocAttr,hd,zAh,zAc]
  exact ⟨aK,exF2 rfl g⟩
 | succ m ih =>
  intro j K w acc j7 j18 j19 j20 j21 j22 j23 j24 j25 j26 aK g al hj
  have hlt : j < s.tb.length:=by omega
  have hd : decide ((j : Int) < (s.tb.length : Int)) = true:=decide_eq_true (by omega)
  have e2 : IntKind.i64.wrap ((j : Int) + 1) = ((j + 1 : Nat) : Int):=by rw [zAl (by omega) (by omega)]; omega
  have hx:=List.getElem?_eq_getElem hlt
  rw [List.drop_eq_getElem_cons hlt,List.map_cons]
  generalize s.tb[j] = p at *
  obtain ⟨b2,c2,_,ix2,hc0,r1,r2,rt,rle⟩:=pt.idx hx
  have hc2:=aK.cells hc0
  unfold prC at rt
  obtain ⟨K1,hK1⟩ : ∃ K1,K1 = K ++ [ABlk.rw [.int .i64 p.1,.int .i64 p.2]]:=⟨_,rfl⟩
  have A1 : Adds K K1:=⟨_,hK1⟩
  have cq : cellsOf K1 K.length = some [.int .i64 p.1,.int .i64 p.2]:=by rw [hK1]; unfold cellsOf; simp
  obtain ⟨K2,hK2⟩ : ∃ K2,K2 = K1 ++ [ABlk.rw [.int .i64 p.2]]:=⟨_,rfl⟩
  have A2 : Adds K1 K2:=⟨_,hK2⟩
  have cs2 : cellsOf K2 K1.length = some [.int .i64 p.2]:=by rw [hK2]; unfold cellsOf; simp
  obtain ⟨w',K3,ep,f3,fr3,sb3,l3⟩:=FS.push (g.frT (Fr.adds (A1.trans A2) (fun _=>False)) fun _ _ h=>h) cs2 (by omega) (by have:=aK.len; have:=(A1.trans A2).len; omega)
  have a3 : Adds H K3:=fr3.old (aK.trans (A1.trans A2)) fun b hb h=>by have:=(FS.out g b h).1; omega
  have hK1:=hK1.symm
  have hK2:=hK2.symm
  have key:=ih (j + 1) K3 w' (acc ++ [p.2])
  rw [List.append_assoc,List.singleton_append] at key
  rw [lo]
  unfold l78x0
  simp -implicitDefEqProofs (maxSteps:=5000000) only [go_sem,simprocAttr,itr,itq,hd,ix2,hc2,rt,rle,zAe,hK1,cq,hK2,ep,e2]
  exact key _ _ _ _ _ _ _ _ _ _ a3 f3 (by rw [List.length_append,List.length_singleton]; omega) (by omega)
end
section
variable {H : zAb} {v : AV} {L : List SnS} (g : IsC H v L) (fi : Fits L)
include g fi
set_option maxHeartbeats 4000000 in
theorem atsL_1 (x0 x1 x2 x4 x6 x28 : AV) : ∀ (m i : Nat) (K : zAb) (w : AV) (acc : List Int) (j5 j7 j11 j12 j13 j14 j15 j16 j17 j18 j19 j20 j21 j22 j23 j24 j25 j26 j27 : AV),Adds H K → FS K H.length w acc → acc.length ≤ 1000 * i → i + m = L.length →
  Outs (LP1 l78x1 [x0,x1,x2,w,x4,j5,x6,j7,v,.int .i64 (L.length : Int),.int .i64 (i : Int),j11,j12,j13,j14,j15,j16,j17,j18,j19,j20,j21,j22,j23,j24,j25,j26,j27,x28] K) fun e t K'=>e = .exit 0 ∧ Adds H K' ∧ ∃ fv : Nat → AV,t = [x0,x1,x2,(fv 3),x4,(fv 5),x6,(fv 7),v,.int .i64 (L.length : Int),(fv 10),(fv 11),(fv 12),(fv 13),(fv 14),(fv 15),(fv 16),(fv 17),(fv 18),(fv 19),(fv 20),(fv 21),(fv 22),(fv 23),(fv 24),(fv 25),(fv 26),(fv 27),x28] ∧ FS K' H.length (fv 3) (acc ++ atsS (L.drop i)):=by
 intro m
 obtain ⟨L0,hL0⟩ : ∃ L,L = LP1 l78x1:=⟨_,rfl⟩
 have lo:=zAr hL0
 have fl:=fi.1
 rw [← hL0]
 induction m with
 | zero =>
  intro i K w acc j5 j7 j11 j12 j13 j14 j15 j16 j17 j18 j19 j20 j21 j22 j23 j24 j25 j26 j27 aK gw al hi
  obtain rfl : i = L.length:=by omega
  have hd : decide ((L.length : Int) < (L.length : Int)) = false:=by simp
  rw [List.drop_length,show atsS [] = [] from rfl,List.append_nil,lo]
  unfold l78x1
  simp -implicitDefEqProofs (maxSteps:=5000000) only [go_sem,simprocAttr,hd,zAh,zAc]
  exact ⟨aK,exF2 rfl gw⟩
 | succ m ih =>
  intro i K w acc j5 j7 j11 j12 j13 j14 j15 j16 j17 j18 j19 j20 j21 j22 j23 j24 j25 j26 j27 aK gw al hi
  have hlt : i < L.length:=by omega
  have hd : decide ((i : Int) < (L.length : Int)) = true:=decide_eq_true (by omega)
  have e2 : IntKind.i64.wrap ((i : Int) + 1) = ((i + 1 : Nat) : Int):=by rw [zAl (by omega) (by omega)]; omega
  have hx:=List.getElem?_eq_getElem hlt
  have ft:=zCx fi hx
  have lt:=ft.lt
  rw [List.drop_eq_getElem_cons hlt,zIl]
  generalize L[i] = s at *
  obtain ⟨bb,cs,vc,vt,sb,ix,hc0,h1,h2,h3,ht,hle,hbs,hip⟩:=g.idx hx
  have hc:=aK.cells hc0
  have cc:=hbs.cell
  have ct:=hip.cell
  have wt:=hip.len
  obtain ⟨K1,hK1⟩ : ∃ K1,K1 = K ++ [ABlk.rw [.int .i64 s.id,vc,vt]]:=⟨_,rfl⟩
  have A1 : Adds K K1:=⟨_,hK1⟩
  have cq : cellsOf K1 K.length = some [.int .i64 s.id,vc,vt]:=by rw [hK1]; unfold cellsOf; simp
  have hK1:=hK1.symm
  have l0:=atsL_0 (H:=H) hip lt (m:=s.tb.length) (j:=0) (K:=K1) (w:=w) (acc:=acc)
  rw [show ((0 : Nat) : Int) = 0 from rfl,List.drop_zero] at l0
  rw [lo]
  unfold l78x1
  simp -implicitDefEqProofs (maxSteps:=5000000) only [go_sem,simprocAttr,itr,itq,zAj,hd,ix,hc,ht,hle,zAe,cc.2,ct.2,hK1,cq,wt]
  unfold LP1 at l0
  generalize (envL prog).loop (runC (envL prog) (l78x0 (envL prog))) = LL at l0 ⊢
  refine zAq (fun r=>seqR (seqR (zAt 1 (zAt 2 r)) _) _) (l0 _ _ _ _ _ _ _ _ _ _ _ _ _ _ _ _ _ _ _ _ _ _ _ _ _ (aK.trans A1) (gw.frT (Fr.adds A1 (fun _=>False)) fun _ _ h=>h) (by omega) (by omega)) ?_
  rintro e t K' ⟨rfl,a1,fv,rfl,g1⟩
  have key:=ih (i + 1) K' (fv 3) (acc ++ s.tb.map (·.2))
  rw [List.append_assoc] at key
  simp -implicitDefEqProofs (maxSteps:=5000000) only [go_sem,simprocAttr,itr,itq,e2]
  exact key _ _ _ _ _ _ _ _ _ _ _ _ _ _ _ _ _ _ _ a1 g1 (by rw [List.length_append,List.length_map]; omega) (by omega)
end
set_option maxHeartbeats 4000000 in
theorem atsC {H : zAb} {v : AV} {L : List SnS} (g : IsC H v L) (fi : Fits L) : ∃ w K,(envL prog).call 78 [v] H = some (w,K) ∧ Adds H K ∧ IS K w (atsS L):=by
 have wl:=g.len
 have fl:=fi.1
 have l1:=atsL_1 g fi (m:=L.length) (i:=0) (K:=H) (w:=.nilSl) (acc:=[])
 rw [show ((0 : Nat) : Int) = 0 from rfl,List.drop_zero,List.nil_append] at l1
 have key : Outs (runC (envL prog) (b78 (envL prog)) ([v] ++ List.replicate (29 - [v].length) .undef) H) fun e' t K=>∃ w,Adds H K ∧ IS K w (atsS L) ∧ (∀ b,slb w = some b → H.length ≤ b) ∧ fin [.tmp 2] (some (e',t,K)) = some (w,K):=by
  unfold b78
  generalize hQ : (fun (e' : Ex) (t : T) (K : zAb)=>∃ w,Adds H K ∧ IS K w (atsS L) ∧ (∀ b,slb w = some b → H.length ≤ b) ∧ fin [.tmp 2] (some (e',t,K)) = some (w,K)) = Q
  simp -implicitDefEqProofs (maxSteps:=5000000) only [go_sem,simprocAttr,itr,itq,zAj,wl]
  unfold LP1 at l1
  generalize (envL prog).loop (runC (envL prog) (l78x1 (envL prog))) = LL at l1 ⊢
  refine zAq (fun r=>seqR (zAt 0 r) _) (l1 _ _ _ _ _ _ _ _ _ _ _ _ _ _ _ _ _ _ _ _ _ _ _ _ _ (Adds.refl H) (.inl ⟨rfl,rfl⟩) (by simp) (by omega)) ?_
  rintro e t K2 ⟨rfl,A2,fv,rfl,f2⟩
  simp -implicitDefEqProofs (maxSteps:=5000000) only [go_sem,simprocAttr,itr,itq,zAc]
  subst hQ
  refine ⟨fv 3,A2,FS.is f2,fun b hb=>(FS.out f2 b hb).1,?_⟩
  simp -implicitDefEqProofs (maxSteps:=5000000) only [go_sem,simprocAttr,itr,itq]
 obtain ⟨e',t,K,hr,w,aK,bs,wb,hf⟩:=key
 obtain ⟨K',e,a,b⟩:=is_end aK bs wb
 exact ⟨w,K',by rw [c78,hr,hf]; exact e,a,b⟩
set_option maxHeartbeats 4000000 in
theorem moreC {H : zAb} {v : AV} {L : List SnS} (g : IsC H v L) (fi : Fits L) : (envL prog).call 80 [v] H = some (.bool (zHe L),H):=by
 have wl:=g.len
 have fl:=fi.1
 unfold zHe
 by_cases h8 : L.length < 8
 case neg =>
  have d8 : decide ((L.length : Int) < 8) = false:=decide_eq_false (by omega)
  rw [decide_eq_false h8,Bool.false_and,c80]
  unfold b80
  simp -implicitDefEqProofs (maxSteps:=5000000) only [go_sem,simprocAttr,itr,itq,wl,d8]
 have d8 : decide ((L.length : Int) < 8) = true:=decide_eq_true (by omega)
 rw [decide_eq_true h8,Bool.true_and]
 by_cases h0 : L.length = 0
 ·have d0 : ((L.length : Int) == 0) = true:=by simp [h0]
  have : L = []:=List.eq_nil_of_length_eq_zero h0
  subst this
  show _ = some (AV.bool true,H)
  rw [c80]
  unfold b80
  simp -implicitDefEqProofs (maxSteps:=5000000) only [go_sem,simprocAttr,itr,itq,wl,d8,d0]
 have d0 : ((L.length : Int) == 0) = false:=by rw [beq_eq_false_iff_ne]; omega
 have hx:=List.getElem?_eq_getElem (show L.length - 1 < L.length by omega)
 rw [show L.getLast? = L[L.length - 1]? from List.getLast?_eq_getElem?,hx]
 have ft:=zCx fi hx
 generalize L[L.length - 1] = s at *
 obtain ⟨bb,cs,vc,vt,sb,ix,hc,h1,h2,h3,ht,hle,hbs,hip⟩:=g.idx hx
 have w1 : IntKind.i64.wrap ((L.length : Int) - 1) = ((L.length - 1 : Nat) : Int):=by rw [zAl (by omega) (by omega)]; omega
 have ec:=Bt.countC hbs ft.u8 (by have:=ft.lc; omega)
 have wt:=hip.len
 rw [c80]
 unfold b80
 simp -implicitDefEqProofs (maxSteps:=5000000) only [go_sem,simprocAttr,itr,itq,wl,d8,d0,w1,ix,hc,h2,h3,ec,wt]
end Go.Proofs.Ythgflkfhjnbheaa.G14
end
section
namespace Go.Proofs.Ythgflkfhjnbheaa.G14
open Go Go.Proofs.Ythgflkfhjnbheaa.Eng
section
variable {H : zAb} {v : AV} {L : List SnS} (g : IsC H v L) (fi : Fits L) (x : Int)
include g fi
set_option maxHeartbeats 4000000 in
theorem heldL0 {i : Nat} {s : SnS} (hs : L[i]? = some s) (x2 x3 x7 x8 x9 x10 x11 x12 : AV) : ∀ (m j : Nat) (j13 j14 j15 j16 j17 j18 j19 j20 j21 j22 j23 j24 j25 j26 j27 j28 j29 j30 j31 j32 j33 : AV),j + m = s.tb.length →
  Outs (LP1 l88x0 [v,.int .i64 x,x2,x3,.bool false,.int .i64 (i : Int),.int .i64 (j : Int),x7,x8,x9,x10,x11,x12,j13,j14,j15,j16,j17,j18,j19,j20,j21,j22,j23,j24,j25,j26,j27,j28,j29,j30,j31,j32,j33] H) fun e t K=>K = H ∧ ∃ fv : Nat → AV,t = [v,.int .i64 x,x2,x3,(fv 4),.int .i64 (i : Int),(fv 6),x7,x8,x9,x10,x11,x12,(fv 13),(fv 14),(fv 15),(fv 16),(fv 17),(fv 18),(fv 19),(fv 20),(fv 21),(fv 22),(fv 23),(fv 24),(fv 25),(fv 26),(fv 27),(fv 28),(fv 29),(fv 30),(fv 31),(fv 32),(fv 33)] ∧ ((e = .exit 2 ∧ fv 4 = .bool false ∧ ((s.tb.drop j).map (·.2)).contains x = false) ∨ (e = .ret ∧ fv 4 = .bool true ∧ ((s.tb.drop j).map (·.2)).contains x = true)):=by
 intro m
 obtain ⟨L0,hL0⟩ : ∃ L,L = LP1 l88x0:=⟨_,rfl⟩
 have lo:=zAr hL0
 have ft:=(zCx fi hs).lt
 obtain ⟨bb,cs,vc,vt,sb,ix,hc,h1,h2,h3,ht,hle,hbs,hip⟩:=g.idx hs
 have wt:=hip.len
 rw [← hL0]
 induction m with
 | zero =>
  intro j j13 j14 j15 j16 j17 j18 j19 j20 j21 j22 j23 j24 j25 j26 j27 j28 j29 j30 j31 j32 j33 hj
  obtain rfl : j = s.tb.length:=by omega
  have hd : decide ((s.tb.length : Int) < (s.tb.length : Int)) = false:=by simp
  rw [lo,List.drop_length]
  unfold l88x0
  simp -implicitDefEqProofs (maxSteps:=5000000) only [go_sem,simprocAttr,itr,itq,ix,hc,h3,wt,hd,zAh,zAc]
  exact exF2 rfl (.inl ⟨rfl,rfl⟩)
 | succ m ih =>
  intro j j13 j14 j15 j16 j17 j18 j19 j20 j21 j22 j23 j24 j25 j26 j27 j28 j29 j30 j31 j32 j33 hj
  have hlt : j < s.tb.length:=by omega
  have hd : decide ((j : Int) < (s.tb.length : Int)) = true:=decide_eq_true (by omega)
  have e2 : IntKind.i64.wrap ((j : Int) + 1) = ((j + 1 : Nat) : Int):=by rw [zAl (by omega) (by omega)]; omega
  have hy:=List.getElem?_eq_getElem hlt
  rw [List.drop_eq_getElem_cons hlt,List.map_cons,List.contains_cons]
  generalize s.tb[j] = p at *
  obtain ⟨b2,c2,_,ix2,hc2,r1,r2,rt,rle⟩:=hip.idx hy
  have key:=ih (j + 1)
  rw [lo]
  unfold l88x0
  by_cases h : p.2 = x
  ·have hb : (p.2 == x) = true:=by simp [h]
   have hb2 : (x == p.2) = true:=by simp [h]
   rw [hb2,Bool.true_or]
   simp -implicitDefEqProofs (maxSteps:=5000000) only [go_sem,simprocAttr,itr,itq,ix,hc,h3,wt,hd,ix2,hc2,r2,hb,zAi,zAc]
   exact exF2 rfl (by first | exact rfl | exact .inr rfl | exact .inr ⟨rfl,rfl⟩)
  ·have hb : (p.2 == x) = false:=by simp [h]
   have hb2 : (x == p.2) = false:=beq_eq_false_iff_ne.2 fun e=>h e.symm
   rw [hb2,Bool.false_or]
   simp -implicitDefEqProofs (maxSteps:=5000000) only [go_sem,simprocAttr,itr,itq,ix,hc,h3,wt,hd,ix2,hc2,r2,hb,e2]
   exact key _ _ _ _ _ _ _ _ _ _ _ _ _ _ _ _ _ _ _ _ _ (by omega)
set_option maxHeartbeats 4000000 in
theorem heldL1 (x2 x3 : AV) : ∀ (m i : Nat) (j6 j7 j8 j9 j10 j11 j12 j13 j14 j15 j16 j17 j18 j19 j20 j21 j22 j23 j24 j25 j26 j27 j28 j29 j30 j31 j32 j33 : AV),i + m = L.length →
  Outs (LP1 l88x1 [v,.int .i64 x,x2,x3,.bool false,.int .i64 (i : Int),j6,j7,j8,j9,j10,j11,j12,j13,j14,j15,j16,j17,j18,j19,j20,j21,j22,j23,j24,j25,j26,j27,j28,j29,j30,j31,j32,j33] H) fun e t K=>K = H ∧ ∃ fv : Nat → AV,t = [v,.int .i64 x,x2,x3,(fv 4),(fv 5),(fv 6),(fv 7),(fv 8),(fv 9),(fv 10),(fv 11),(fv 12),(fv 13),(fv 14),(fv 15),(fv 16),(fv 17),(fv 18),(fv 19),(fv 20),(fv 21),(fv 22),(fv 23),(fv 24),(fv 25),(fv 26),(fv 27),(fv 28),(fv 29),(fv 30),(fv 31),(fv 32),(fv 33)] ∧ ((e = .exit 0 ∧ (atsS (L.drop i)).contains x = false) ∨ (e = .ret ∧ fv 4 = .bool true ∧ (atsS (L.drop i)).contains x = true)):=by
 intro m
 obtain ⟨L0,hL0⟩ : ∃ L,L = LP1 l88x1:=⟨_,rfl⟩
 have lo:=zAr hL0
 have fl:=fi.1
 have wl:=g.len
 rw [← hL0]
 induction m with
 | zero =>
  intro i j6 j7 j8 j9 j10 j11 j12 j13 j14 j15 j16 j17 j18 j19 j20 j21 j22 j23 j24 j25 j26 j27 j28 j29 j30 j31 j32 j33 hi
  obtain rfl : i = L.length:=by omega
  have hd : decide ((L.length : Int) < (L.length : Int)) = false:=by simp
  rw [lo,List.drop_length]
  unfold l88x1
  simp -implicitDefEqProofs (maxSteps:=5000000) only [go_sem,simprocAttr,itr,itq,wl,hd,zAh,zAc]
  exact exF2 rfl (.inl rfl)
 | succ m ih =>
  intro i j6 j7 j8 j9 j10 j11 j12 j13 j14 j15 j16 j17 j18 j19 j20 j21 j22 j23 j24 j25 j26 j27 j28 j29 j30 j31 j32 j33 hi
  have hlt : i < L.length:=by omega
  have hd : decide ((i : Int) < (L.length : Int)) = true:=decide_eq_true (by omega)
  have e2 : IntKind.i64.wrap ((i : Int) + 1) = ((i + 1 : Nat) : Int):=by rw [zAl (by omega) (by omega)]; omega
  have hs:=List.getElem?_eq_getElem hlt
  have l0:=heldL0 g fi x hs (m:=L[i].tb.length) (j:=0)
  rw [show ((0 : Nat) : Int) = 0 from rfl,List.drop_zero] at l0
  rw [List.drop_eq_getElem_cons hlt,zIl]
  generalize L[i] = s at *
  have key:=ih (i + 1)
  have ca : (s.tb.map (·.2) ++ atsS (L.drop (i + 1))).contains x = ((s.tb.map (·.2)).contains x || (atsS (L.drop (i + 1))).contains x):=by
   rw [Bool.eq_iff_iff,Bool.or_eq_true,List.contains_iff_mem,List.contains_iff_mem,List.contains_iff_mem,List.mem_append]
  rw [ca,lo]
  unfold l88x1
  simp -implicitDefEqProofs (maxSteps:=5000000) only [go_sem,simprocAttr,itr,itq,zAj,wl,hd]
  unfold LP1 at l0
  generalize (envL prog).loop (runC (envL prog) (l88x0 (envL prog))) = LL0 at l0 ⊢
  refine zAq (fun r=>seqR (seqR (zAt 1 (zAt 2 r)) _) _) (l0 _ _ _ _ _ _ _ _ _ _ _ _ _ _ _ _ _ _ _ _ _ _ _ _ _ _ _ _ _ (by omega)) ?_
  rintro e t K ⟨rfl,fv,rfl,⟨rfl,f4,ho⟩ | ⟨rfl,f4,ho⟩⟩
  ·rw [ho,Bool.false_or]
   simp -implicitDefEqProofs (maxSteps:=5000000) only [go_sem,simprocAttr,itr,itq,f4,e2]
   exact key _ _ _ _ _ _ _ _ _ _ _ _ _ _ _ _ _ _ _ _ _ _ _ _ _ _ _ _ (by omega)
  ·rw [ho,Bool.true_or]
   simp -implicitDefEqProofs (maxSteps:=5000000) only [go_sem,simprocAttr,itr,itq,zAi,zAc]
   exact exF2 rfl (by first | exact .inr f4 | exact .inr ⟨f4,rfl⟩ | exact f4)
theorem heldC : (envL prog).call 88 [v,.int .i64 x] H = some (.bool ((atsS L).contains x),H):=by
 have l0:=heldL1 g fi x (m:=L.length) (i:=0)
 rw [show ((0 : Nat) : Int) = 0 from rfl,List.drop_zero] at l0
 have key : Outs (runC (envL prog) (b88 (envL prog)) ([v,.int .i64 x] ++ List.replicate (34 - [v,AV.int .i64 x].length) .undef) H) fun e' t K=>K = H ∧ fin [.tmp 4] (some (e',t,K)) = some (.bool ((atsS L).contains x),K):=by
  unfold b88
  generalize hQ : (fun (e' : Ex) (t : T) (K : zAb)=>K = H ∧ fin [.tmp 4] (some (e',t,K)) = some (AV.bool ((atsS L).contains x),K)) = Q
  simp -implicitDefEqProofs (maxSteps:=5000000) only [go_sem,simprocAttr,itr,itq,zAj]
  unfold LP1 at l0
  generalize (envL prog).loop (runC (envL prog) (l88x1 (envL prog))) = L0 at l0 ⊢
  refine zAq (fun r=>seqR (zAt 0 r) _) (l0 _ _ _ _ _ _ _ _ _ _ _ _ _ _ _ _ _ _ _ _ _ _ _ _ _ _ _ _ _ _ (by omega)) ?_
  rintro e t K ⟨rfl,fv,rfl,⟨rfl,ho⟩ | ⟨rfl,f4,ho⟩⟩
  ·simp -implicitDefEqProofs (maxSteps:=5000000) only [go_sem,simprocAttr,zAc]
   subst hQ
   rw [ho]
   refine ⟨rfl,?_⟩
   simp -implicitDefEqProofs (maxSteps:=5000000) only [go_sem,simprocAttr]
  ·simp -implicitDefEqProofs (maxSteps:=5000000) only [go_sem,simprocAttr,zAc]
   subst hQ
   rw [ho]
   refine ⟨rfl,?_⟩
   simp -implicitDefEqProofs (maxSteps:=5000000) only [go_sem,simprocAttr,f4]
 obtain ⟨e',t,K,hr,rfl,hf⟩:=key
 rw [c88,hr,hf]; exact zBw rfl
end
def zFl (s : SnS) : Bool:=(Bt.allS s.ch).all fun c=>s.tb.any fun p=>p.1 == c
theorem any_idx (c : Int) (l : List PrS) : (l.any fun p=>p.1 == c) = decide (0 ≤ idxS l c):=by
 rw [Bool.eq_iff_iff,List.any_eq_true,decide_eq_true_eq]
 have h:=zJ4 (b:=c) (l:=l) (n:=0)
 have r:=zOh l c
 constructor
 ·rintro ⟨p,hp,e⟩
  rcases r with r | r
  ·exact absurd (by simpa using e) (h.1 r p hp)
  ·exact r.1
 ·intro hc
  refine Classical.byContradiction fun hn=>?_
  have : idxF c 0 l = -1:=h.2 fun p hp e=>hn ⟨p,hp,by simp [e]⟩
  unfold idxS at hc; omega
section
variable {H : zAb} {s : SnS} {vc vt vl : AV} {q : Nat} (hq : cellsOf H q = some [.int .i64 s.id,vc,vt]) (pt : IsP H vt s.tb) {zs : List Int} (gl : IS H vl zs) (lt : s.tb.length ≤ 1000) (lz : zs.length ≤ 1000000)
include hq pt gl lt lz
set_option maxHeartbeats 4000000 in
theorem wholeL0 {i : Nat} {c : Int} (hc0 : zs[i]? = some c) (x0 x1 x2 x8 x9 x10 x11 x12 x13 x14 x15 x16 x17 x18 x19 x20 x21 x22 x23 x24 x25 x47 x48 : AV) : ∀ (m j : Nat) (bb : Bool) (j26 j27 j28 j29 j30 j31 j32 j33 j34 j35 j36 j37 j38 j39 j40 j41 j42 j43 j44 j45 j46 : AV),j + m = s.tb.length →
  Outs (LP1 l87x0 [x0,x1,x2,.ptr q 0,vl,.int .i64 (i : Int),.bool bb,.int .i64 (j : Int),x8,x9,x10,x11,x12,x13,x14,x15,x16,x17,x18,x19,x20,x21,x22,x23,x24,x25,j26,j27,j28,j29,j30,j31,j32,j33,j34,j35,j36,j37,j38,j39,j40,j41,j42,j43,j44,j45,j46,x47,x48] H) fun e t K=>e = .exit 2 ∧ K = H ∧ ∃ fv : Nat → AV,t = [x0,x1,x2,.ptr q 0,vl,.int .i64 (i : Int),(fv 6),(fv 7),x8,x9,x10,x11,x12,x13,x14,x15,x16,x17,x18,x19,x20,x21,x22,x23,x24,x25,(fv 26),(fv 27),(fv 28),(fv 29),(fv 30),(fv 31),(fv 32),(fv 33),(fv 34),(fv 35),(fv 36),(fv 37),(fv 38),(fv 39),(fv 40),(fv 41),(fv 42),(fv 43),(fv 44),(fv 45),(fv 46),x47,x48] ∧ fv 6 = .bool (bb || (s.tb.drop j).any fun p=>p.1 == c):=by
 intro m
 obtain ⟨L0,hL0⟩ : ∃ L,L = LP1 l87x0:=⟨_,rfl⟩
 have lo:=zAr hL0
 have wt:=pt.len
 obtain ⟨ad,ix,ld⟩:=gl.idx hc0 .i64
 rw [← hL0]
 induction m with
 | zero =>
  intro j bb j26 j27 j28 j29 j30 j31 j32 j33 j34 j35 j36 j37 j38 j39 j40 j41 j42 j43 j44 j45 j46 hj
  obtain rfl : j = s.tb.length:=by omega
  have hd : decide ((s.tb.length : Int) < (s.tb.length : Int)) = false:=by simp
  rw [lo,List.drop_length,List.any_nil,Bool.or_false]
  unfold l87x0
  simp -implicitDefEqProofs (maxSteps:=5000000) only [go_sem,simprocAttr,itr,itq,hq,wt,hd,zAh,zAc]
  exact exF2 rfl rfl
 | succ m ih =>
  intro j bb j26 j27 j28 j29 j30 j31 j32 j33 j34 j35 j36 j37 j38 j39 j40 j41 j42 j43 j44 j45 j46 hj
  have hlt : j < s.tb.length:=by omega
  have hd : decide ((j : Int) < (s.tb.length : Int)) = true:=decide_eq_true (by omega)
  have e2 : IntKind.i64.wrap ((j : Int) + 1) = ((j + 1 : Nat) : Int):=by rw [zAl (by omega) (by omega)]; omega
  have hy:=List.getElem?_eq_getElem hlt
  rw [List.drop_eq_getElem_cons hlt,List.any_cons,← Bool.or_assoc]
  generalize s.tb[j] = p at *
  obtain ⟨b2,c2,_,ix2,hc2,r1,r2,rt,rle⟩:=pt.idx hy
  have key:=fun bb=>ih (j + 1) bb
  generalize hw : (p.1 == c) = y
  rw [lo]
  unfold l87x0
  cases bb with
  | true =>
   simp -implicitDefEqProofs (maxSteps:=5000000) only [go_sem,simprocAttr,itr,itq,hq,wt,hd,e2]
   exact key true _ _ _ _ _ _ _ _ _ _ _ _ _ _ _ _ _ _ _ _ _ (by omega)
  | false =>
   simp -implicitDefEqProofs (maxSteps:=5000000) only [go_sem,simprocAttr,itr,itq,hq,wt,hd,ix,ld,ix2,hc2,r1,hw,e2]
   exact key y _ _ _ _ _ _ _ _ _ _ _ _ _ _ _ _ _ _ _ _ _ (by omega)
set_option maxHeartbeats 4000000 in
theorem wholeL1 (x0 x1 x8 x9 x10 x11 x12 x13 x14 x15 x16 x17 x18 x19 : AV) : ∀ (m i : Nat) (j6 j7 j20 j21 j22 j23 j24 j25 j26 j27 j28 j29 j30 j31 j32 j33 j34 j35 j36 j37 j38 j39 j40 j41 j42 j43 j44 j45 j46 j47 j48 : AV),i + m = zs.length →
  Outs (LP1 l87x1 [x0,x1,.bool false,.ptr q 0,vl,.int .i64 (i : Int),j6,j7,x8,x9,x10,x11,x12,x13,x14,x15,x16,x17,x18,x19,j20,j21,j22,j23,j24,j25,j26,j27,j28,j29,j30,j31,j32,j33,j34,j35,j36,j37,j38,j39,j40,j41,j42,j43,j44,j45,j46,j47,j48] H) fun e t K=>K = H ∧ ∃ fv : Nat → AV,t = [x0,x1,(fv 2),.ptr q 0,vl,(fv 5),(fv 6),(fv 7),x8,x9,x10,x11,x12,x13,x14,x15,x16,x17,x18,x19,(fv 20),(fv 21),(fv 22),(fv 23),(fv 24),(fv 25),(fv 26),(fv 27),(fv 28),(fv 29),(fv 30),(fv 31),(fv 32),(fv 33),(fv 34),(fv 35),(fv 36),(fv 37),(fv 38),(fv 39),(fv 40),(fv 41),(fv 42),(fv 43),(fv 44),(fv 45),(fv 46),(fv 47),(fv 48)] ∧ ((e = .exit 0 ∧ ((zs.drop i).all fun c=>s.tb.any fun p=>p.1 == c) = true) ∨ (e = .ret ∧ fv 2 = .bool false ∧ ((zs.drop i).all fun c=>s.tb.any fun p=>p.1 == c) = false)):=by
 intro m
 obtain ⟨L0,hL0⟩ : ∃ L,L = LP1 l87x1:=⟨_,rfl⟩
 have lo:=zAr hL0
 have wl:=gl.len
 rw [← hL0]
 induction m with
 | zero =>
  intro i j6 j7 j20 j21 j22 j23 j24 j25 j26 j27 j28 j29 j30 j31 j32 j33 j34 j35 j36 j37 j38 j39 j40 j41 j42 j43 j44 j45 j46 j47 j48 hi
  obtain rfl : i = zs.length:=by omega
  have hd : decide ((zs.length : Int) < (zs.length : Int)) = false:=by simp
  rw [lo,List.drop_length]
  unfold l87x1
  simp -implicitDefEqProofs (maxSteps:=5000000) only [go_sem,simprocAttr,itr,itq,wl,hd,zAh,zAc]
  exact exF2 rfl (.inl (by first | rfl | trivial))
 | succ m ih =>
  intro i j6 j7 j20 j21 j22 j23 j24 j25 j26 j27 j28 j29 j30 j31 j32 j33 j34 j35 j36 j37 j38 j39 j40 j41 j42 j43 j44 j45 j46 j47 j48 hi
  have hlt : i < zs.length:=by omega
  have hd : decide ((i : Int) < (zs.length : Int)) = true:=decide_eq_true (by omega)
  have e2 : IntKind.i64.wrap ((i : Int) + 1) = ((i + 1 : Nat) : Int):=by rw [zAl (by omega) (by omega)]; omega
  have hs:=List.getElem?_eq_getElem hlt
  have l0:=wholeL0 hq pt gl lt lz hs (m:=s.tb.length) (j:=0) (bb:=false)
  rw [show ((0 : Nat) : Int) = 0 from rfl,List.drop_zero,Bool.false_or] at l0
  rw [List.drop_eq_getElem_cons hlt,List.all_cons]
  generalize zs[i] = c at *
  have key:=ih (i + 1)
  generalize (s.tb.any fun p=>p.1 == c) = y at *
  rw [lo]
  unfold l87x1
  simp -implicitDefEqProofs (maxSteps:=5000000) only [go_sem,simprocAttr,itr,itq,zAj,wl,hd]
  unfold LP1 at l0
  generalize (envL prog).loop (runC (envL prog) (l87x0 (envL prog))) = LL0 at l0 ⊢
  refine zAq (fun r=>seqR (seqR (zAt 1 (seqR (zAt 2 r) _)) _) _) (l0 _ _ _ _ _ _ _ _ _ _ _ _ _ _ _ _ _ _ _ _ _ _ _ _ _ _ _ _ _ _ _ _ _ _ _ _ _ _ _ _ _ _ _ _ (by omega)) ?_
  rintro e t K ⟨rfl,rfl,fv,rfl,f6⟩
  cases y with
  | true =>
   rw [Bool.true_and]
   simp -implicitDefEqProofs (maxSteps:=5000000) only [go_sem,simprocAttr,itr,itq,f6,e2]
   exact key _ _ _ _ _ _ _ _ _ _ _ _ _ _ _ _ _ _ _ _ _ _ _ _ _ _ _ _ _ _ _ (by omega)
  | false =>
   rw [Bool.false_and]
   simp -implicitDefEqProofs (maxSteps:=5000000) only [go_sem,simprocAttr,itr,itq,f6,zAi,zAc]
   exact exF2 rfl (by first | exact .inr rfl | exact rfl)
end
set_option maxHeartbeats 4000000 in
theorem wholeC {H : zAb} {v : AV} {L : List SnS} (g : IsC H v L) (fi : Fits L) : (envL prog).call 87 [v] H = some (.bool (match L.getLast? with | none=>true | some s=>zFl s),H):=by
 have wl:=g.len
 have fl:=fi.1
 by_cases h0 : L.length = 0
 ·have d0 : ((L.length : Int) == 0) = true:=by simp [h0]
  have : L = []:=List.eq_nil_of_length_eq_zero h0
  subst this
  show _ = some (AV.bool true,H)
  rw [c87]
  unfold b87
  simp -implicitDefEqProofs (maxSteps:=5000000) only [go_sem,simprocAttr,itr,itq,wl,d0]
 have d0 : ((L.length : Int) == 0) = false:=by rw [beq_eq_false_iff_ne]; omega
 have hx:=List.getElem?_eq_getElem (show L.length - 1 < L.length by omega)
 rw [show L.getLast? = L[L.length - 1]? from List.getLast?_eq_getElem?,hx]
 have ft:=zCx fi hx
 generalize L[L.length - 1] = s at *
 show _ = some (AV.bool (zFl s),H)
 obtain ⟨bb,cs,vc,vt,sb,ix,hc,h1,h2,h3,ht,hle,hbs,hip⟩:=g.idx hx
 have w1 : IntKind.i64.wrap ((L.length : Int) - 1) = ((L.length - 1 : Nat) : Int):=by rw [zAl (by omega) (by omega)]; omega
 obtain ⟨K1,hK1⟩ : ∃ K1,K1 = H ++ [ABlk.rw [.int .i64 s.id,vc,vt]]:=⟨_,rfl⟩
 have A1 : Adds H K1:=⟨_,hK1⟩
 have cq : cellsOf K1 H.length = some [.int .i64 s.id,vc,vt]:=by rw [hK1]; unfold cellsOf; simp
 obtain ⟨w,K2,A2,i2,ea⟩:=Bt.allRA (A1.bs hbs) (by have:=ft.lc; omega)
 have A:=A1.trans A2
 have lz : (Bt.allS s.ch).length ≤ 1000000:=by have:=Bt.allS_len s.ch; have:=ft.lc; omega
 have l1:=wholeL1 (A2.cells cq) (hip.adds A) i2 ft.lt lz (m:=(Bt.allS s.ch).length) (i:=0)
 rw [show ((0 : Nat) : Int) = 0 from rfl,List.drop_zero] at l1
 have cc:=hbs.cell
 have ct:=hip.cell
 have hK1:=hK1.symm
 have key : Outs (runC (envL prog) (b87 (envL prog)) ([v] ++ List.replicate (49 - [v].length) .undef) H) fun e' t K=>K = K2 ∧ fin [.tmp 2] (some (e',t,K)) = some (.bool (zFl s),K):=by
  unfold b87
  generalize hQ : (fun (e' : Ex) (t : T) (K : zAb)=>K = K2 ∧ fin [.tmp 2] (some (e',t,K)) = some (AV.bool (zFl s),K)) = Q
  simp -implicitDefEqProofs (maxSteps:=5000000) only [go_sem,simprocAttr,itr,itq,zAj,wl,d0,w1,ix,hc,ht,hle,zAe,cc.2,ct.2,hK1,cq,ea]
  unfold LP1 at l1
  generalize (envL prog).loop (runC (envL prog) (l87x1 (envL prog))) = L0 at l1 ⊢
  refine zAq (fun r=>seqR (zAt 0 r) _) (l1 _ _ _ _ _ _ _ _ _ _ _ _ _ _ _ _ _ _ _ _ _ _ _ _ _ _ _ _ _ _ _ _ _ _ _ _ _ _ _ _ _ _ _ _ _ (by omega)) ?_
  rintro e t K ⟨rfl,fv,rfl,⟨rfl,ho⟩ | ⟨rfl,f2,ho⟩⟩
  ·simp -implicitDefEqProofs (maxSteps:=5000000) only [go_sem,simprocAttr,zAc]
   subst hQ
   unfold zFl
   rw [ho]
   refine ⟨rfl,?_⟩
   simp -implicitDefEqProofs (maxSteps:=5000000) only [go_sem,simprocAttr]
  ·simp -implicitDefEqProofs (maxSteps:=5000000) only [go_sem,simprocAttr,zAc]
   subst hQ
   unfold zFl
   rw [ho]
   refine ⟨rfl,?_⟩
   simp -implicitDefEqProofs (maxSteps:=5000000) only [go_sem,simprocAttr,f2]
 obtain ⟨e',t,K,hr,rfl,hf⟩:=key
 rw [c87,hr,hf]; exact A.trimS rfl
end Go.Proofs.Ythgflkfhjnbheaa.G14
end
section
namespace Go.Proofs.Ythgflkfhjnbheaa.G14
open Go Go.Proofs.Ythgflkfhjnbheaa.Eng
def zGn (l : List PrS) : List Int:=(l.filter fun p=>p.2 != 255).map (·.2)
theorem zI2 (l : List PrS) (p : PrS) (h : p.2 ≠ 255) : zGn (l ++ [p]) = zGn l ++ [p.2]:=by
 unfold zGn; rw [List.filter_append,List.map_append,List.filter_cons,if_pos (bne_iff_ne.2 h)]; rfl
theorem zI3 (l : List PrS) (p : PrS) (h : p.2 = 255) : zGn (l ++ [p]) = zGn l:=by
 unfold zGn; rw [List.filter_append,List.map_append,List.filter_cons,if_neg (by simp [h])]; simp
theorem zK5 (l : List PrS) (x : Int) (h : x ≠ 255) : (zGn l).contains x = (l.map (·.2)).contains x:=by
 unfold zGn
 rw [Bool.eq_iff_iff,List.contains_iff_mem,List.contains_iff_mem,List.mem_map,List.mem_map]
 constructor
 ·rintro ⟨p,hp,e⟩; exact ⟨p,(List.mem_filter.1 hp).1,e⟩
 ·rintro ⟨p,hp,e⟩; exact ⟨p,List.mem_filter.2 ⟨hp,bne_iff_ne.2 (e ▸ h)⟩,e⟩
theorem zFs (l : List PrS) : (zGn l).length ≤ l.length:=by unfold zGn; rw [List.length_map]; exact List.length_filter_le _ _
theorem zI4 (kd b ar : Int) (hd : List Int) (pre : List PrS) (x : PrS) (l : List PrS) : zD8 kd b ar hd pre (x :: l) = (zLl kd b ar hd pre x && zD8 kd b ar hd (pre ++ [x]) l):=rfl
section
variable {b s w a r kd pd : Int} {H : zAb} {vp vh : AV} {P : List PrS} {hd : List Int} (gp : IsP H vp P) (lp : P.length ≤ 1000) (gh : IS H vh hd) (lh : hd.length ≤ 1000000)
include gp lp gh lh
set_option maxHeartbeats 64000000 in
theorem planL0 {q p5 : Nat} (hq : cellsOf H q = some [.int .i64 b,.int .i64 s,.int .i64 w,.int .i64 a,.int .i64 r]) (h5 : cellsOf H p5 = some [.int .i64 kd,.int .i64 pd,vp]) (x0 x1 x3 x11 x12 x13 x14 x15 x16 x98 x99 x100 x101 x102 x103 x104 x105 x106 x107 x108 x109 x110 x111 x112 x113 x114 x115 x116 x117 x118 x119 x120 x121 x122 x123 x124 x125 x126 x127 x128 x129 x130 x131 x132 x133 x134 x135 : AV) : ∀ (m i : Nat) (K : zAb) (vn : AV) (j8 j9 j10 j20 j21 j22 j23 j24 j25 j26 j27 j28 j29 j30 j31 j32 j33 j34 j35 j36 j37 j38 j39 j40 j41 j42 j43 j44 j45 j46 j47 j48 j49 j50 j51 j52 j53 j54 j55 j56 j57 j58 j59 j60 j61 j62 j63 j64 j65 j66 j67 j68 j69 j70 j71 j72 j73 j74 j75 j76 j77 j78 j79 j80 j81 j82 j83 j84 j85 j86 j87 j88 j89 j90 j91 j92 j93 j94 j95 j96 j97 : AV),Adds H K → FS K H.length vn (if kd = 2 then zGn (P.take i) else []) → i + m = P.length →
  Outs (LP1 l47x0 [x0,x1,.ptr q 0,x3,.bool false,.ptr p5 0,vh,vn,j8,j9,j10,x11,x12,x13,x14,x15,x16,vp,.int .i64 (P.length : Int),.int .i64 (i : Int),j20,j21,j22,j23,j24,j25,j26,j27,j28,j29,j30,j31,j32,j33,j34,j35,j36,j37,j38,j39,j40,j41,j42,j43,j44,j45,j46,j47,j48,j49,j50,j51,j52,j53,j54,j55,j56,j57,j58,j59,j60,j61,j62,j63,j64,j65,j66,j67,j68,j69,j70,j71,j72,j73,j74,j75,j76,j77,j78,j79,j80,j81,j82,j83,j84,j85,j86,j87,j88,j89,j90,j91,j92,j93,j94,j95,j96,j97,x98,x99,x100,x101,x102,x103,x104,x105,x106,x107,x108,x109,x110,x111,x112,x113,x114,x115,x116,x117,x118,x119,x120,x121,x122,x123,x124,x125,x126,x127,x128,x129,x130,x131,x132,x133,x134,x135] K) fun e t K'=>Adds H K' ∧ ∃ fv : Nat → AV,t = [x0,x1,.ptr q 0,x3,(fv 4),.ptr p5 0,vh,(fv 7),(fv 8),(fv 9),(fv 10),x11,x12,x13,x14,x15,x16,vp,.int .i64 (P.length : Int),(fv 19),(fv 20),(fv 21),(fv 22),(fv 23),(fv 24),(fv 25),(fv 26),(fv 27),(fv 28),(fv 29),(fv 30),(fv 31),(fv 32),(fv 33),(fv 34),(fv 35),(fv 36),(fv 37),(fv 38),(fv 39),(fv 40),(fv 41),(fv 42),(fv 43),(fv 44),(fv 45),(fv 46),(fv 47),(fv 48),(fv 49),(fv 50),(fv 51),(fv 52),(fv 53),(fv 54),(fv 55),(fv 56),(fv 57),(fv 58),(fv 59),(fv 60),(fv 61),(fv 62),(fv 63),(fv 64),(fv 65),(fv 66),(fv 67),(fv 68),(fv 69),(fv 70),(fv 71),(fv 72),(fv 73),(fv 74),(fv 75),(fv 76),(fv 77),(fv 78),(fv 79),(fv 80),(fv 81),(fv 82),(fv 83),(fv 84),(fv 85),(fv 86),(fv 87),(fv 88),(fv 89),(fv 90),(fv 91),(fv 92),(fv 93),(fv 94),(fv 95),(fv 96),(fv 97),x98,x99,x100,x101,x102,x103,x104,x105,x106,x107,x108,x109,x110,x111,x112,x113,x114,x115,x116,x117,x118,x119,x120,x121,x122,x123,x124,x125,x126,x127,x128,x129,x130,x131,x132,x133,x134,x135] ∧ fv 4 = .bool false ∧ ((e = .exit 0 ∧ zD8 kd b a hd (P.take i) (P.drop i) = true) ∨ (e = .ret ∧ zD8 kd b a hd (P.take i) (P.drop i) = false)):=by
 intro m
 obtain ⟨L0,hL0⟩ : ∃ L,L = LP1 l47x0:=⟨_,rfl⟩
 have lo:=zAr hL0
 rw [← hL0]
 induction m with
 | zero =>
  intro i K vn j8 j9 j10 j20 j21 j22 j23 j24 j25 j26 j27 j28 j29 j30 j31 j32 j33 j34 j35 j36 j37 j38 j39 j40 j41 j42 j43 j44 j45 j46 j47 j48 j49 j50 j51 j52 j53 j54 j55 j56 j57 j58 j59 j60 j61 j62 j63 j64 j65 j66 j67 j68 j69 j70 j71 j72 j73 j74 j75 j76 j77 j78 j79 j80 j81 j82 j83 j84 j85 j86 j87 j88 j89 j90 j91 j92 j93 j94 j95 j96 j97 aK gn hi
  obtain rfl : i = P.length:=by omega
  have hd' : decide ((P.length : Int) < (P.length : Int)) = false:=by simp
  rw [List.drop_length,lo]
  unfold l47x0
  simp -implicitDefEqProofs (maxSteps:=5000000) only [go_sem,simprocAttr,hd',zAh,zAc]
  exact ⟨aK,exF2 rfl ⟨rfl,by first | trivial | exact .inl rfl⟩⟩
 | succ m ih =>
  intro i K vn j8 j9 j10 j20 j21 j22 j23 j24 j25 j26 j27 j28 j29 j30 j31 j32 j33 j34 j35 j36 j37 j38 j39 j40 j41 j42 j43 j44 j45 j46 j47 j48 j49 j50 j51 j52 j53 j54 j55 j56 j57 j58 j59 j60 j61 j62 j63 j64 j65 j66 j67 j68 j69 j70 j71 j72 j73 j74 j75 j76 j77 j78 j79 j80 j81 j82 j83 j84 j85 j86 j87 j88 j89 j90 j91 j92 j93 j94 j95 j96 j97 aK gn hi
  have hlt : i < P.length:=by omega
  have hd' : decide ((i : Int) < (P.length : Int)) = true:=decide_eq_true (by omega)
  have e2 : IntKind.i64.wrap ((i : Int) + 1) = ((i + 1 : Nat) : Int):=by rw [zAl (by omega) (by omega)]; omega
  have hx:=List.getElem?_eq_getElem hlt
  have tk : P.take (i + 1) = P.take i ++ [P[i]]:=by rw [List.take_add_one,hx]; rfl
  have tl : (P.take i).length = i:=by rw [List.length_take]; omega
  have key:=ih (i + 1)
  rw [tk] at key
  rw [List.drop_eq_getElem_cons hlt,zI4]
  have prev : (i = 0 ∧ (P.take i).getLast? = none) ∨ ∃ n y b2 c2,i = n + 1 ∧ (P.take i).getLast? = some y ∧ zA6 2 vp (.int .i64 (n : Int)) = some (.ptr b2 (plc vp n)) ∧ cellsOf H b2 = some c2 ∧ c2[plc vp n]? = some (.int .i64 y.1):=by
   cases i with
   | zero=>exact .inl ⟨rfl,by simp⟩
   | succ n =>
    have hn : n < P.length:=by omega
    obtain ⟨b2,c2,_,ix2,hc2,r1,_,_,_⟩:=gp.idx (List.getElem?_eq_getElem hn)
    exact .inr ⟨n,P[n],b2,c2,rfl,by rw [zF2 hn]; exact List.getElem?_eq_getElem hn,ix2,hc2,r1⟩
  generalize P[i] = x at *
  obtain ⟨bb,cs,sb,ix,hc0,h1,h2,ht,hle⟩:=gp.idx hx
  unfold prC at ht
  have hc:=aK.cells hc0
  obtain ⟨K1,hK1⟩ : ∃ K1,K1 = K ++ [ABlk.rw [.int .i64 x.1,.int .i64 x.2]]:=⟨_,rfl⟩
  have A1 : Adds K K1:=⟨_,hK1⟩
  have a1:=aK.trans A1
  have cq : cellsOf K1 K.length = some [.int .i64 x.1,.int .i64 x.2]:=by rw [hK1]; unfold cellsOf; simp
  have eh:=zEx (a1.is gh) (by omega) x.2
  have cg:=a1.cells hq
  have c5:=a1.cells h5
  have hK1:=hK1.symm
  have gn1 : FS K1 H.length vn (if kd = 2 then zGn (P.take i) else []):=gn.frT (Fr.adds A1 (fun _=>False)) fun _ _ h=>h
  unfold zLl
  rw [lo]
  unfold l47x0
  by_cases c1 : 0 ≤ x.1
  case neg =>
   have d1 : decide (x.1 < 0) = true:=decide_eq_true (by omega)
   rw [decide_eq_false c1,Bool.false_and,Bool.false_and]
   simp -implicitDefEqProofs (maxSteps:=5000000) only [go_sem,simprocAttr,itr,itq,hd',ix,hc,ht,hle,hK1,cq,eh,d1,zAi,zAc]
   exact ⟨a1,exF2 rfl (by first | rfl | exact ⟨rfl,.inr rfl⟩ | exact ⟨rfl,trivial⟩ | exact ⟨rfl,.inr trivial⟩)⟩
  have d1 : decide (x.1 < 0) = false:=decide_eq_false (by omega)
  rw [decide_eq_true c1,Bool.true_and]
  by_cases c2 : x.1 < b
  case neg =>
   have d2 : decide (x.1 ≥ b) = true:=decide_eq_true (by omega)
   rw [decide_eq_false c2,Bool.false_and,Bool.false_and]
   simp -implicitDefEqProofs (maxSteps:=5000000) only [go_sem,simprocAttr,itr,itq,hd',ix,hc,ht,hle,hK1,cq,eh,d1,cg,d2,zAi,zAc]
   exact ⟨a1,exF2 rfl (by first | rfl | exact ⟨rfl,.inr rfl⟩ | exact ⟨rfl,trivial⟩ | exact ⟨rfl,.inr trivial⟩)⟩
  have d2 : decide (x.1 ≥ b) = false:=decide_eq_false (by omega)
  rw [decide_eq_true c2,Bool.true_and]
  rcases prev with ⟨hi0,gl⟩ | ⟨n,y,b2,c2',hin,gl,ix2,hc2,r1⟩
  ·have dz : decide ((i : Int) > 0) = false:=decide_eq_false (by omega)
   rw [gl]
   show Outs _ fun e t K'=>Adds H K' ∧ ∃ fv : Nat → AV,t = [x0,x1,.ptr q 0,x3,(fv 4),.ptr p5 0,vh,(fv 7),(fv 8),(fv 9),(fv 10),x11,x12,x13,x14,x15,x16,vp,.int .i64 (P.length : Int),(fv 19),(fv 20),(fv 21),(fv 22),(fv 23),(fv 24),(fv 25),(fv 26),(fv 27),(fv 28),(fv 29),(fv 30),(fv 31),(fv 32),(fv 33),(fv 34),(fv 35),(fv 36),(fv 37),(fv 38),(fv 39),(fv 40),(fv 41),(fv 42),(fv 43),(fv 44),(fv 45),(fv 46),(fv 47),(fv 48),(fv 49),(fv 50),(fv 51),(fv 52),(fv 53),(fv 54),(fv 55),(fv 56),(fv 57),(fv 58),(fv 59),(fv 60),(fv 61),(fv 62),(fv 63),(fv 64),(fv 65),(fv 66),(fv 67),(fv 68),(fv 69),(fv 70),(fv 71),(fv 72),(fv 73),(fv 74),(fv 75),(fv 76),(fv 77),(fv 78),(fv 79),(fv 80),(fv 81),(fv 82),(fv 83),(fv 84),(fv 85),(fv 86),(fv 87),(fv 88),(fv 89),(fv 90),(fv 91),(fv 92),(fv 93),(fv 94),(fv 95),(fv 96),(fv 97),x98,x99,x100,x101,x102,x103,x104,x105,x106,x107,x108,x109,x110,x111,x112,x113,x114,x115,x116,x117,x118,x119,x120,x121,x122,x123,x124,x125,x126,x127,x128,x129,x130,x131,x132,x133,x134,x135] ∧ fv 4 = .bool false ∧ ((e = .exit 0 ∧ ((true && ((!(kd == 1) || hd.contains x.2) && (!(kd == 2) || ((x.2 == 255) || (decide (0 ≤ x.2) && (decide (x.2 < a) && (!hd.contains x.2 && !((P.take i).map (·.2)).contains x.2))))))) && zD8 kd b a hd (P.take i ++ [x]) (P.drop (i + 1))) = true) ∨ (e = .ret ∧ ((true && ((!(kd == 1) || hd.contains x.2) && (!(kd == 2) || ((x.2 == 255) || (decide (0 ≤ x.2) && (decide (x.2 < a) && (!hd.contains x.2 && !((P.take i).map (·.2)).contains x.2))))))) && zD8 kd b a hd (P.take i ++ [x]) (P.drop (i + 1))) = false))
   rw [Bool.true_and]
   by_cases k1 : kd = 1
   ·have q1 : (kd == 1) = true:=by simp [k1]
    have q2 : (kd == 2) = false:=by simp [k1]
    have q3 : (kd != 2) = true:=by simp [k1]
    have kn : ¬ kd = 2:=by omega
    rw [q1,q2,Bool.not_true,Bool.false_or,Bool.not_false,Bool.true_or,Bool.and_true]
    rw [if_neg kn] at gn1
    simp only [if_neg kn] at key
    rcases hh : hd.contains x.2 with _ | _ <;> rw [hh] at eh
    ·rw [Bool.false_and]
     simp -implicitDefEqProofs (maxSteps:=5000000) only [go_sem,simprocAttr,itr,itq,hd',ix,hc,ht,hle,hK1,cq,eh,d1,cg,d2,c5,dz,q1,zAi,zAc]
     exact ⟨a1,exF2 rfl (by first | rfl | exact ⟨rfl,.inr rfl⟩ | exact ⟨rfl,trivial⟩ | exact ⟨rfl,.inr trivial⟩)⟩
    ·rw [Bool.true_and]
     simp -implicitDefEqProofs (maxSteps:=5000000) only [go_sem,simprocAttr,itr,itq,hd',ix,hc,ht,hle,hK1,cq,eh,d1,cg,d2,c5,dz,q1,q3,e2]
     exact key K1 vn _ _ _ _ _ _ _ _ _ _ _ _ _ _ _ _ _ _ _ _ _ _ _ _ _ _ _ _ _ _ _ _ _ _ _ _ _ _ _ _ _ _ _ _ _ _ _ _ _ _ _ _ _ _ _ _ _ _ _ _ _ _ _ _ _ _ _ _ _ _ _ _ _ _ _ _ _ _ _ _ _ a1 gn1 (by omega)
   have q1 : (kd == 1) = false:=by simp [k1]
   rw [q1,Bool.not_false,Bool.true_or,Bool.true_and]
   by_cases k2 : kd = 2
   case neg =>
    have q2 : (kd == 2) = false:=by simp [k2]
    have q3 : (kd != 2) = true:=bne_iff_ne.2 k2
    rw [q2,Bool.not_false,Bool.true_or,Bool.true_and]
    rw [if_neg k2] at gn1
    simp only [if_neg k2] at key
    simp -implicitDefEqProofs (maxSteps:=5000000) only [go_sem,simprocAttr,itr,itq,hd',ix,hc,ht,hle,hK1,cq,eh,d1,cg,d2,c5,dz,q1,q3,e2]
    exact key K1 vn _ _ _ _ _ _ _ _ _ _ _ _ _ _ _ _ _ _ _ _ _ _ _ _ _ _ _ _ _ _ _ _ _ _ _ _ _ _ _ _ _ _ _ _ _ _ _ _ _ _ _ _ _ _ _ _ _ _ _ _ _ _ _ _ _ _ _ _ _ _ _ _ _ _ _ _ _ _ _ _ _ a1 gn1 (by omega)
   have q2 : (kd == 2) = true:=by simp [k2]
   have q3 : (kd != 2) = false:=by simp [k2]
   rw [q2,Bool.not_true,Bool.false_or]
   rw [if_pos k2] at gn1
   simp only [if_pos k2] at key
   by_cases z : x.2 = 255
   ·have z1 : (x.2 == 255) = true:=by simp [z]
    rw [z1,Bool.true_or,Bool.true_and]
    rw [zI3 _ _ z] at key
    simp -implicitDefEqProofs (maxSteps:=5000000) only [go_sem,simprocAttr,itr,itq,hd',ix,hc,ht,hle,hK1,cq,eh,d1,cg,d2,c5,dz,q1,q3,z1,e2]
    exact key K1 vn _ _ _ _ _ _ _ _ _ _ _ _ _ _ _ _ _ _ _ _ _ _ _ _ _ _ _ _ _ _ _ _ _ _ _ _ _ _ _ _ _ _ _ _ _ _ _ _ _ _ _ _ _ _ _ _ _ _ _ _ _ _ _ _ _ _ _ _ _ _ _ _ _ _ _ _ _ _ _ _ _ a1 gn1 (by omega)
   have z1 : (x.2 == 255) = false:=by simp [z]
   rw [z1,Bool.false_or]
   by_cases p1 : 0 ≤ x.2
   case neg =>
    have y1 : decide (x.2 < 0) = true:=decide_eq_true (by omega)
    rw [decide_eq_false p1,Bool.false_and,Bool.false_and]
    simp -implicitDefEqProofs (maxSteps:=5000000) only [go_sem,simprocAttr,itr,itq,hd',ix,hc,ht,hle,hK1,cq,eh,d1,cg,d2,c5,dz,q1,q3,z1,y1,zAi,zAc]
    exact ⟨a1,exF2 rfl (by first | rfl | exact ⟨rfl,.inr rfl⟩ | exact ⟨rfl,trivial⟩ | exact ⟨rfl,.inr trivial⟩)⟩
   have y1 : decide (x.2 < 0) = false:=decide_eq_false (by omega)
   rw [decide_eq_true p1,Bool.true_and]
   by_cases p2 : x.2 < a
   case neg =>
    have y2 : decide (x.2 ≥ a) = true:=decide_eq_true (by omega)
    rw [decide_eq_false p2,Bool.false_and,Bool.false_and]
    simp -implicitDefEqProofs (maxSteps:=5000000) only [go_sem,simprocAttr,itr,itq,hd',ix,hc,ht,hle,hK1,cq,eh,d1,cg,d2,c5,dz,q1,q3,z1,y1,y2,zAi,zAc]
    exact ⟨a1,exF2 rfl (by first | rfl | exact ⟨rfl,.inr rfl⟩ | exact ⟨rfl,trivial⟩ | exact ⟨rfl,.inr trivial⟩)⟩
   have y2 : decide (x.2 ≥ a) = false:=decide_eq_false (by omega)
   rw [decide_eq_true p2,Bool.true_and]
   rcases hh : hd.contains x.2 with _ | _ <;> rw [hh] at eh
   case true =>
    rw [Bool.not_true,Bool.false_and,Bool.false_and]
    simp -implicitDefEqProofs (maxSteps:=5000000) only [go_sem,simprocAttr,itr,itq,hd',ix,hc,ht,hle,hK1,cq,eh,d1,cg,d2,c5,dz,q1,q3,z1,y1,y2,zAi,zAc]
    exact ⟨a1,exF2 rfl (by first | rfl | exact ⟨rfl,.inr rfl⟩ | exact ⟨rfl,trivial⟩ | exact ⟨rfl,.inr trivial⟩)⟩
   rw [Bool.not_false,Bool.true_and]
   have en:=zEx (FS.is gn1) (by have:=zFs (P.take i); omega) x.2
   rw [zK5 _ _ z] at en
   rcases hm : ((P.take i).map (·.2)).contains x.2 with _ | _ <;> rw [hm] at en
   case true =>
    try rw [hm]
    rw [Bool.not_true,Bool.false_and]
    simp -implicitDefEqProofs (maxSteps:=5000000) only [go_sem,simprocAttr,itr,itq,hd',ix,hc,ht,hle,hK1,cq,eh,d1,cg,d2,c5,dz,q1,q3,z1,y1,y2,en,zAi,zAc]
    exact ⟨a1,exF2 rfl (by first | rfl | exact ⟨rfl,.inr rfl⟩ | exact ⟨rfl,trivial⟩ | exact ⟨rfl,.inr trivial⟩)⟩
   try rw [hm]
   rw [Bool.not_false,Bool.true_and]
   rw [zI2 _ _ z] at key
   obtain ⟨K2,hK2⟩ : ∃ K2,K2 = K1 ++ [ABlk.rw [.int .i64 x.2]]:=⟨_,rfl⟩
   have A2 : Adds K1 K2:=⟨_,hK2⟩
   have cs2 : cellsOf K2 K1.length = some [.int .i64 x.2]:=by rw [hK2]; unfold cellsOf; simp
   obtain ⟨w',K3,ep,f3,fr3,sb3,l3⟩:=FS.push (gn1.frT (Fr.adds A2 (fun _=>False)) fun _ _ h=>h) cs2 (by have:=zFs (P.take i); omega) (by have:=a1.len; have:=A2.len; omega)
   have a3 : Adds H K3:=fr3.old (a1.trans A2) fun b hb h=>by have:=(FS.out gn1 b h).1; omega
   have hK2:=hK2.symm
   simp -implicitDefEqProofs (maxSteps:=5000000) only [go_sem,simprocAttr,itr,itq,hd',ix,hc,ht,hle,hK1,cq,eh,d1,cg,d2,c5,dz,q1,q3,z1,y1,y2,en,hK2,ep,e2]
   exact key K3 w' _ _ _ _ _ _ _ _ _ _ _ _ _ _ _ _ _ _ _ _ _ _ _ _ _ _ _ _ _ _ _ _ _ _ _ _ _ _ _ _ _ _ _ _ _ _ _ _ _ _ _ _ _ _ _ _ _ _ _ _ _ _ _ _ _ _ _ _ _ _ _ _ _ _ _ _ _ _ _ _ _ a3 f3 (by omega)
  ·have dz : decide ((i : Int) > 0) = true:=decide_eq_true (by omega)
   have il2 : IntKind.i64.wrap ((i : Int) - 1) = (n : Int):=by rw [zAl (by omega) (by omega)]; omega
   have hc3:=a1.cells hc2
   rw [gl]
   show Outs _ fun e t K'=>Adds H K' ∧ ∃ fv : Nat → AV,t = [x0,x1,.ptr q 0,x3,(fv 4),.ptr p5 0,vh,(fv 7),(fv 8),(fv 9),(fv 10),x11,x12,x13,x14,x15,x16,vp,.int .i64 (P.length : Int),(fv 19),(fv 20),(fv 21),(fv 22),(fv 23),(fv 24),(fv 25),(fv 26),(fv 27),(fv 28),(fv 29),(fv 30),(fv 31),(fv 32),(fv 33),(fv 34),(fv 35),(fv 36),(fv 37),(fv 38),(fv 39),(fv 40),(fv 41),(fv 42),(fv 43),(fv 44),(fv 45),(fv 46),(fv 47),(fv 48),(fv 49),(fv 50),(fv 51),(fv 52),(fv 53),(fv 54),(fv 55),(fv 56),(fv 57),(fv 58),(fv 59),(fv 60),(fv 61),(fv 62),(fv 63),(fv 64),(fv 65),(fv 66),(fv 67),(fv 68),(fv 69),(fv 70),(fv 71),(fv 72),(fv 73),(fv 74),(fv 75),(fv 76),(fv 77),(fv 78),(fv 79),(fv 80),(fv 81),(fv 82),(fv 83),(fv 84),(fv 85),(fv 86),(fv 87),(fv 88),(fv 89),(fv 90),(fv 91),(fv 92),(fv 93),(fv 94),(fv 95),(fv 96),(fv 97),x98,x99,x100,x101,x102,x103,x104,x105,x106,x107,x108,x109,x110,x111,x112,x113,x114,x115,x116,x117,x118,x119,x120,x121,x122,x123,x124,x125,x126,x127,x128,x129,x130,x131,x132,x133,x134,x135] ∧ fv 4 = .bool false ∧ ((e = .exit 0 ∧ ((decide (y.1 < x.1) && ((!(kd == 1) || hd.contains x.2) && (!(kd == 2) || ((x.2 == 255) || (decide (0 ≤ x.2) && (decide (x.2 < a) && (!hd.contains x.2 && !((P.take i).map (·.2)).contains x.2))))))) && zD8 kd b a hd (P.take i ++ [x]) (P.drop (i + 1))) = true) ∨ (e = .ret ∧ ((decide (y.1 < x.1) && ((!(kd == 1) || hd.contains x.2) && (!(kd == 2) || ((x.2 == 255) || (decide (0 ≤ x.2) && (decide (x.2 < a) && (!hd.contains x.2 && !((P.take i).map (·.2)).contains x.2))))))) && zD8 kd b a hd (P.take i ++ [x]) (P.drop (i + 1))) = false))
   by_cases c4 : y.1 < x.1
   case neg =>
    have d4 : decide (x.1 ≤ y.1) = true:=decide_eq_true (by omega)
    rw [decide_eq_false c4,Bool.false_and,Bool.false_and]
    simp -implicitDefEqProofs (maxSteps:=5000000) only [go_sem,simprocAttr,itr,itq,hd',ix,hc,ht,hle,hK1,cq,eh,d1,cg,d2,c5,dz,il2,ix2,hc3,r1,d4,zAi,zAc]
    exact ⟨a1,exF2 rfl (by first | rfl | exact ⟨rfl,.inr rfl⟩ | exact ⟨rfl,trivial⟩ | exact ⟨rfl,.inr trivial⟩)⟩
   have d4 : decide (x.1 ≤ y.1) = false:=decide_eq_false (by omega)
   rw [decide_eq_true c4,Bool.true_and]
   by_cases k1 : kd = 1
   ·have q1 : (kd == 1) = true:=by simp [k1]
    have q2 : (kd == 2) = false:=by simp [k1]
    have q3 : (kd != 2) = true:=by simp [k1]
    have kn : ¬ kd = 2:=by omega
    rw [q1,q2,Bool.not_true,Bool.false_or,Bool.not_false,Bool.true_or,Bool.and_true]
    rw [if_neg kn] at gn1
    simp only [if_neg kn] at key
    rcases hh : hd.contains x.2 with _ | _ <;> rw [hh] at eh
    ·rw [Bool.false_and]
     simp -implicitDefEqProofs (maxSteps:=5000000) only [go_sem,simprocAttr,itr,itq,hd',ix,hc,ht,hle,hK1,cq,eh,d1,cg,d2,c5,dz,il2,ix2,hc3,r1,d4,q1,zAi,zAc]
     exact ⟨a1,exF2 rfl (by first | rfl | exact ⟨rfl,.inr rfl⟩ | exact ⟨rfl,trivial⟩ | exact ⟨rfl,.inr trivial⟩)⟩
    ·rw [Bool.true_and]
     simp -implicitDefEqProofs (maxSteps:=5000000) only [go_sem,simprocAttr,itr,itq,hd',ix,hc,ht,hle,hK1,cq,eh,d1,cg,d2,c5,dz,il2,ix2,hc3,r1,d4,q1,q3,e2]
     exact key K1 vn _ _ _ _ _ _ _ _ _ _ _ _ _ _ _ _ _ _ _ _ _ _ _ _ _ _ _ _ _ _ _ _ _ _ _ _ _ _ _ _ _ _ _ _ _ _ _ _ _ _ _ _ _ _ _ _ _ _ _ _ _ _ _ _ _ _ _ _ _ _ _ _ _ _ _ _ _ _ _ _ _ a1 gn1 (by omega)
   have q1 : (kd == 1) = false:=by simp [k1]
   rw [q1,Bool.not_false,Bool.true_or,Bool.true_and]
   by_cases k2 : kd = 2
   case neg =>
    have q2 : (kd == 2) = false:=by simp [k2]
    have q3 : (kd != 2) = true:=bne_iff_ne.2 k2
    rw [q2,Bool.not_false,Bool.true_or,Bool.true_and]
    rw [if_neg k2] at gn1
    simp only [if_neg k2] at key
    simp -implicitDefEqProofs (maxSteps:=5000000) only [go_sem,simprocAttr,itr,itq,hd',ix,hc,ht,hle,hK1,cq,eh,d1,cg,d2,c5,dz,il2,ix2,hc3,r1,d4,q1,q3,e2]
    exact key K1 vn _ _ _ _ _ _ _ _ _ _ _ _ _ _ _ _ _ _ _ _ _ _ _ _ _ _ _ _ _ _ _ _ _ _ _ _ _ _ _ _ _ _ _ _ _ _ _ _ _ _ _ _ _ _ _ _ _ _ _ _ _ _ _ _ _ _ _ _ _ _ _ _ _ _ _ _ _ _ _ _ _ a1 gn1 (by omega)
   have q2 : (kd == 2) = true:=by simp [k2]
   have q3 : (kd != 2) = false:=by simp [k2]
   rw [q2,Bool.not_true,Bool.false_or]
   rw [if_pos k2] at gn1
   simp only [if_pos k2] at key
   by_cases z : x.2 = 255
   ·have z1 : (x.2 == 255) = true:=by simp [z]
    rw [z1,Bool.true_or,Bool.true_and]
    rw [zI3 _ _ z] at key
    simp -implicitDefEqProofs (maxSteps:=5000000) only [go_sem,simprocAttr,itr,itq,hd',ix,hc,ht,hle,hK1,cq,eh,d1,cg,d2,c5,dz,il2,ix2,hc3,r1,d4,q1,q3,z1,e2]
    exact key K1 vn _ _ _ _ _ _ _ _ _ _ _ _ _ _ _ _ _ _ _ _ _ _ _ _ _ _ _ _ _ _ _ _ _ _ _ _ _ _ _ _ _ _ _ _ _ _ _ _ _ _ _ _ _ _ _ _ _ _ _ _ _ _ _ _ _ _ _ _ _ _ _ _ _ _ _ _ _ _ _ _ _ a1 gn1 (by omega)
   have z1 : (x.2 == 255) = false:=by simp [z]
   rw [z1,Bool.false_or]
   by_cases p1 : 0 ≤ x.2
   case neg =>
    have y1 : decide (x.2 < 0) = true:=decide_eq_true (by omega)
    rw [decide_eq_false p1,Bool.false_and,Bool.false_and]
    simp -implicitDefEqProofs (maxSteps:=5000000) only [go_sem,simprocAttr,itr,itq,hd',ix,hc,ht,hle,hK1,cq,eh,d1,cg,d2,c5,dz,il2,ix2,hc3,r1,d4,q1,q3,z1,y1,zAi,zAc]
    exact ⟨a1,exF2 rfl (by first | rfl | exact ⟨rfl,.inr rfl⟩ | exact ⟨rfl,trivial⟩ | exact ⟨rfl,.inr trivial⟩)⟩
   have y1 : decide (x.2 < 0) = false:=decide_eq_false (by omega)
   rw [decide_eq_true p1,Bool.true_and]
   by_cases p2 : x.2 < a
   case neg =>
    have y2 : decide (x.2 ≥ a) = true:=decide_eq_true (by omega)
    rw [decide_eq_false p2,Bool.false_and,Bool.false_and]
    simp -implicitDefEqProofs (maxSteps:=5000000) only [go_sem,simprocAttr,itr,itq,hd',ix,hc,ht,hle,hK1,cq,eh,d1,cg,d2,c5,dz,il2,ix2,hc3,r1,d4,q1,q3,z1,y1,y2,zAi,zAc]
    exact ⟨a1,exF2 rfl (by first | rfl | exact ⟨rfl,.inr rfl⟩ | exact ⟨rfl,trivial⟩ | exact ⟨rfl,.inr trivial⟩)⟩
   have y2 : decide (x.2 ≥ a) = false:=decide_eq_false (by omega)
   rw [decide_eq_true p2,Bool.true_and]
   rcases hh : hd.contains x.2 with _ | _ <;> rw [hh] at eh
   case true =>
    rw [Bool.not_true,Bool.false_and,Bool.false_and]
    simp -implicitDefEqProofs (maxSteps:=5000000) only [go_sem,simprocAttr,itr,itq,hd',ix,hc,ht,hle,hK1,cq,eh,d1,cg,d2,c5,dz,il2,ix2,hc3,r1,d4,q1,q3,z1,y1,y2,zAi,zAc]
    exact ⟨a1,exF2 rfl (by first | rfl | exact ⟨rfl,.inr rfl⟩ | exact ⟨rfl,trivial⟩ | exact ⟨rfl,.inr trivial⟩)⟩
   rw [Bool.not_false,Bool.true_and]
   have en:=zEx (FS.is gn1) (by have:=zFs (P.take i); omega) x.2
   rw [zK5 _ _ z] at en
   rcases hm : ((P.take i).map (·.2)).contains x.2 with _ | _ <;> rw [hm] at en
   case true =>
    try rw [hm]
    rw [Bool.not_true,Bool.false_and]
    simp -implicitDefEqProofs (maxSteps:=5000000) only [go_sem,simprocAttr,itr,itq,hd',ix,hc,ht,hle,hK1,cq,eh,d1,cg,d2,c5,dz,il2,ix2,hc3,r1,d4,q1,q3,z1,y1,y2,en,zAi,zAc]
    exact ⟨a1,exF2 rfl (by first | rfl | exact ⟨rfl,.inr rfl⟩ | exact ⟨rfl,trivial⟩ | exact ⟨rfl,.inr trivial⟩)⟩
   try rw [hm]
   rw [Bool.not_false,Bool.true_and]
   rw [zI2 _ _ z] at key
   obtain ⟨K2,hK2⟩ : ∃ K2,K2 = K1 ++ [ABlk.rw [.int .i64 x.2]]:=⟨_,rfl⟩
   have A2 : Adds K1 K2:=⟨_,hK2⟩
   have cs2 : cellsOf K2 K1.length = some [.int .i64 x.2]:=by rw [hK2]; unfold cellsOf; simp
   obtain ⟨w',K3,ep,f3,fr3,sb3,l3⟩:=FS.push (gn1.frT (Fr.adds A2 (fun _=>False)) fun _ _ h=>h) cs2 (by have:=zFs (P.take i); omega) (by have:=a1.len; have:=A2.len; omega)
   have a3 : Adds H K3:=fr3.old (a1.trans A2) fun b hb h=>by have:=(FS.out gn1 b h).1; omega
   have hK2:=hK2.symm
   simp -implicitDefEqProofs (maxSteps:=5000000) only [go_sem,simprocAttr,itr,itq,hd',ix,hc,ht,hle,hK1,cq,eh,d1,cg,d2,c5,dz,il2,ix2,hc3,r1,d4,q1,q3,z1,y1,y2,en,hK2,ep,e2]
   exact key K3 w' _ _ _ _ _ _ _ _ _ _ _ _ _ _ _ _ _ _ _ _ _ _ _ _ _ _ _ _ _ _ _ _ _ _ _ _ _ _ _ _ _ _ _ _ _ _ _ _ _ _ _ _ _ _ _ _ _ _ _ _ _ _ _ _ _ _ _ _ _ _ _ _ _ _ _ _ _ _ _ _ _ a3 f3 (by omega)
end
end Go.Proofs.Ythgflkfhjnbheaa.G14
end
section
namespace Go.Proofs.Ythgflkfhjnbheaa.G14
open Go Go.Proofs.Ythgflkfhjnbheaa.Eng
structure StA (H : zAb) (vd vs vp : AV) (S : StS) : Prop where
 d : IS H vd S.dirty
 ok : zIy vd
 s : IsC H vs S.snaps
 p : IsP H vp S.pairs
theorem StA.adds {H H' : zAb} {vd vs vp : AV} {S : StS} (g : StA H vd vs vp S) (a : Adds H H') : StA H' vd vs vp S:=⟨a.is g.d,g.ok,g.s.adds a,g.p.adds a⟩
structure FitS (S : StS) : Prop where
 s : Fits S.snaps
 p : S.pairs.length ≤ 1000
theorem len0 (l : List PrS) : ((l.length : Int) == 0) = l.isEmpty:=by
 cases l with
 | nil=>rfl
 | cons x l=>rw [beq_eq_false_iff_ne.2 (by simp; omega)]; rfl
section
variable {b s w a r : Int} {H : zAb} {vd vs vp : AV} {S : StS} (g : StA H vd vs vp S) (fi : FitS S)
include g fi
set_option maxHeartbeats 16000000 in
theorem planC : (envL prog).call 47 [.agg [.int .i64 b,.int .i64 s,.int .i64 w,.int .i64 a,.int .i64 r],.agg [vd,vs,.int .i64 S.next,.int .i64 S.kind,.int .i64 S.pid,vp]] H = some (.bool (zEh b a S),H):=by
 have cd:=IS.cell g.d
 have cc:=g.s.cell
 have cp:=g.p.cell
 obtain ⟨H1,hH1⟩ : ∃ H1,H1 = H ++ [ABlk.rw [.int .i64 b,.int .i64 s,.int .i64 w,.int .i64 a,.int .i64 r],.rw [vd,vs,.int .i64 S.next,.int .i64 S.kind,.int .i64 S.pid,vp],.rw [.int .i64 S.kind,.int .i64 S.pid,vp]]:=⟨_,rfl⟩
 have A1 : Adds H H1:=⟨_,hH1⟩
 have c0 : cellsOf H1 H.length = some [.int .i64 b,.int .i64 s,.int .i64 w,.int .i64 a,.int .i64 r]:=by rw [hH1]; unfold cellsOf; simp
 have c1 : cellsOf H1 (H.length + 1) = some [vd,vs,.int .i64 S.next,.int .i64 S.kind,.int .i64 S.pid,vp]:=by rw [hH1]; unfold cellsOf; simp
 have c2 : cellsOf H1 (H.length + 2) = some [.int .i64 S.kind,.int .i64 S.pid,vp]:=by rw [hH1]; unfold cellsOf; simp
 have g1:=g.adds A1
 obtain ⟨vh,H2,ea,A2,ih⟩:=atsC g1.s fi.s
 have g2:=g1.adds A2
 have A:=A1.trans A2
 have lh : (atsS S.snaps).length ≤ 1000000:=by have:=zO3 (L:=S.snaps) fun x hx=>(fi.s.2 x hx).lt; have:=fi.s.1; omega
 have l0:=planL0 (a:=a) (w:=w) (s:=s) (r:=r) (pd:=S.pid) (kd:=S.kind) g2.p fi.p ih lh (A2.cells c0) (A2.cells c2) (m:=S.pairs.length) (i:=0) (K:=H2) (vn:=.nilSl)
 rw [show ((0 : Nat) : Int) = 0 from rfl,List.drop_zero,List.take_zero] at l0
 have wp:=g2.p.len
 have d1:=A2.cells c1
 have d2:=A2.cells c2
 have hH1:=hH1.symm
 have key : Outs (runC (envL prog) (b47 (envL prog)) ([.agg [.int .i64 b,.int .i64 s,.int .i64 w,.int .i64 a,.int .i64 r],.agg [vd,vs,.int .i64 S.next,.int .i64 S.kind,.int .i64 S.pid,vp]] ++ List.replicate (136 - [AV.agg [.int .i64 b,.int .i64 s,.int .i64 w,.int .i64 a,.int .i64 r],.agg [vd,vs,.int .i64 S.next,.int .i64 S.kind,.int .i64 S.pid,vp]].length) .undef) H) fun e' t K=>Adds H K ∧ fin [.tmp 4] (some (e',t,K)) = some (.bool (zEh b a S),K):=by
  unfold b47
  generalize hQ : (fun (e' : Ex) (t : T) (K : zAb)=>Adds H K ∧ fin [.tmp 4] (some (e',t,K)) = some (AV.bool (zEh b a S),K)) = Q
  simp -implicitDefEqProofs (maxSteps:=5000000) only [go_sem,simprocAttr,itr,itq,zAj,zAe,cd.1,cd.2,cc.1,cc.2,cp.1,cp.2,hH1,c1,c2,ea,d1,d2,wp]
  unfold LP1 at l0
  generalize (envL prog).loop (runC (envL prog) (l47x0 (envL prog))) = L0 at l0 ⊢
  refine zAq (fun r=>seqR (zAt 0 r) _) (l0 _ _ _ _ _ _ _ _ _ _ _ _ _ _ _ _ _ _ _ _ _ _ _ _ _ _ _ _ _ _ _ _ _ _ _ _ _ _ _ _ _ _ _ _ _ _ _ _ _ _ _ _ _ _ _ _ _ _ _ _ _ _ _ _ _ _ _ _ _ _ _ _ _ _ _ _ _ _ _ _ _ _ _ _ _ _ _ _ _ _ _ _ _ _ _ _ _ _ _ _ _ _ _ _ _ _ _ _ _ _ _ _ _ _ _ _ _ _ _ _ _ _ _ _ _ _ _ _ (Adds.refl H2) (by rw [show zGn [] = [] from rfl,ite_self]; exact .inl ⟨rfl,rfl⟩) (by omega)) ?_
  rintro e t K ⟨aK,fv,rfl,f4,⟨rfl,ho⟩ | ⟨rfl,ho⟩⟩
  case inr =>
   simp -implicitDefEqProofs (maxSteps:=5000000) only [go_sem,simprocAttr,zAc]
   subst hQ
   have : zEh b a S = false:=by unfold zEh; rw [ho]; rfl
   rw [this]
   refine ⟨A.trans aK,?_⟩
   simp -implicitDefEqProofs (maxSteps:=5000000) only [go_sem,simprocAttr,f4]
  have e1:=aK.cells d1
  have e2:=aK.cells d2
  have e0:=aK.cells (A2.cells c0)
  have hp : zEh b a S = zM6 S:=by unfold zEh; rw [ho]; rfl
  rw [hp] at hQ
  have g3:=g2.adds aK
  have AK:=A.trans aK
  unfold zM6 at hQ
  by_cases k0 : S.kind = 0
  ·have q0 : (S.kind == 0) = true:=by simp [k0]
   rw [if_pos k0] at hQ
   have wl:=len0 S.pairs
   rcases hz : (S.pid == 0) with _ | _ <;> rw [hz] at hQ
   ·simp -implicitDefEqProofs (maxSteps:=5000000) only [go_sem,simprocAttr,itr,itq,e1,e2,q0,hz,zAc]
    subst hQ
    refine ⟨AK,?_⟩
    simp -implicitDefEqProofs (maxSteps:=5000000) only [go_sem,simprocAttr]
   ·simp -implicitDefEqProofs (maxSteps:=5000000) only [go_sem,simprocAttr,itr,itq,e1,e2,q0,hz,wp,wl,zAc]
    subst hQ
    refine ⟨AK,?_⟩
    simp -implicitDefEqProofs (maxSteps:=5000000) only [go_sem,simprocAttr]
  have q0 : (S.kind == 0) = false:=by simp [k0]
  rw [if_neg k0] at hQ
  by_cases k1 : S.kind = 1
  ·have q1 : (S.kind == 1) = true:=by simp [k1]
   rw [if_pos k1] at hQ
   have ec:=cindexC g3.s fi.s S.pid
   have hge : decide (cidF S.pid 0 S.snaps ≥ 0) = decide (0 ≤ cidF S.pid 0 S.snaps):=rfl
   simp -implicitDefEqProofs (maxSteps:=5000000) only [go_sem,simprocAttr,itr,itq,e1,e2,q0,q1,ec,hge,zAc]
   subst hQ
   refine ⟨AK,?_⟩
   simp -implicitDefEqProofs (maxSteps:=5000000) only [go_sem,simprocAttr]
  have q1 : (S.kind == 1) = false:=by simp [k1]
  rw [if_neg k1] at hQ
  by_cases k2 : S.kind = 2
  ·have q2 : (S.kind == 2) = true:=by simp [k2]
   rw [if_pos k2] at hQ
   have em:=moreC g3.s fi.s
   by_cases h1 : S.next ≤ S.pid
   case neg =>
    have hge : decide (S.pid ≥ S.next) = false:=decide_eq_false h1
    rw [decide_eq_false h1] at hQ
    simp -implicitDefEqProofs (maxSteps:=5000000) only [go_sem,simprocAttr,itr,itq,e1,e2,q0,q1,q2,hge,zAc]
    subst hQ
    refine ⟨AK,?_⟩
    simp -implicitDefEqProofs (maxSteps:=5000000) only [go_sem,simprocAttr]
   have hge : decide (S.pid ≥ S.next) = true:=decide_eq_true h1
   rw [decide_eq_true h1] at hQ
   rcases h2 : decide (S.pid ≤ 1000000) with _ | _ <;> rw [h2] at hQ
   ·simp -implicitDefEqProofs (maxSteps:=5000000) only [go_sem,simprocAttr,itr,itq,e1,e2,q0,q1,q2,hge,h2,zAc]
    subst hQ
    refine ⟨AK,?_⟩
    simp -implicitDefEqProofs (maxSteps:=5000000) only [go_sem,simprocAttr]
   ·simp -implicitDefEqProofs (maxSteps:=5000000) only [go_sem,simprocAttr,itr,itq,e1,e2,q0,q1,q2,hge,h2,em,zAc]
    subst hQ
    refine ⟨AK,?_⟩
    simp -implicitDefEqProofs (maxSteps:=5000000) only [go_sem,simprocAttr]
  have q2 : (S.kind == 2) = false:=by simp [k2]
  rw [if_neg k2] at hQ
  simp -implicitDefEqProofs (maxSteps:=5000000) only [go_sem,simprocAttr,itr,itq,e1,e2,q0,q1,q2,zAc]
  subst hQ
  refine ⟨AK,?_⟩
  simp -implicitDefEqProofs (maxSteps:=5000000) only [go_sem,simprocAttr]
 obtain ⟨e',t,K,hr,aK,hf⟩:=key
 rw [c47,hr,hf]; exact aK.trimS rfl
end
end Go.Proofs.Ythgflkfhjnbheaa.G14
end
section
namespace Go.Proofs.Ythgflkfhjnbheaa.G14
open Go Go.Proofs.Ythgflkfhjnbheaa.Eng
section
variable {b s w a r kd pd : Int} {H : zAb} {vd vs vp : AV} {S : StS} (g : StA H vd vs vp S) (fi : FitS S)
include g fi
set_option maxHeartbeats 4000000 in
theorem rplanL0 {p5 p7 i : Nat} {x : PrS} (h5 : cellsOf H p5 = some [.int .i64 kd,.int .i64 pd,vp]) (h7 : cellsOf H p7 = some [.int .i64 x.1,.int .i64 x.2]) (hi : i ≤ S.pairs.length) (x0 x1 x2 x3 x9 x10 x11 x12 x13 x14 x15 x16 x17 x18 x19 x20 x21 x22 x23 x24 x25 x26 x27 x28 x29 x30 x31 x32 x33 x34 x35 x36 x37 x38 x39 x40 x41 x42 x43 x44 x45 x46 x47 x48 x49 x50 x51 x52 x53 x54 x55 x56 x57 x58 x59 x60 x61 x62 x63 x64 x65 x66 x67 x68 x69 x70 x71 x72 x73 x74 x75 x76 x77 x78 x79 x80 x81 x82 x83 x84 x85 x86 x87 x88 x89 x90 x91 x92 x93 x94 x95 x96 x97 x98 x99 x100 x101 x102 x103 x104 x105 x106 x107 x108 x109 x110 x111 x112 x113 x114 x115 x116 x117 x118 x119 x120 x121 x122 : AV) : ∀ (m j : Nat) (j123 j124 j125 j126 j127 j128 j129 j130 j131 j132 j133 j134 j135 j136 : AV),j + m = i →
  Outs (LP1 l50x0 [x0,x1,x2,x3,.bool false,.ptr p5 0,.int .i64 (i : Int),.ptr p7 0,.int .i64 (j : Int),x9,x10,x11,x12,x13,x14,x15,x16,x17,x18,x19,x20,x21,x22,x23,x24,x25,x26,x27,x28,x29,x30,x31,x32,x33,x34,x35,x36,x37,x38,x39,x40,x41,x42,x43,x44,x45,x46,x47,x48,x49,x50,x51,x52,x53,x54,x55,x56,x57,x58,x59,x60,x61,x62,x63,x64,x65,x66,x67,x68,x69,x70,x71,x72,x73,x74,x75,x76,x77,x78,x79,x80,x81,x82,x83,x84,x85,x86,x87,x88,x89,x90,x91,x92,x93,x94,x95,x96,x97,x98,x99,x100,x101,x102,x103,x104,x105,x106,x107,x108,x109,x110,x111,x112,x113,x114,x115,x116,x117,x118,x119,x120,x121,x122,j123,j124,j125,j126,j127,j128,j129,j130,j131,j132,j133,j134,j135,j136] H) fun e t K=>K = H ∧ ∃ fv : Nat → AV,t = [x0,x1,x2,x3,(fv 4),.ptr p5 0,.int .i64 (i : Int),.ptr p7 0,(fv 8),x9,x10,x11,x12,x13,x14,x15,x16,x17,x18,x19,x20,x21,x22,x23,x24,x25,x26,x27,x28,x29,x30,x31,x32,x33,x34,x35,x36,x37,x38,x39,x40,x41,x42,x43,x44,x45,x46,x47,x48,x49,x50,x51,x52,x53,x54,x55,x56,x57,x58,x59,x60,x61,x62,x63,x64,x65,x66,x67,x68,x69,x70,x71,x72,x73,x74,x75,x76,x77,x78,x79,x80,x81,x82,x83,x84,x85,x86,x87,x88,x89,x90,x91,x92,x93,x94,x95,x96,x97,x98,x99,x100,x101,x102,x103,x104,x105,x106,x107,x108,x109,x110,x111,x112,x113,x114,x115,x116,x117,x118,x119,x120,x121,x122,(fv 123),(fv 124),(fv 125),(fv 126),(fv 127),(fv 128),(fv 129),(fv 130),(fv 131),(fv 132),(fv 133),(fv 134),(fv 135),(fv 136)] ∧ fv 4 = .bool false ∧ ((e = .exit 3 ∧ (((S.pairs.take i).drop j).map (·.2)).contains x.2 = false) ∨ (e = .ret ∧ (((S.pairs.take i).drop j).map (·.2)).contains x.2 = true)):=by
 intro m
 obtain ⟨L0,hL0⟩ : ∃ L,L = LP1 l50x0:=⟨_,rfl⟩
 have lo:=zAr hL0
 have lp:=fi.p
 have tl : (S.pairs.take i).length = i:=by rw [List.length_take]; omega
 rw [← hL0]
 induction m with
 | zero =>
  intro j j123 j124 j125 j126 j127 j128 j129 j130 j131 j132 j133 j134 j135 j136 hj
  obtain rfl : j = i:=by omega
  have hd : decide ((j : Int) < (j : Int)) = false:=by simp
  rw [lo,show (S.pairs.take j).drop j = [] by rw [List.drop_eq_nil_iff]; omega]
  unfold l50x0
  simp -implicitDefEqProofs (maxSteps:=5000000) only [go_sem,simprocAttr,hd,zAh,zAc]
  exact exF2 rfl (by first | exact ⟨rfl,.inl rfl⟩ | exact ⟨rfl,trivial⟩ | rfl | exact ⟨rfl,.inl trivial⟩)
 | succ m ih =>
  intro j j123 j124 j125 j126 j127 j128 j129 j130 j131 j132 j133 j134 j135 j136 hj
  have hd : decide ((j : Int) < (i : Int)) = true:=decide_eq_true (by omega)
  have e2 : IntKind.i64.wrap ((j : Int) + 1) = ((j + 1 : Nat) : Int):=by rw [zAl (by omega) (by omega)]; omega
  have hy:=List.getElem?_eq_getElem (show j < S.pairs.length by omega)
  have dj : (S.pairs.take i).drop j = S.pairs[j] :: (S.pairs.take i).drop (j + 1):=by
   rw [List.drop_eq_getElem_cons (by omega),List.getElem_take]
  rw [dj,List.map_cons,List.contains_cons]
  generalize S.pairs[j] = y at *
  obtain ⟨b2,c2,_,ix2,hc2,r1,r2,_,_⟩:=g.p.idx hy
  have key:=ih (j + 1)
  rw [lo]
  unfold l50x0
  by_cases h : y.2 = x.2
  ·have hb : (y.2 == x.2) = true:=by simp [h]
   have hb2 : (x.2 == y.2) = true:=by simp [h]
   rw [hb2,Bool.true_or]
   simp -implicitDefEqProofs (maxSteps:=5000000) only [go_sem,simprocAttr,itr,itq,hd,h5,h7,ix2,hc2,r2,hb,zAi,zAc]
   exact exF2 rfl (by first | exact ⟨rfl,.inr rfl⟩ | exact ⟨rfl,trivial⟩ | rfl | exact ⟨rfl,.inr trivial⟩)
  ·have hb : (y.2 == x.2) = false:=by simp [h]
   have hb2 : (x.2 == y.2) = false:=beq_eq_false_iff_ne.2 fun e=>h e.symm
   rw [hb2,Bool.false_or]
   simp -implicitDefEqProofs (maxSteps:=5000000) only [go_sem,simprocAttr,itr,itq,hd,h5,h7,ix2,hc2,r2,hb,e2]
   exact key _ _ _ _ _ _ _ _ _ _ _ _ _ _ (by omega)
set_option maxHeartbeats 64000000 in
theorem zRt {q p3 p5 : Nat} (hk : S.kind = 1 ∨ S.kind = 2) (hq : cellsOf H q = some [.int .i64 b,.int .i64 s,.int .i64 w,.int .i64 a,.int .i64 r]) (h3 : cellsOf H p3 = some [vd,vs,.int .i64 S.next,.int .i64 S.kind,.int .i64 S.pid,vp]) (h5 : cellsOf H p5 = some [.int .i64 S.kind,.int .i64 S.pid,vp]) (x0 x1 x9 x10 x11 x12 x13 x14 x15 x16 x17 x18 x19 x20 x21 x22 x23 x24 x25 x26 x27 x28 x29 x30 x31 x32 x33 x34 x35 x36 x37 x38 x39 x40 x41 x42 x43 x44 x45 x46 x47 x48 x49 x50 x51 x52 x53 x54 x55 : AV) : ∀ (m i : Nat) (K : zAb) (j7 j8 j56 j57 j58 j59 j60 j61 j62 j63 j64 j65 j66 j67 j68 j69 j70 j71 j72 j73 j74 j75 j76 j77 j78 j79 j80 j81 j82 j83 j84 j85 j86 j87 j88 j89 j90 j91 j92 j93 j94 j95 j96 j97 j98 j99 j100 j101 j102 j103 j104 j105 j106 j107 j108 j109 j110 j111 j112 j113 j114 j115 j116 j117 j118 j119 j120 j121 j122 j123 j124 j125 j126 j127 j128 j129 j130 j131 j132 j133 j134 j135 j136 : AV),Adds H K → i + m = S.pairs.length →
  Outs (LP1 l50x1 [x0,x1,.ptr q 0,.ptr p3 0,.bool false,.ptr p5 0,.int .i64 (i : Int),j7,j8,x9,x10,x11,x12,x13,x14,x15,x16,x17,x18,x19,x20,x21,x22,x23,x24,x25,x26,x27,x28,x29,x30,x31,x32,x33,x34,x35,x36,x37,x38,x39,x40,x41,x42,x43,x44,x45,x46,x47,x48,x49,x50,x51,x52,x53,x54,x55,j56,j57,j58,j59,j60,j61,j62,j63,j64,j65,j66,j67,j68,j69,j70,j71,j72,j73,j74,j75,j76,j77,j78,j79,j80,j81,j82,j83,j84,j85,j86,j87,j88,j89,j90,j91,j92,j93,j94,j95,j96,j97,j98,j99,j100,j101,j102,j103,j104,j105,j106,j107,j108,j109,j110,j111,j112,j113,j114,j115,j116,j117,j118,j119,j120,j121,j122,j123,j124,j125,j126,j127,j128,j129,j130,j131,j132,j133,j134,j135,j136] K) fun e t K'=>Adds H K' ∧ ∃ fv : Nat → AV,t = [x0,x1,.ptr q 0,.ptr p3 0,(fv 4),.ptr p5 0,(fv 6),(fv 7),(fv 8),x9,x10,x11,x12,x13,x14,x15,x16,x17,x18,x19,x20,x21,x22,x23,x24,x25,x26,x27,x28,x29,x30,x31,x32,x33,x34,x35,x36,x37,x38,x39,x40,x41,x42,x43,x44,x45,x46,x47,x48,x49,x50,x51,x52,x53,x54,x55,(fv 56),(fv 57),(fv 58),(fv 59),(fv 60),(fv 61),(fv 62),(fv 63),(fv 64),(fv 65),(fv 66),(fv 67),(fv 68),(fv 69),(fv 70),(fv 71),(fv 72),(fv 73),(fv 74),(fv 75),(fv 76),(fv 77),(fv 78),(fv 79),(fv 80),(fv 81),(fv 82),(fv 83),(fv 84),(fv 85),(fv 86),(fv 87),(fv 88),(fv 89),(fv 90),(fv 91),(fv 92),(fv 93),(fv 94),(fv 95),(fv 96),(fv 97),(fv 98),(fv 99),(fv 100),(fv 101),(fv 102),(fv 103),(fv 104),(fv 105),(fv 106),(fv 107),(fv 108),(fv 109),(fv 110),(fv 111),(fv 112),(fv 113),(fv 114),(fv 115),(fv 116),(fv 117),(fv 118),(fv 119),(fv 120),(fv 121),(fv 122),(fv 123),(fv 124),(fv 125),(fv 126),(fv 127),(fv 128),(fv 129),(fv 130),(fv 131),(fv 132),(fv 133),(fv 134),(fv 135),(fv 136)] ∧ fv 4 = .bool false ∧ ((e = .exit 1 ∧ zD8 S.kind b a (atsS S.snaps) (S.pairs.take i) (S.pairs.drop i) = true) ∨ (e = .ret ∧ zD8 S.kind b a (atsS S.snaps) (S.pairs.take i) (S.pairs.drop i) = false)):=by
 intro m
 obtain ⟨L0,hL0⟩ : ∃ L,L = LP1 l50x1:=⟨_,rfl⟩
 have lo:=zAr hL0
 have lp:=fi.p
 obtain ⟨P,hP⟩ : ∃ P,P = S.pairs:=⟨_,rfl⟩
 have gp:=g.p
 have wl:=gp.len
 rw [← hP] at wl gp lp
 rw [← hL0,← hP]
 induction m with
 | zero =>
  intro i K j7 j8 j56 j57 j58 j59 j60 j61 j62 j63 j64 j65 j66 j67 j68 j69 j70 j71 j72 j73 j74 j75 j76 j77 j78 j79 j80 j81 j82 j83 j84 j85 j86 j87 j88 j89 j90 j91 j92 j93 j94 j95 j96 j97 j98 j99 j100 j101 j102 j103 j104 j105 j106 j107 j108 j109 j110 j111 j112 j113 j114 j115 j116 j117 j118 j119 j120 j121 j122 j123 j124 j125 j126 j127 j128 j129 j130 j131 j132 j133 j134 j135 j136 aK hi
  obtain rfl : i = P.length:=by omega
  have hd' : decide ((P.length : Int) < (P.length : Int)) = false:=by simp
  have c5:=aK.cells h5
  rw [List.drop_length,lo]
  unfold l50x1
  simp -implicitDefEqProofs (maxSteps:=5000000) only [go_sem,simprocAttr,itr,itq,c5,wl,hd',zAh,zAc]
  exact ⟨aK,exF2 rfl (by first | exact ⟨rfl,.inl rfl⟩ | exact ⟨rfl,trivial⟩ | rfl | exact ⟨rfl,.inl trivial⟩)⟩
 | succ m ih =>
  intro i K j7 j8 j56 j57 j58 j59 j60 j61 j62 j63 j64 j65 j66 j67 j68 j69 j70 j71 j72 j73 j74 j75 j76 j77 j78 j79 j80 j81 j82 j83 j84 j85 j86 j87 j88 j89 j90 j91 j92 j93 j94 j95 j96 j97 j98 j99 j100 j101 j102 j103 j104 j105 j106 j107 j108 j109 j110 j111 j112 j113 j114 j115 j116 j117 j118 j119 j120 j121 j122 j123 j124 j125 j126 j127 j128 j129 j130 j131 j132 j133 j134 j135 j136 aK hi
  have hlt : i < P.length:=by omega
  have hd' : decide ((i : Int) < (P.length : Int)) = true:=decide_eq_true (by omega)
  have e2 : IntKind.i64.wrap ((i : Int) + 1) = ((i + 1 : Nat) : Int):=by rw [zAl (by omega) (by omega)]; omega
  have hx:=List.getElem?_eq_getElem hlt
  have tk : P.take (i + 1) = P.take i ++ [P[i]]:=by rw [List.take_add_one,hx]; rfl
  have tl : (P.take i).length = i:=by rw [List.length_take]; omega
  have key:=ih (i + 1)
  rw [tk] at key
  rw [List.drop_eq_getElem_cons hlt,zI4]
  have prev : (i = 0 ∧ (P.take i).getLast? = none) ∨ ∃ n y b2 c2,i = n + 1 ∧ (P.take i).getLast? = some y ∧ zA6 2 vp (.int .i64 (n : Int)) = some (.ptr b2 (plc vp n)) ∧ cellsOf H b2 = some c2 ∧ c2[plc vp n]? = some (.int .i64 y.1):=by
   cases i with
   | zero=>exact .inl ⟨rfl,by simp⟩
   | succ n =>
    have hn : n < P.length:=by omega
    obtain ⟨b2,c2,_,ix2,hc2,r1,_,_,_⟩:=gp.idx (List.getElem?_eq_getElem hn)
    exact .inr ⟨n,P[n],b2,c2,rfl,by rw [zF2 hn]; exact List.getElem?_eq_getElem hn,ix2,hc2,r1⟩
  generalize P[i] = x at *
  obtain ⟨bb,cs,sb,ix,hc0,h1,h2,ht,hle⟩:=gp.idx hx
  unfold prC at ht
  have hc:=aK.cells hc0
  obtain ⟨K1,hK1⟩ : ∃ K1,K1 = K ++ [ABlk.rw [.int .i64 x.1,.int .i64 x.2]]:=⟨_,rfl⟩
  have A1 : Adds K K1:=⟨_,hK1⟩
  have a1:=aK.trans A1
  have cq : cellsOf K1 K.length = some [.int .i64 x.1,.int .i64 x.2]:=by rw [hK1]; unfold cellsOf; simp
  have eh:=heldC (g.adds a1).s fi.s x.2
  have cg:=a1.cells hq
  have c3':=a1.cells h3
  have c50:=aK.cells h5
  have c5:=a1.cells h5
  have l0:=rplanL0 (g.adds a1) fi c5 cq (i:=i) (by rw [← hP]; omega) (m:=i) (j:=0)
  rw [show ((0 : Nat) : Int) = 0 from rfl,List.drop_zero,← hP] at l0
  have hK1:=hK1.symm
  unfold zLl
  generalize atsS S.snaps = hd at *
  rw [lo]
  unfold l50x1
  by_cases c1 : 0 ≤ x.1
  case neg =>
   have d1 : decide (x.1 < 0) = true:=decide_eq_true (by omega)
   rw [decide_eq_false c1,Bool.false_and,Bool.false_and]
   simp -implicitDefEqProofs (maxSteps:=5000000) only [go_sem,simprocAttr,itr,itq,hd',wl,c50,ix,hc,ht,hle,hK1,cq,d1,zAi,zAc]
   exact ⟨a1,exF2 rfl (by first | rfl | exact ⟨rfl,.inr rfl⟩ | exact ⟨rfl,trivial⟩ | exact ⟨rfl,.inr trivial⟩)⟩
  have d1 : decide (x.1 < 0) = false:=decide_eq_false (by omega)
  rw [decide_eq_true c1,Bool.true_and]
  by_cases c2 : x.1 < b
  case neg =>
   have d2 : decide (x.1 ≥ b) = true:=decide_eq_true (by omega)
   rw [decide_eq_false c2,Bool.false_and,Bool.false_and]
   simp -implicitDefEqProofs (maxSteps:=5000000) only [go_sem,simprocAttr,itr,itq,hd',wl,c50,ix,hc,ht,hle,hK1,cq,d1,cg,d2,zAi,zAc]
   exact ⟨a1,exF2 rfl (by first | rfl | exact ⟨rfl,.inr rfl⟩ | exact ⟨rfl,trivial⟩ | exact ⟨rfl,.inr trivial⟩)⟩
  have d2 : decide (x.1 ≥ b) = false:=decide_eq_false (by omega)
  rw [decide_eq_true c2,Bool.true_and]
  rcases prev with ⟨hi0,gl⟩ | ⟨n,y,b2,c2',hin,gl,ix2,hc2,r1⟩
  ·have dz : decide ((i : Int) > 0) = false:=decide_eq_false (by omega)
   rw [gl]
   show Outs _ fun e t K'=>Adds H K' ∧ ∃ fv : Nat → AV,t = [x0,x1,.ptr q 0,.ptr p3 0,(fv 4),.ptr p5 0,(fv 6),(fv 7),(fv 8),x9,x10,x11,x12,x13,x14,x15,x16,x17,x18,x19,x20,x21,x22,x23,x24,x25,x26,x27,x28,x29,x30,x31,x32,x33,x34,x35,x36,x37,x38,x39,x40,x41,x42,x43,x44,x45,x46,x47,x48,x49,x50,x51,x52,x53,x54,x55,(fv 56),(fv 57),(fv 58),(fv 59),(fv 60),(fv 61),(fv 62),(fv 63),(fv 64),(fv 65),(fv 66),(fv 67),(fv 68),(fv 69),(fv 70),(fv 71),(fv 72),(fv 73),(fv 74),(fv 75),(fv 76),(fv 77),(fv 78),(fv 79),(fv 80),(fv 81),(fv 82),(fv 83),(fv 84),(fv 85),(fv 86),(fv 87),(fv 88),(fv 89),(fv 90),(fv 91),(fv 92),(fv 93),(fv 94),(fv 95),(fv 96),(fv 97),(fv 98),(fv 99),(fv 100),(fv 101),(fv 102),(fv 103),(fv 104),(fv 105),(fv 106),(fv 107),(fv 108),(fv 109),(fv 110),(fv 111),(fv 112),(fv 113),(fv 114),(fv 115),(fv 116),(fv 117),(fv 118),(fv 119),(fv 120),(fv 121),(fv 122),(fv 123),(fv 124),(fv 125),(fv 126),(fv 127),(fv 128),(fv 129),(fv 130),(fv 131),(fv 132),(fv 133),(fv 134),(fv 135),(fv 136)] ∧ fv 4 = .bool false ∧ ((e = .exit 1 ∧ ((true && ((!(S.kind == 1) || hd.contains x.2) && (!(S.kind == 2) || ((x.2 == 255) || (decide (0 ≤ x.2) && (decide (x.2 < a) && (!hd.contains x.2 && !((P.take i).map (·.2)).contains x.2))))))) && zD8 S.kind b a hd (P.take i ++ [x]) (P.drop (i + 1))) = true) ∨ (e = .ret ∧ ((true && ((!(S.kind == 1) || hd.contains x.2) && (!(S.kind == 2) || ((x.2 == 255) || (decide (0 ≤ x.2) && (decide (x.2 < a) && (!hd.contains x.2 && !((P.take i).map (·.2)).contains x.2))))))) && zD8 S.kind b a hd (P.take i ++ [x]) (P.drop (i + 1))) = false))
   rw [Bool.true_and]
   rcases hk with k1 | k2
   ·have q1 : (S.kind == 1) = true:=by simp [k1]
    have q2 : (S.kind == 2) = false:=by simp [k1]
    rw [q1,q2,Bool.not_true,Bool.false_or,Bool.not_false,Bool.true_or,Bool.and_true]
    rcases hh : hd.contains x.2 with _ | _ <;> rw [hh] at eh
    ·rw [Bool.false_and]
     simp -implicitDefEqProofs (maxSteps:=5000000) only [go_sem,simprocAttr,itr,itq,hd',wl,c50,ix,hc,ht,hle,hK1,cq,d1,cg,d2,c5,dz,c3',eh,q1,zAi,zAc]
     exact ⟨a1,exF2 rfl (by first | rfl | exact ⟨rfl,.inr rfl⟩ | exact ⟨rfl,trivial⟩ | exact ⟨rfl,.inr trivial⟩)⟩
    ·rw [Bool.true_and]
     simp -implicitDefEqProofs (maxSteps:=5000000) only [go_sem,simprocAttr,itr,itq,hd',wl,c50,ix,hc,ht,hle,hK1,cq,d1,cg,d2,c5,dz,c3',eh,q1,e2]
     exact key K1 _ _ _ _ _ _ _ _ _ _ _ _ _ _ _ _ _ _ _ _ _ _ _ _ _ _ _ _ _ _ _ _ _ _ _ _ _ _ _ _ _ _ _ _ _ _ _ _ _ _ _ _ _ _ _ _ _ _ _ _ _ _ _ _ _ _ _ _ _ _ _ _ _ _ _ _ _ _ _ _ _ _ _ a1 (by omega)
   have q1 : (S.kind == 1) = false:=by simp [k2]
   have q2 : (S.kind == 2) = true:=by simp [k2]
   rw [q1,q2,Bool.not_false,Bool.true_or,Bool.true_and,Bool.not_true,Bool.false_or]
   by_cases z : x.2 = 255
   ·have z1 : (x.2 == 255) = true:=by simp [z]
    rw [z1,Bool.true_or,Bool.true_and]
    simp -implicitDefEqProofs (maxSteps:=5000000) only [go_sem,simprocAttr,itr,itq,hd',wl,c50,ix,hc,ht,hle,hK1,cq,d1,cg,d2,c5,dz,q1,z1,e2]
    exact key K1 _ _ _ _ _ _ _ _ _ _ _ _ _ _ _ _ _ _ _ _ _ _ _ _ _ _ _ _ _ _ _ _ _ _ _ _ _ _ _ _ _ _ _ _ _ _ _ _ _ _ _ _ _ _ _ _ _ _ _ _ _ _ _ _ _ _ _ _ _ _ _ _ _ _ _ _ _ _ _ _ _ _ _ a1 (by omega)
   have z1 : (x.2 == 255) = false:=by simp [z]
   rw [z1,Bool.false_or]
   by_cases p1 : 0 ≤ x.2
   case neg =>
    have y1 : decide (x.2 < 0) = true:=decide_eq_true (by omega)
    rw [decide_eq_false p1,Bool.false_and,Bool.false_and]
    simp -implicitDefEqProofs (maxSteps:=5000000) only [go_sem,simprocAttr,itr,itq,hd',wl,c50,ix,hc,ht,hle,hK1,cq,d1,cg,d2,c5,dz,q1,z1,y1,zAi,zAc]
    exact ⟨a1,exF2 rfl (by first | rfl | exact ⟨rfl,.inr rfl⟩ | exact ⟨rfl,trivial⟩ | exact ⟨rfl,.inr trivial⟩)⟩
   have y1 : decide (x.2 < 0) = false:=decide_eq_false (by omega)
   rw [decide_eq_true p1,Bool.true_and]
   by_cases p2 : x.2 < a
   case neg =>
    have y2 : decide (x.2 ≥ a) = true:=decide_eq_true (by omega)
    rw [decide_eq_false p2,Bool.false_and,Bool.false_and]
    simp -implicitDefEqProofs (maxSteps:=5000000) only [go_sem,simprocAttr,itr,itq,hd',wl,c50,ix,hc,ht,hle,hK1,cq,d1,cg,d2,c5,dz,q1,z1,y1,y2,zAi,zAc]
    exact ⟨a1,exF2 rfl (by first | rfl | exact ⟨rfl,.inr rfl⟩ | exact ⟨rfl,trivial⟩ | exact ⟨rfl,.inr trivial⟩)⟩
   have y2 : decide (x.2 ≥ a) = false:=decide_eq_false (by omega)
   rw [decide_eq_true p2,Bool.true_and]
   rcases hh : hd.contains x.2 with _ | _ <;> rw [hh] at eh
   case true =>
    rw [Bool.not_true,Bool.false_and,Bool.false_and]
    simp -implicitDefEqProofs (maxSteps:=5000000) only [go_sem,simprocAttr,itr,itq,hd',wl,c50,ix,hc,ht,hle,hK1,cq,d1,cg,d2,c5,dz,c3',eh,q1,z1,y1,y2,zAi,zAc]
    exact ⟨a1,exF2 rfl (by first | rfl | exact ⟨rfl,.inr rfl⟩ | exact ⟨rfl,trivial⟩ | exact ⟨rfl,.inr trivial⟩)⟩
   rw [Bool.not_false,Bool.true_and]
   simp -implicitDefEqProofs (maxSteps:=5000000) only [go_sem,simprocAttr,itr,itq,zAj,hd',wl,c50,ix,hc,ht,hle,hK1,cq,d1,cg,d2,c5,dz,c3',eh,q1,z1,y1,y2]
   unfold LP1 at l0
   generalize (envL prog).loop (runC (envL prog) (l50x0 (envL prog))) = LL0 at l0 ⊢
   refine zAq (fun r=>seqR (seqR (zAt 2 (zAt 3 r)) _) _) (l0 _ _ _ _ _ _ _ _ _ _ _ _ _ _ _ _ _ _ _ _ _ _ _ _ _ _ _ _ _ _ _ _ _ _ _ _ _ _ _ _ _ _ _ _ _ _ _ _ _ _ _ _ _ _ _ _ _ _ _ _ _ _ _ _ _ _ _ _ _ _ _ _ _ _ _ _ _ _ _ _ _ _ _ _ _ _ _ _ _ _ _ _ _ _ _ _ _ _ _ _ _ _ _ _ _ _ _ _ _ _ _ _ _ _ _ _ _ _ _ _ _ _ _ _ _ _ _ _ _ _ _ _ (by omega)) ?_
   rintro e t K2 ⟨rfl,fv,rfl,f4,⟨rfl,ho⟩ | ⟨rfl,ho⟩⟩
   ·rw [ho,Bool.not_false,Bool.true_and]
    simp -implicitDefEqProofs (maxSteps:=5000000) only [go_sem,simprocAttr,itr,itq,f4,e2]
    exact key K2 _ _ _ _ _ _ _ _ _ _ _ _ _ _ _ _ _ _ _ _ _ _ _ _ _ _ _ _ _ _ _ _ _ _ _ _ _ _ _ _ _ _ _ _ _ _ _ _ _ _ _ _ _ _ _ _ _ _ _ _ _ _ _ _ _ _ _ _ _ _ _ _ _ _ _ _ _ _ _ _ _ _ _ a1 (by omega)
   ·rw [ho,Bool.not_true,Bool.false_and]
    simp -implicitDefEqProofs (maxSteps:=5000000) only [go_sem,simprocAttr,itr,itq,zAi,zAc]
    exact ⟨a1,exF2 rfl (by first | exact ⟨f4,.inr trivial⟩ | exact ⟨f4,.inr rfl⟩ | exact f4 | exact ⟨f4,trivial⟩)⟩
  ·have dz : decide ((i : Int) > 0) = true:=decide_eq_true (by omega)
   have il2 : IntKind.i64.wrap ((i : Int) - 1) = (n : Int):=by rw [zAl (by omega) (by omega)]; omega
   have hc3:=a1.cells hc2
   rw [gl]
   show Outs _ fun e t K'=>Adds H K' ∧ ∃ fv : Nat → AV,t = [x0,x1,.ptr q 0,.ptr p3 0,(fv 4),.ptr p5 0,(fv 6),(fv 7),(fv 8),x9,x10,x11,x12,x13,x14,x15,x16,x17,x18,x19,x20,x21,x22,x23,x24,x25,x26,x27,x28,x29,x30,x31,x32,x33,x34,x35,x36,x37,x38,x39,x40,x41,x42,x43,x44,x45,x46,x47,x48,x49,x50,x51,x52,x53,x54,x55,(fv 56),(fv 57),(fv 58),(fv 59),(fv 60),(fv 61),(fv 62),(fv 63),(fv 64),(fv 65),(fv 66),(fv 67),(fv 68),(fv 69),(fv 70),(fv 71),(fv 72),(fv 73),(fv 74),(fv 75),(fv 76),(fv 77),(fv 78),(fv 79),(fv 80),(fv 81),(fv 82),(fv 83),(fv 84),(fv 85),(fv 86),(fv 87),(fv 88),(fv 89),(fv 90),(fv 91),(fv 92),(fv 93),(fv 94),(fv 95),(fv 96),(fv 97),(fv 98),(fv 99),(fv 100),(fv 101),(fv 102),(fv 103),(fv 104),(fv 105),(fv 106),(fv 107),(fv 108),(fv 109),(fv 110),(fv 111),(fv 112),(fv 113),(fv 114),(fv 115),(fv 116),(fv 117),(fv 118),(fv 119),(fv 120),(fv 121),(fv 122),(fv 123),(fv 124),(fv 125),(fv 126),(fv 127),(fv 128),(fv 129),(fv 130),(fv 131),(fv 132),(fv 133),(fv 134),(fv 135),(fv 136)] ∧ fv 4 = .bool false ∧ ((e = .exit 1 ∧ ((decide (y.1 < x.1) && ((!(S.kind == 1) || hd.contains x.2) && (!(S.kind == 2) || ((x.2 == 255) || (decide (0 ≤ x.2) && (decide (x.2 < a) && (!hd.contains x.2 && !((P.take i).map (·.2)).contains x.2))))))) && zD8 S.kind b a hd (P.take i ++ [x]) (P.drop (i + 1))) = true) ∨ (e = .ret ∧ ((decide (y.1 < x.1) && ((!(S.kind == 1) || hd.contains x.2) && (!(S.kind == 2) || ((x.2 == 255) || (decide (0 ≤ x.2) && (decide (x.2 < a) && (!hd.contains x.2 && !((P.take i).map (·.2)).contains x.2))))))) && zD8 S.kind b a hd (P.take i ++ [x]) (P.drop (i + 1))) = false))
   by_cases c4 : y.1 < x.1
   case neg =>
    have d4 : decide (x.1 ≤ y.1) = true:=decide_eq_true (by omega)
    rw [decide_eq_false c4,Bool.false_and,Bool.false_and]
    simp -implicitDefEqProofs (maxSteps:=5000000) only [go_sem,simprocAttr,itr,itq,hd',wl,c50,ix,hc,ht,hle,hK1,cq,d1,cg,d2,c5,dz,il2,ix2,hc3,r1,d4,zAi,zAc]
    exact ⟨a1,exF2 rfl (by first | rfl | exact ⟨rfl,.inr rfl⟩ | exact ⟨rfl,trivial⟩ | exact ⟨rfl,.inr trivial⟩)⟩
   have d4 : decide (x.1 ≤ y.1) = false:=decide_eq_false (by omega)
   rw [decide_eq_true c4,Bool.true_and]
   rcases hk with k1 | k2
   ·have q1 : (S.kind == 1) = true:=by simp [k1]
    have q2 : (S.kind == 2) = false:=by simp [k1]
    rw [q1,q2,Bool.not_true,Bool.false_or,Bool.not_false,Bool.true_or,Bool.and_true]
    rcases hh : hd.contains x.2 with _ | _ <;> rw [hh] at eh
    ·rw [Bool.false_and]
     simp -implicitDefEqProofs (maxSteps:=5000000) only [go_sem,simprocAttr,itr,itq,hd',wl,c50,ix,hc,ht,hle,hK1,cq,d1,cg,d2,c5,dz,il2,ix2,hc3,r1,d4,c3',eh,q1,zAi,zAc]
     exact ⟨a1,exF2 rfl (by first | rfl | exact ⟨rfl,.inr rfl⟩ | exact ⟨rfl,trivial⟩ | exact ⟨rfl,.inr trivial⟩)⟩
    ·rw [Bool.true_and]
     simp -implicitDefEqProofs (maxSteps:=5000000) only [go_sem,simprocAttr,itr,itq,hd',wl,c50,ix,hc,ht,hle,hK1,cq,d1,cg,d2,c5,dz,il2,ix2,hc3,r1,d4,c3',eh,q1,e2]
     exact key K1 _ _ _ _ _ _ _ _ _ _ _ _ _ _ _ _ _ _ _ _ _ _ _ _ _ _ _ _ _ _ _ _ _ _ _ _ _ _ _ _ _ _ _ _ _ _ _ _ _ _ _ _ _ _ _ _ _ _ _ _ _ _ _ _ _ _ _ _ _ _ _ _ _ _ _ _ _ _ _ _ _ _ _ a1 (by omega)
   have q1 : (S.kind == 1) = false:=by simp [k2]
   have q2 : (S.kind == 2) = true:=by simp [k2]
   rw [q1,q2,Bool.not_false,Bool.true_or,Bool.true_and,Bool.not_true,Bool.false_or]
   by_cases z : x.2 = 255
   ·have z1 : (x.2 == 255) = true:=by simp [z]
    rw [z1,Bool.true_or,Bool.true_and]
    simp -implicitDefEqProofs (maxSteps:=5000000) only [go_sem,simprocAttr,itr,itq,hd',wl,c50,ix,hc,ht,hle,hK1,cq,d1,cg,d2,c5,dz,il2,ix2,hc3,r1,d4,q1,z1,e2]
    exact key K1 _ _ _ _ _ _ _ _ _ _ _ _ _ _ _ _ _ _ _ _ _ _ _ _ _ _ _ _ _ _ _ _ _ _ _ _ _ _ _ _ _ _ _ _ _ _ _ _ _ _ _ _ _ _ _ _ _ _ _ _ _ _ _ _ _ _ _ _ _ _ _ _ _ _ _ _ _ _ _ _ _ _ _ a1 (by omega)
   have z1 : (x.2 == 255) = false:=by simp [z]
   rw [z1,Bool.false_or]
   by_cases p1 : 0 ≤ x.2
   case neg =>
    have y1 : decide (x.2 < 0) = true:=decide_eq_true (by omega)
    rw [decide_eq_false p1,Bool.false_and,Bool.false_and]
    simp -implicitDefEqProofs (maxSteps:=5000000) only [go_sem,simprocAttr,itr,itq,hd',wl,c50,ix,hc,ht,hle,hK1,cq,d1,cg,d2,c5,dz,il2,ix2,hc3,r1,d4,q1,z1,y1,zAi,zAc]
    exact ⟨a1,exF2 rfl (by first | rfl | exact ⟨rfl,.inr rfl⟩ | exact ⟨rfl,trivial⟩ | exact ⟨rfl,.inr trivial⟩)⟩
   have y1 : decide (x.2 < 0) = false:=decide_eq_false (by omega)
   rw [decide_eq_true p1,Bool.true_and]
   by_cases p2 : x.2 < a
   case neg =>
    have y2 : decide (x.2 ≥ a) = true:=decide_eq_true (by omega)
    rw [decide_eq_false p2,Bool.false_and,Bool.false_and]
    simp -implicitDefEqProofs (maxSteps:=5000000) only [go_sem,simprocAttr,itr,itq,hd',wl,c50,ix,hc,ht,hle,hK1,cq,d1,cg,d2,c5,dz,il2,ix2,hc3,r1,d4,q1,z1,y1,y2,zAi,zAc]
    exact ⟨a1,exF2 rfl (by first | rfl | exact ⟨rfl,.inr rfl⟩ | exact ⟨rfl,trivial⟩ | exact ⟨rfl,.inr trivial⟩)⟩
   have y2 : decide (x.2 ≥ a) = false:=decide_eq_false (by omega)
   rw [decide_eq_true p2,Bool.true_and]
   rcases hh : hd.contains x.2 with _ | _ <;> rw [hh] at eh
   case true =>
    rw [Bool.not_true,Bool.false_and,Bool.false_and]
    simp -implicitDefEqProofs (maxSteps:=5000000) only [go_sem,simprocAttr,itr,itq,hd',wl,c50,ix,hc,ht,hle,hK1,cq,d1,cg,d2,c5,dz,il2,ix2,hc3,r1,d4,c3',eh,q1,z1,y1,y2,zAi,zAc]
    exact ⟨a1,exF2 rfl (by first | rfl | exact ⟨rfl,.inr rfl⟩ | exact ⟨rfl,trivial⟩ | exact ⟨rfl,.inr trivial⟩)⟩
   rw [Bool.not_false,Bool.true_and]
   simp -implicitDefEqProofs (maxSteps:=5000000) only [go_sem,simprocAttr,itr,itq,zAj,hd',wl,c50,ix,hc,ht,hle,hK1,cq,d1,cg,d2,c5,dz,il2,ix2,hc3,r1,d4,c3',eh,q1,z1,y1,y2]
   unfold LP1 at l0
   generalize (envL prog).loop (runC (envL prog) (l50x0 (envL prog))) = LL0 at l0 ⊢
   refine zAq (fun r=>seqR (seqR (zAt 2 (zAt 3 r)) _) _) (l0 _ _ _ _ _ _ _ _ _ _ _ _ _ _ _ _ _ _ _ _ _ _ _ _ _ _ _ _ _ _ _ _ _ _ _ _ _ _ _ _ _ _ _ _ _ _ _ _ _ _ _ _ _ _ _ _ _ _ _ _ _ _ _ _ _ _ _ _ _ _ _ _ _ _ _ _ _ _ _ _ _ _ _ _ _ _ _ _ _ _ _ _ _ _ _ _ _ _ _ _ _ _ _ _ _ _ _ _ _ _ _ _ _ _ _ _ _ _ _ _ _ _ _ _ _ _ _ _ _ _ _ _ (by omega)) ?_
   rintro e t K2 ⟨rfl,fv,rfl,f4,⟨rfl,ho⟩ | ⟨rfl,ho⟩⟩
   ·rw [ho,Bool.not_false,Bool.true_and]
    simp -implicitDefEqProofs (maxSteps:=5000000) only [go_sem,simprocAttr,itr,itq,f4,e2]
    exact key K2 _ _ _ _ _ _ _ _ _ _ _ _ _ _ _ _ _ _ _ _ _ _ _ _ _ _ _ _ _ _ _ _ _ _ _ _ _ _ _ _ _ _ _ _ _ _ _ _ _ _ _ _ _ _ _ _ _ _ _ _ _ _ _ _ _ _ _ _ _ _ _ _ _ _ _ _ _ _ _ _ _ _ _ a1 (by omega)
   ·rw [ho,Bool.not_true,Bool.false_and]
    simp -implicitDefEqProofs (maxSteps:=5000000) only [go_sem,simprocAttr,itr,itq,zAi,zAc]
    exact ⟨a1,exF2 rfl (by first | exact ⟨f4,.inr trivial⟩ | exact ⟨f4,.inr rfl⟩ | exact f4 | exact ⟨f4,trivial⟩)⟩
end
end Go.Proofs.Ythgflkfhjnbheaa.G14
end
section
namespace Go.Proofs.Ythgflkfhjnbheaa.G14
open Go Go.Proofs.Ythgflkfhjnbheaa.Eng
def lastW (L : List SnS) : Bool:=match L.getLast? with | none=>true | some s=>zFl s
section
variable {b s w a r : Int} {H : zAb} {vd vs vp : AV} {S : StS} (g : StA H vd vs vp S) (fi : FitS S)
include g fi
set_option maxHeartbeats 16000000 in
theorem rplanC (hm : S.snaps.length < 8 → lastW S.snaps = zHe S.snaps) : (envL prog).call 50 [.agg [.int .i64 b,.int .i64 s,.int .i64 w,.int .i64 a,.int .i64 r],.agg [vd,vs,.int .i64 S.next,.int .i64 S.kind,.int .i64 S.pid,vp]] H = some (.bool (zEh b a S),H):=by
 have cd:=IS.cell g.d
 have cc:=g.s.cell
 have cp:=g.p.cell
 have fl:=fi.s.1
 obtain ⟨H1,hH1⟩ : ∃ H1,H1 = H ++ [ABlk.rw [.int .i64 b,.int .i64 s,.int .i64 w,.int .i64 a,.int .i64 r],.rw [vd,vs,.int .i64 S.next,.int .i64 S.kind,.int .i64 S.pid,vp],.rw [.int .i64 S.kind,.int .i64 S.pid,vp]]:=⟨_,rfl⟩
 have A1 : Adds H H1:=⟨_,hH1⟩
 have c0 : cellsOf H1 H.length = some [.int .i64 b,.int .i64 s,.int .i64 w,.int .i64 a,.int .i64 r]:=by rw [hH1]; unfold cellsOf; simp
 have c1 : cellsOf H1 (H.length + 1) = some [vd,vs,.int .i64 S.next,.int .i64 S.kind,.int .i64 S.pid,vp]:=by rw [hH1]; unfold cellsOf; simp
 have c2 : cellsOf H1 (H.length + 2) = some [.int .i64 S.kind,.int .i64 S.pid,vp]:=by rw [hH1]; unfold cellsOf; simp
 have g1:=g.adds A1
 have wp:=g1.p.len
 have ws:=g1.s.len
 have hH1:=hH1.symm
 have key : Outs (runC (envL prog) (b50 (envL prog)) ([.agg [.int .i64 b,.int .i64 s,.int .i64 w,.int .i64 a,.int .i64 r],.agg [vd,vs,.int .i64 S.next,.int .i64 S.kind,.int .i64 S.pid,vp]] ++ List.replicate (137 - [AV.agg [.int .i64 b,.int .i64 s,.int .i64 w,.int .i64 a,.int .i64 r],.agg [vd,vs,.int .i64 S.next,.int .i64 S.kind,.int .i64 S.pid,vp]].length) .undef) H) fun e' t K=>Adds H K ∧ fin [.tmp 4] (some (e',t,K)) = some (.bool (zEh b a S),K):=by
  unfold b50
  generalize hQ : (fun (e' : Ex) (t : T) (K : zAb)=>Adds H K ∧ fin [.tmp 4] (some (e',t,K)) = some (AV.bool (zEh b a S),K)) = Q
  unfold zEh zM6 at hQ
  by_cases k0 : S.kind = 0
  ·have q0 : (S.kind == 0) = true:=by simp [k0]
   rw [if_pos k0] at hQ
   have wl:=len0 S.pairs
   rcases hz : (S.pid == 0) with _ | _ <;> rw [hz] at hQ
   ·rw [Bool.false_and,Bool.and_false] at hQ
    simp -implicitDefEqProofs (maxSteps:=5000000) only [go_sem,simprocAttr,itr,itq,zAe,cd.1,cd.2,cc.1,cc.2,cp.1,cp.2,hH1,c1,c2,q0,hz,zAc]
    subst hQ
    refine ⟨A1,?_⟩
    simp -implicitDefEqProofs (maxSteps:=5000000) only [go_sem,simprocAttr]
   ·rw [Bool.true_and] at hQ
    have e : (zD8 S.kind b a (atsS S.snaps) [] S.pairs && S.pairs.isEmpty) = S.pairs.isEmpty:=by
     cases S.pairs with
     | nil=>rfl
     | cons x l=>rw [List.isEmpty_cons,Bool.and_false]
    rw [e] at hQ
    simp -implicitDefEqProofs (maxSteps:=5000000) only [go_sem,simprocAttr,itr,itq,zAe,cd.1,cd.2,cc.1,cc.2,cp.1,cp.2,hH1,c1,c2,q0,hz,wp,wl,zAc]
    subst hQ
    refine ⟨A1,?_⟩
    simp -implicitDefEqProofs (maxSteps:=5000000) only [go_sem,simprocAttr]
  have q0 : (S.kind == 0) = false:=by simp [k0]
  rw [if_neg k0] at hQ
  by_cases k1 : S.kind = 1
  ·have q1 : (S.kind == 1) = true:=by simp [k1]
   rw [if_pos k1] at hQ
   have ec:=rcindexC g1.s fi.s S.pid
   by_cases h1 : 0 ≤ cidF S.pid 0 S.snaps
   case neg =>
    have d1 : decide (cidF S.pid 0 S.snaps < 0) = true:=decide_eq_true (by omega)
    rw [decide_eq_false h1,Bool.and_false] at hQ
    simp -implicitDefEqProofs (maxSteps:=5000000) only [go_sem,simprocAttr,itr,itq,zAe,cd.1,cd.2,cc.1,cc.2,cp.1,cp.2,hH1,c1,c2,q0,q1,ec,d1,zAc]
    subst hQ
    refine ⟨A1,?_⟩
    simp -implicitDefEqProofs (maxSteps:=5000000) only [go_sem,simprocAttr]
   have d1 : decide (cidF S.pid 0 S.snaps < 0) = false:=decide_eq_false (by omega)
   rw [decide_eq_true h1,Bool.and_true] at hQ
   have l1:=zRt g1 fi (.inl k1) c0 c1 c2 (m:=S.pairs.length) (i:=0) (K:=H1)
   rw [show ((0 : Nat) : Int) = 0 from rfl,List.drop_zero,List.take_zero] at l1
   simp -implicitDefEqProofs (maxSteps:=5000000) only [go_sem,simprocAttr,itr,itq,zAj,zAe,cd.1,cd.2,cc.1,cc.2,cp.1,cp.2,hH1,c1,c2,q0,q1,ec,d1]
   unfold LP1 at l1
   generalize (envL prog).loop (runC (envL prog) (l50x1 (envL prog))) = L0 at l1 ⊢
   refine zAq (fun r=>seqR (zAt 1 r) _) (l1 _ _ _ _ _ _ _ _ _ _ _ _ _ _ _ _ _ _ _ _ _ _ _ _ _ _ _ _ _ _ _ _ _ _ _ _ _ _ _ _ _ _ _ _ _ _ _ _ _ _ _ _ _ _ _ _ _ _ _ _ _ _ _ _ _ _ _ _ _ _ _ _ _ _ _ _ _ _ _ _ _ _ _ _ _ _ _ _ _ _ _ _ _ _ _ _ _ _ _ _ _ _ _ _ _ _ _ _ _ _ _ _ _ _ _ _ _ _ _ _ _ _ _ _ _ _ _ _ _ _ _ _ (Adds.refl H1) (by omega)) ?_
   rintro e t K ⟨aK,fv,rfl,f4,⟨rfl,ho⟩ | ⟨rfl,ho⟩⟩
   ·rw [ho] at hQ
    simp -implicitDefEqProofs (maxSteps:=5000000) only [go_sem,simprocAttr,zAc]
    subst hQ
    refine ⟨A1.trans aK,?_⟩
    simp -implicitDefEqProofs (maxSteps:=5000000) only [go_sem,simprocAttr]
   ·rw [ho] at hQ
    simp -implicitDefEqProofs (maxSteps:=5000000) only [go_sem,simprocAttr,zAc]
    subst hQ
    refine ⟨A1.trans aK,?_⟩
    simp -implicitDefEqProofs (maxSteps:=5000000) only [go_sem,simprocAttr,f4]
  have q1 : (S.kind == 1) = false:=by simp [k1]
  rw [if_neg k1] at hQ
  by_cases k2 : S.kind = 2
  case neg =>
   have q2 : (S.kind == 2) = false:=by simp [k2]
   rw [if_neg k2,Bool.and_false] at hQ
   simp -implicitDefEqProofs (maxSteps:=5000000) only [go_sem,simprocAttr,itr,itq,zAe,cd.1,cd.2,cc.1,cc.2,cp.1,cp.2,hH1,c1,c2,q0,q1,q2,zAc]
   subst hQ
   refine ⟨A1,?_⟩
   simp -implicitDefEqProofs (maxSteps:=5000000) only [go_sem,simprocAttr]
  have q2 : (S.kind == 2) = true:=by simp [k2]
  rw [if_pos k2] at hQ
  by_cases h1 : S.next ≤ S.pid
  case neg =>
   have d1 : decide (S.pid < S.next) = true:=decide_eq_true (by omega)
   rw [decide_eq_false h1,Bool.false_and,Bool.and_false] at hQ
   simp -implicitDefEqProofs (maxSteps:=5000000) only [go_sem,simprocAttr,itr,itq,zAe,cd.1,cd.2,cc.1,cc.2,cp.1,cp.2,hH1,c1,c2,q0,q1,q2,d1,zAc]
   subst hQ
   refine ⟨A1,?_⟩
   simp -implicitDefEqProofs (maxSteps:=5000000) only [go_sem,simprocAttr]
  have d1 : decide (S.pid < S.next) = false:=decide_eq_false (by omega)
  rw [decide_eq_true h1,Bool.true_and] at hQ
  by_cases h2 : S.pid ≤ 1000000
  case neg =>
   have d2 : decide (S.pid > 1000000) = true:=decide_eq_true (by omega)
   rw [decide_eq_false h2,Bool.false_and,Bool.and_false] at hQ
   simp -implicitDefEqProofs (maxSteps:=5000000) only [go_sem,simprocAttr,itr,itq,zAe,cd.1,cd.2,cc.1,cc.2,cp.1,cp.2,hH1,c1,c2,q0,q1,q2,d1,d2,zAc]
   subst hQ
   refine ⟨A1,?_⟩
   simp -implicitDefEqProofs (maxSteps:=5000000) only [go_sem,simprocAttr]
  have d2 : decide (S.pid > 1000000) = false:=decide_eq_false (by omega)
  rw [decide_eq_true h2,Bool.true_and] at hQ
  by_cases h8 : S.snaps.length < 8
  case neg =>
   have d8 : decide ((S.snaps.length : Int) ≥ 8) = true:=decide_eq_true (by omega)
   have e : zHe S.snaps = false:=by unfold zHe; rw [decide_eq_false h8,Bool.false_and]
   rw [e,Bool.and_false] at hQ
   simp -implicitDefEqProofs (maxSteps:=5000000) only [go_sem,simprocAttr,itr,itq,zAe,cd.1,cd.2,cc.1,cc.2,cp.1,cp.2,hH1,c1,c2,q0,q1,q2,d1,d2,ws,d8,zAc]
   subst hQ
   refine ⟨A1,?_⟩
   simp -implicitDefEqProofs (maxSteps:=5000000) only [go_sem,simprocAttr]
  have d8 : decide ((S.snaps.length : Int) ≥ 8) = false:=decide_eq_false (by omega)
  have ew : (envL prog).call 87 [vs] H1 = some (.bool (zHe S.snaps),H1):=by
   have:=wholeC g1.s fi.s
   rw [← hm h8]; exact this
  rcases hw : zHe S.snaps with _ | _ <;> rw [hw] at hQ ew
  ·rw [Bool.and_false] at hQ
   simp -implicitDefEqProofs (maxSteps:=5000000) only [go_sem,simprocAttr,itr,itq,zAe,cd.1,cd.2,cc.1,cc.2,cp.1,cp.2,hH1,c1,c2,q0,q1,q2,d1,d2,ws,d8,ew,zAc]
   subst hQ
   refine ⟨A1,?_⟩
   simp -implicitDefEqProofs (maxSteps:=5000000) only [go_sem,simprocAttr]
  ·rw [Bool.and_true] at hQ
   have l1:=zRt g1 fi (.inr k2) c0 c1 c2 (m:=S.pairs.length) (i:=0) (K:=H1)
   rw [show ((0 : Nat) : Int) = 0 from rfl,List.drop_zero,List.take_zero] at l1
   simp -implicitDefEqProofs (maxSteps:=5000000) only [go_sem,simprocAttr,itr,itq,zAj,zAe,cd.1,cd.2,cc.1,cc.2,cp.1,cp.2,hH1,c1,c2,q0,q1,q2,d1,d2,ws,d8,ew]
   unfold LP1 at l1
   generalize (envL prog).loop (runC (envL prog) (l50x1 (envL prog))) = L0 at l1 ⊢
   refine zAq (fun r=>seqR (zAt 1 r) _) (l1 _ _ _ _ _ _ _ _ _ _ _ _ _ _ _ _ _ _ _ _ _ _ _ _ _ _ _ _ _ _ _ _ _ _ _ _ _ _ _ _ _ _ _ _ _ _ _ _ _ _ _ _ _ _ _ _ _ _ _ _ _ _ _ _ _ _ _ _ _ _ _ _ _ _ _ _ _ _ _ _ _ _ _ _ _ _ _ _ _ _ _ _ _ _ _ _ _ _ _ _ _ _ _ _ _ _ _ _ _ _ _ _ _ _ _ _ _ _ _ _ _ _ _ _ _ _ _ _ _ _ _ _ (Adds.refl H1) (by omega)) ?_
   rintro e t K ⟨aK,fv,rfl,f4,⟨rfl,ho⟩ | ⟨rfl,ho⟩⟩
   ·rw [ho] at hQ
    simp -implicitDefEqProofs (maxSteps:=5000000) only [go_sem,simprocAttr,zAc]
    subst hQ
    refine ⟨A1.trans aK,?_⟩
    simp -implicitDefEqProofs (maxSteps:=5000000) only [go_sem,simprocAttr]
   ·rw [ho] at hQ
    simp -implicitDefEqProofs (maxSteps:=5000000) only [go_sem,simprocAttr,zAc]
    subst hQ
    refine ⟨A1.trans aK,?_⟩
    simp -implicitDefEqProofs (maxSteps:=5000000) only [go_sem,simprocAttr,f4]
 obtain ⟨e',t,K,hr,aK,hf⟩:=key
 rw [c50,hr,hf]; exact aK.trimS rfl
end
end Go.Proofs.Ythgflkfhjnbheaa.G14
end
section
namespace Go.Proofs.Ythgflkfhjnbheaa.G14
open Go Go.Proofs.Ythgflkfhjnbheaa.Eng
theorem zPs {bl ar : Int} {L : List SnS} (G : GoodC bl ar L) (h8 : L.length < 8) : lastW L = zHe L:=by
 unfold lastW zHe
 rw [decide_eq_true h8,Bool.true_and]
 cases hl : L.getLast? with
 | none=>rfl
 | some s =>
  have hs:=List.mem_of_getLast? hl
  have o:=G.one s hs
  have:=zOm o.tb.up o.u8 (List.all_eq_true.2 fun p hp=>o.sub p hp)
  show zFl s = (Bt.sumO s.ch == (s.tb.length : Int))
  unfold zFl
  simp only [any_idx]
  rw [← this]
  exact Bool.beq_comm
theorem zSs {bl ar : Int} {S : StS} (G : GoodC bl ar S.snaps) : (S.snaps.all fun s=>decide (s.id < S.next)) = zM5 S:=by
 unfold zM5
 have up:=G.up
 rw [List.pairwise_map] at up
 cases hl : S.snaps.getLast? with
 | none=>rw [List.getLast?_eq_none_iff.1 hl]; rfl
 | some s =>
  obtain ⟨A,hA⟩:=List.getLast?_eq_some_iff.1 hl
  rw [hA,List.pairwise_append] at up
  rw [hA,List.all_append]
  show (A.all _ && (decide (s.id < S.next) && true)) = decide (s.id < S.next)
  by_cases h : s.id < S.next
  ·rw [decide_eq_true h,Bool.and_true,Bool.and_true,List.all_eq_true]
   intro x hx
   have:=up.2.2 x hx s (by simp)
   simp; omega
  ·rw [decide_eq_false h,Bool.false_and,Bool.and_false]
section
variable {b s w a r : Int} {H : zAb} {vd vs vp : AV} {S : StS} (g : StA H vd vs vp S) (fi : FitS S) (lD : S.dirty.length ≤ 9223372036854775807)
include g fi lD
set_option maxHeartbeats 16000000 in
theorem zRb : (envL prog).call 15 [.agg [.int .i64 b,.int .i64 s,.int .i64 w,.int .i64 a,.int .i64 r],.agg [vd,vs,.int .i64 S.next,.int .i64 S.kind,.int .i64 S.pid,vp]] H = some (.bool (Gm.goodB b s w a r && zCt b s w a S),H):=by
 have cd:=IS.cell g.d
 have cc:=g.s.cell
 have cp:=g.p.cell
 have fl:=fi.s.1
 have eg:=Gm.goodL b s w a r
 unfold Gm.geo at eg
 rw [c15]
 unfold b15
 obtain ⟨H1,hH1⟩ : ∃ H1,H1 = H ++ [ABlk.rw [.int .i64 b,.int .i64 s,.int .i64 w,.int .i64 a,.int .i64 r],.rw [vd,vs,.int .i64 S.next,.int .i64 S.kind,.int .i64 S.pid,vp]]:=⟨_,rfl⟩
 have A1 : Adds H H1:=⟨_,hH1⟩
 have c0 : cellsOf H1 H.length = some [.int .i64 b,.int .i64 s,.int .i64 w,.int .i64 a,.int .i64 r]:=by rw [hH1]; unfold cellsOf; simp
 have c1 : cellsOf H1 (H.length + 1) = some [vd,vs,.int .i64 S.next,.int .i64 S.kind,.int .i64 S.pid,vp]:=by rw [hH1]; unfold cellsOf; simp
 have g1:=g.adds A1
 have tr : ∀ x : Bool,trim H (some (.bool x,H1)) = some (.bool x,H):=fun x=>A1.trimS rfl
 have hH1:=hH1.symm
 rcases hg : Gm.goodB b s w a r with _ | _ <;> rw [hg] at eg
 ·rw [Bool.false_and]
  simp -implicitDefEqProofs (maxSteps:=5000000) only [go_sem,simprocAttr,itr,itq,zAe,cd.1,cd.2,cc.1,cc.2,cp.1,cp.2,hH1,c0,c1,eg,tr]
 rw [Bool.true_and]
 have gg:=zF5 hg
 have ed:=dirtyC gg (r:=r) g1.d lD g1.ok
 unfold zCt
 rcases hd : zGc b s w S.dirty with _ | _ <;> rw [hd] at ed
 ·rw [Bool.false_and]
  simp -implicitDefEqProofs (maxSteps:=5000000) only [go_sem,simprocAttr,itr,itq,zAe,cd.1,cd.2,cc.1,cc.2,cp.1,cp.2,hH1,c0,c1,eg,ed,tr]
 rw [Bool.true_and]
 have ec:=cgoodC g1.s fi.s (bl:=b) (by have:=gg.b1; omega) a
 rcases hc : zEz S.snaps b a with _ | _ <;> rw [hc] at ec
 ·rw [Bool.false_and]
  simp -implicitDefEqProofs (maxSteps:=5000000) only [go_sem,simprocAttr,itr,itq,zAe,cd.1,cd.2,cc.1,cc.2,cp.1,cp.2,hH1,c0,c1,eg,ed,ec,tr]
 rw [Bool.true_and]
 by_cases n1 : 1 ≤ S.next
 case neg =>
  have d1 : decide (S.next < 1) = true:=decide_eq_true (by omega)
  rw [decide_eq_false n1,Bool.false_and]
  simp -implicitDefEqProofs (maxSteps:=5000000) only [go_sem,simprocAttr,itr,itq,zAe,cd.1,cd.2,cc.1,cc.2,cp.1,cp.2,hH1,c0,c1,eg,ed,ec,d1,tr]
 have d1 : decide (S.next < 1) = false:=decide_eq_false (by omega)
 rw [decide_eq_true n1,Bool.true_and]
 by_cases n2 : S.next ≤ 1000001
 case neg =>
  have d2 : decide (S.next > 1000001) = true:=decide_eq_true (by omega)
  rw [decide_eq_false n2,Bool.false_and]
  simp -implicitDefEqProofs (maxSteps:=5000000) only [go_sem,simprocAttr,itr,itq,zAe,cd.1,cd.2,cc.1,cc.2,cp.1,cp.2,hH1,c0,c1,eg,ed,ec,d1,d2,tr]
 have d2 : decide (S.next > 1000001) = false:=decide_eq_false (by omega)
 rw [decide_eq_true n2,Bool.true_and]
 have ep:=planC (b:=b) (s:=s) (w:=w) (a:=a) (r:=r) g1 fi
 have ws:=g1.s.len
 unfold zM5
 by_cases h0 : S.snaps.length = 0
 ·have d0 : decide ((S.snaps.length : Int) > 0) = false:=decide_eq_false (by omega)
  have : S.snaps.getLast? = none:=by rw [List.eq_nil_of_length_eq_zero h0]; rfl
  rw [this]
  simp -implicitDefEqProofs (maxSteps:=5000000) only [go_sem,simprocAttr,itr,itq,zAe,cd.1,cd.2,cc.1,cc.2,cp.1,cp.2,hH1,c0,c1,eg,ed,ec,d1,d2,ws,d0,ep,tr]
 have d0 : decide ((S.snaps.length : Int) > 0) = true:=decide_eq_true (by omega)
 have hx:=List.getElem?_eq_getElem (show S.snaps.length - 1 < S.snaps.length by omega)
 rw [show S.snaps.getLast? = S.snaps[S.snaps.length - 1]? from List.getLast?_eq_getElem?,hx]
 generalize S.snaps[S.snaps.length - 1] = x at *
 show _ = some (AV.bool (decide (x.id < S.next) && zEh b a S),H)
 obtain ⟨bb,cs,vc,vt,sb,ix,hcc,h1,h2,h3,ht,hle,hbs,hip⟩:=g1.s.idx hx
 have w1 : IntKind.i64.wrap ((S.snaps.length : Int) - 1) = ((S.snaps.length - 1 : Nat) : Int):=by rw [zAl (by omega) (by omega)]; omega
 by_cases h : x.id < S.next
 ·have d3 : decide (x.id ≥ S.next) = false:=decide_eq_false (by omega)
  rw [decide_eq_true h,Bool.true_and]
  simp -implicitDefEqProofs (maxSteps:=5000000) only [go_sem,simprocAttr,itr,itq,zAe,cd.1,cd.2,cc.1,cc.2,cp.1,cp.2,hH1,c0,c1,eg,ed,ec,d1,d2,ws,d0,w1,ix,hcc,h1,d3,ep,tr]
 ·have d3 : decide (x.id ≥ S.next) = true:=decide_eq_true (by omega)
  rw [decide_eq_false h,Bool.false_and]
  simp -implicitDefEqProofs (maxSteps:=5000000) only [go_sem,simprocAttr,itr,itq,zAe,cd.1,cd.2,cc.1,cc.2,cp.1,cp.2,hH1,c0,c1,eg,ed,ec,d1,d2,ws,d0,w1,ix,hcc,h1,d3,ep,tr]
set_option maxHeartbeats 4000000 in
theorem rsgoodL0 {p3 : Nat} (h3 : cellsOf H p3 = some [vd,vs,.int .i64 S.next,.int .i64 S.kind,.int .i64 S.pid,vp]) (x0 x1 x2 x6 x7 x8 x9 x10 x11 x12 x13 x14 x15 x16 x17 x18 x19 x20 x21 x22 x23 x24 x25 x26 x27 x28 x29 x30 x31 x32 x33 x34 x35 x52 x53 x54 : AV) : ∀ (m i : Nat) (j36 j37 j38 j39 j40 j41 j42 j43 j44 j45 j46 j47 j48 j49 j50 j51 : AV),i + m = S.snaps.length →
  Outs (LP1 l16x0 [x0,x1,x2,.ptr p3 0,.bool false,.int .i64 (i : Int),x6,x7,x8,x9,x10,x11,x12,x13,x14,x15,x16,x17,x18,x19,x20,x21,x22,x23,x24,x25,x26,x27,x28,x29,x30,x31,x32,x33,x34,x35,j36,j37,j38,j39,j40,j41,j42,j43,j44,j45,j46,j47,j48,j49,j50,j51,x52,x53,x54] H) fun e t K=>K = H ∧ ∃ fv : Nat → AV,t = [x0,x1,x2,.ptr p3 0,(fv 4),(fv 5),x6,x7,x8,x9,x10,x11,x12,x13,x14,x15,x16,x17,x18,x19,x20,x21,x22,x23,x24,x25,x26,x27,x28,x29,x30,x31,x32,x33,x34,x35,(fv 36),(fv 37),(fv 38),(fv 39),(fv 40),(fv 41),(fv 42),(fv 43),(fv 44),(fv 45),(fv 46),(fv 47),(fv 48),(fv 49),(fv 50),(fv 51),x52,x53,x54] ∧ fv 4 = .bool false ∧ ((e = .exit 0 ∧ (S.snaps.drop i).all (fun s=>decide (s.id < S.next)) = true) ∨ (e = .ret ∧ (S.snaps.drop i).all (fun s=>decide (s.id < S.next)) = false)):=by
 intro m
 obtain ⟨L0,hL0⟩ : ∃ L,L = LP1 l16x0:=⟨_,rfl⟩
 have lo:=zAr hL0
 have wl:=g.s.len
 have fl:=fi.s.1
 rw [← hL0]
 induction m with
 | zero =>
  intro i j36 j37 j38 j39 j40 j41 j42 j43 j44 j45 j46 j47 j48 j49 j50 j51 hi
  obtain rfl : i = S.snaps.length:=by omega
  have hd : decide ((S.snaps.length : Int) < (S.snaps.length : Int)) = false:=by simp
  rw [lo,List.drop_length]
  unfold l16x0
  simp -implicitDefEqProofs (maxSteps:=5000000) only [go_sem,simprocAttr,itr,itq,h3,wl,hd,zAh,zAc]
  exact exF2 rfl (by first | exact ⟨rfl,.inl rfl⟩ | exact ⟨rfl,trivial⟩ | rfl | exact ⟨rfl,.inl trivial⟩)
 | succ m ih =>
  intro i j36 j37 j38 j39 j40 j41 j42 j43 j44 j45 j46 j47 j48 j49 j50 j51 hi
  have hlt : i < S.snaps.length:=by omega
  have hd : decide ((i : Int) < (S.snaps.length : Int)) = true:=decide_eq_true (by omega)
  have e2 : IntKind.i64.wrap ((i : Int) + 1) = ((i + 1 : Nat) : Int):=by rw [zAl (by omega) (by omega)]; omega
  have hy:=List.getElem?_eq_getElem hlt
  rw [List.drop_eq_getElem_cons hlt,List.all_cons]
  generalize S.snaps[i] = x at *
  obtain ⟨bb,cs,vc,vt,sb,ix,hcc,h1,h2,h3',ht,hle,hbs,hip⟩:=g.s.idx hy
  have key:=ih (i + 1)
  rw [lo]
  unfold l16x0
  by_cases h : x.id < S.next
  ·have d3 : decide (x.id ≥ S.next) = false:=decide_eq_false (by omega)
   rw [decide_eq_true h,Bool.true_and]
   simp -implicitDefEqProofs (maxSteps:=5000000) only [go_sem,simprocAttr,itr,itq,h3,wl,hd,ix,hcc,h1,d3,e2]
   exact key _ _ _ _ _ _ _ _ _ _ _ _ _ _ _ _ (by omega)
  ·have d3 : decide (x.id ≥ S.next) = true:=decide_eq_true (by omega)
   rw [decide_eq_false h,Bool.false_and]
   simp -implicitDefEqProofs (maxSteps:=5000000) only [go_sem,simprocAttr,itr,itq,h3,wl,hd,ix,hcc,h1,d3,zAi,zAc]
   exact exF2 rfl (by first | exact ⟨rfl,.inr rfl⟩ | exact ⟨rfl,trivial⟩ | rfl | exact ⟨rfl,.inr trivial⟩)
set_option maxHeartbeats 16000000 in
theorem rsgoodC : (envL prog).call 16 [.agg [.int .i64 b,.int .i64 s,.int .i64 w,.int .i64 a,.int .i64 r],.agg [vd,vs,.int .i64 S.next,.int .i64 S.kind,.int .i64 S.pid,vp]] H = some (.bool (Gm.goodB b s w a r && zCt b s w a S),H):=by
 have cd:=IS.cell g.d
 have cc:=g.s.cell
 have cp:=g.p.cell
 have fl:=fi.s.1
 have eg:=Gm.goodR b s w a r
 unfold Gm.geo at eg
 obtain ⟨H1,hH1⟩ : ∃ H1,H1 = H ++ [ABlk.rw [.int .i64 b,.int .i64 s,.int .i64 w,.int .i64 a,.int .i64 r],.rw [vd,vs,.int .i64 S.next,.int .i64 S.kind,.int .i64 S.pid,vp]]:=⟨_,rfl⟩
 have A1 : Adds H H1:=⟨_,hH1⟩
 have c0 : cellsOf H1 H.length = some [.int .i64 b,.int .i64 s,.int .i64 w,.int .i64 a,.int .i64 r]:=by rw [hH1]; unfold cellsOf; simp
 have c1 : cellsOf H1 (H.length + 1) = some [vd,vs,.int .i64 S.next,.int .i64 S.kind,.int .i64 S.pid,vp]:=by rw [hH1]; unfold cellsOf; simp
 have g1:=g.adds A1
 have tr : ∀ x : Bool,trim H (some (.bool x,H1)) = some (.bool x,H):=fun x=>A1.trimS rfl
 have hH1:=hH1.symm
 rcases hg : Gm.goodB b s w a r with _ | _ <;> rw [hg] at eg
 ·rw [Bool.false_and,c16]
  unfold b16
  simp -implicitDefEqProofs (maxSteps:=5000000) only [go_sem,simprocAttr,itr,itq,zAe,cd.1,cd.2,cc.1,cc.2,cp.1,cp.2,hH1,c0,c1,eg,tr]
 rw [Bool.true_and]
 have gg:=zF5 hg
 have ed:=rdirtyC gg (r:=r) g1.d lD
 unfold zCt
 rcases hd : zGc b s w S.dirty with _ | _ <;> rw [hd] at ed
 ·rw [Bool.false_and,c16]
  unfold b16
  simp -implicitDefEqProofs (maxSteps:=5000000) only [go_sem,simprocAttr,itr,itq,zAe,cd.1,cd.2,cc.1,cc.2,cp.1,cp.2,hH1,c0,c1,eg,ed,tr]
 rw [Bool.true_and]
 have ec:=rcgood g1.s fi.s (bl:=b) (by have:=gg.b1; omega) a
 rcases hc : zEz S.snaps b a with _ | _ <;> rw [hc] at ec
 ·rw [Bool.false_and,c16]
  unfold b16
  simp -implicitDefEqProofs (maxSteps:=5000000) only [go_sem,simprocAttr,itr,itq,zAe,cd.1,cd.2,cc.1,cc.2,cp.1,cp.2,hH1,c0,c1,eg,ed,ec,tr]
 rw [Bool.true_and]
 have G:=((zGg fun x hx=>(fi.s.2 x hx).u8).1 hc).2
 by_cases n1 : 1 ≤ S.next
 case neg =>
  have d1 : decide (S.next < 1) = true:=decide_eq_true (by omega)
  rw [decide_eq_false n1,Bool.false_and,c16]
  unfold b16
  simp -implicitDefEqProofs (maxSteps:=5000000) only [go_sem,simprocAttr,itr,itq,zAe,cd.1,cd.2,cc.1,cc.2,cp.1,cp.2,hH1,c0,c1,eg,ed,ec,d1,tr]
 have d1 : decide (S.next < 1) = false:=decide_eq_false (by omega)
 rw [decide_eq_true n1,Bool.true_and]
 by_cases n2 : S.next ≤ 1000001
 case neg =>
  have d2 : decide (S.next > 1000001) = true:=decide_eq_true (by omega)
  rw [decide_eq_false n2,Bool.false_and,c16]
  unfold b16
  simp -implicitDefEqProofs (maxSteps:=5000000) only [go_sem,simprocAttr,itr,itq,zAe,cd.1,cd.2,cc.1,cc.2,cp.1,cp.2,hH1,c0,c1,eg,ed,ec,d1,d2,tr]
 have d2 : decide (S.next > 1000001) = false:=decide_eq_false (by omega)
 rw [decide_eq_true n2,Bool.true_and]
 have ep:=rplanC (b:=b) (s:=s) (w:=w) (a:=a) (r:=r) g1 fi fun h8=>zPs G h8
 have l0:=rsgoodL0 g1 fi lD c1 (m:=S.snaps.length) (i:=0)
 rw [show ((0 : Nat) : Int) = 0 from rfl,List.drop_zero,zSs G] at l0
 generalize zM5 S = ls at *
 have key : Outs (runC (envL prog) (b16 (envL prog)) ([.agg [.int .i64 b,.int .i64 s,.int .i64 w,.int .i64 a,.int .i64 r],.agg [vd,vs,.int .i64 S.next,.int .i64 S.kind,.int .i64 S.pid,vp]] ++ List.replicate (55 - [AV.agg [.int .i64 b,.int .i64 s,.int .i64 w,.int .i64 a,.int .i64 r],.agg [vd,vs,.int .i64 S.next,.int .i64 S.kind,.int .i64 S.pid,vp]].length) .undef) H) fun e' t K=>K = H1 ∧ fin [.tmp 4] (some (e',t,K)) = some (.bool (ls && zEh b a S),K):=by
  unfold b16
  generalize hQ : (fun (e' : Ex) (t : T) (K : zAb)=>K = H1 ∧ fin [.tmp 4] (some (e',t,K)) = some (AV.bool (ls && zEh b a S),K)) = Q
  simp -implicitDefEqProofs (maxSteps:=5000000) only [go_sem,simprocAttr,itr,itq,zAj,zAe,cd.1,cd.2,cc.1,cc.2,cp.1,cp.2,hH1,c0,c1,eg,ed,ec,d1,d2]
  unfold LP1 at l0
  generalize (envL prog).loop (runC (envL prog) (l16x0 (envL prog))) = L0 at l0 ⊢
  refine zAq (fun r=>seqR (zAt 0 r) _) (l0 _ _ _ _ _ _ _ _ _ _ _ _ _ _ _ _ _ _ _ _ _ _ _ _ _ _ _ _ _ _ _ _ _ _ _ _ _ _ _ _ _ _ _ _ _ _ _ _ _ _ _ _ (by omega)) ?_
  rintro e t K ⟨rfl,fv,rfl,f4,⟨rfl,ho⟩ | ⟨rfl,ho⟩⟩
  ·rw [ho,Bool.true_and] at hQ
   simp -implicitDefEqProofs (maxSteps:=5000000) only [go_sem,simprocAttr,itr,itq,c0,c1,ep,zAc]
   subst hQ
   refine ⟨rfl,?_⟩
   simp -implicitDefEqProofs (maxSteps:=5000000) only [go_sem,simprocAttr]
  ·rw [ho,Bool.false_and] at hQ
   simp -implicitDefEqProofs (maxSteps:=5000000) only [go_sem,simprocAttr,zAc]
   subst hQ
   refine ⟨rfl,?_⟩
   simp -implicitDefEqProofs (maxSteps:=5000000) only [go_sem,simprocAttr,f4]
 obtain ⟨e',t,K,hr,rfl,hf⟩:=key
 rw [c16,hr,hf]; exact tr _
end
end Go.Proofs.Ythgflkfhjnbheaa.G14
end
section
namespace Go.Proofs.Ythgflkfhjnbheaa.G14
open Go Go.Proofs.Ythgflkfhjnbheaa.Eng
def markV (p : PrS) : Int:=if p.2 = 255 then 255 else u8w (p.2 + 1)
theorem zPr (z : List Int) (p : PrS) (l : List PrS) : zD9 z (p :: l) = zD9 (z.set p.1.toNat (markV p)) l:=rfl
def Mrk (n : Nat) (l : List PrS) : Prop:=∀ p ∈ l,(0 ≤ p.1 ∧ p.1 < (n : Int)) ∧ 0 ≤ p.2 ∧ p.2 ≤ 1000000
section
variable {H : zAb} {v : AV} {l : List PrS} {n : Nat} (g : IsP H v l) (ll : l.length ≤ 1000) (ok : Mrk n l) (hn : n ≤ 1000)
include g ll ok hn
set_option maxHeartbeats 8000000 in
theorem marksL (x0 x1 x2 x3 x4 x6 x8 x9 x32 : AV) : ∀ (m i : Nat) (K : zAb) (z : List Int) (j7 j13 j14 j15 j16 j17 j18 j19 j20 j21 j22 j23 j24 j25 j26 j27 j28 j29 j30 j31 : AV),Adds H K → K[H.length]? = some (.rw (u8s z)) → z.length = n → i + m = l.length →
  Outs (LP1 l27x0 [x0,x1,x2,x3,x4,.sl H.length 0 1 n n true,x6,j7,x8,x9,v,.int .i64 (l.length : Int),.int .i64 (i : Int),j13,j14,j15,j16,j17,j18,j19,j20,j21,j22,j23,j24,j25,j26,j27,j28,j29,j30,j31,x32] K) fun e t K'=>e = .exit 0 ∧ (Adds H K' ∧ K'[H.length]? = some (.rw (u8s (zD9 z (l.drop i))))) ∧ ∃ fv : Nat → AV,t = [x0,x1,x2,x3,x4,.sl H.length 0 1 n n true,x6,(fv 7),x8,x9,v,.int .i64 (l.length : Int),(fv 12),(fv 13),(fv 14),(fv 15),(fv 16),(fv 17),(fv 18),(fv 19),(fv 20),(fv 21),(fv 22),(fv 23),(fv 24),(fv 25),(fv 26),(fv 27),(fv 28),(fv 29),(fv 30),(fv 31),x32]:=by
 intro m
 obtain ⟨L0,hL0⟩ : ∃ L,L = LP1 l27x0:=⟨_,rfl⟩
 have lo:=zAr hL0
 rw [← hL0]
 induction m with
 | zero =>
  intro i K z j7 j13 j14 j15 j16 j17 j18 j19 j20 j21 j22 j23 j24 j25 j26 j27 j28 j29 j30 j31 aK hb hz hi
  obtain rfl : i = l.length:=by omega
  have hd : decide ((l.length : Int) < (l.length : Int)) = false:=by simp
  rw [lo,List.drop_length]
  unfold l27x0
  simp -implicitDefEqProofs (maxSteps:=5000000) only [go_sem,simprocAttr,hd,zAh,zAc]
  exact ⟨⟨aK,hb⟩,exF rfl⟩
 | succ m ih =>
  intro i K z j7 j13 j14 j15 j16 j17 j18 j19 j20 j21 j22 j23 j24 j25 j26 j27 j28 j29 j30 j31 aK hb hz hi
  have hlt : i < l.length:=by omega
  have hd : decide ((i : Int) < (l.length : Int)) = true:=decide_eq_true (by omega)
  have e2 : IntKind.i64.wrap ((i : Int) + 1) = ((i + 1 : Nat) : Int):=by rw [zAl (by omega) (by omega)]; omega
  have hx:=List.getElem?_eq_getElem hlt
  have hm:=ok _ (List.getElem_mem hlt)
  rw [List.drop_eq_getElem_cons hlt,zPr]
  generalize l[i] = p at *
  obtain ⟨b2,c2,_,ix,hc0,r1,r2,ht,hle⟩:=g.idx hx
  unfold prC at ht
  have hc:=aK.cells hc0
  obtain ⟨k,hk⟩ : ∃ k : Nat,p.1 = k:=⟨p.1.toNat,by omega⟩
  have kn : k < n:=by omega
  obtain ⟨K1,hK1⟩ : ∃ K1,K1 = K ++ [ABlk.rw [.int .i64 p.1,.int .i64 p.2]]:=⟨_,rfl⟩
  have A1 : Adds K K1:=⟨_,hK1⟩
  have lH:=zBb hb
  have cq : cellsOf K1 K.length = some [.int .i64 p.1,.int .i64 p.2]:=by rw [hK1]; unfold cellsOf; simp
  have hb1:=A1.at hb
  have ia:=zFg H.length 1 n n k true .i64 (by omega) kn
  rw [Nat.mul_one,← hk] at ia
  have w1 : IntKind.i64.wrap (p.2 + 1) = p.2 + 1:=zAl (by omega) (by omega)
  have wr : zA4 K1 H.length k [.int .u8 (u8w (p.2 + 1))] = some (K1.set H.length (.rw (u8s (z.set k (u8w (p.2 + 1)))))):=by
   rw [zA5 hb1,if_pos ⟨by rw [zDt,hz]; simp; omega,rfl⟩,zBq,zQy]
  have cq2 : cellsOf (K1.set H.length (.rw (u8s (z.set k (u8w (p.2 + 1)))))) K.length = some [.int .i64 p.1,.int .i64 p.2]:=by rw [zHa _ _ _ _ (by omega)]; exact cq
  have hb2 : (K1.set H.length (.rw (u8s (z.set k (u8w (p.2 + 1))))))[H.length]? = some (.rw (u8s (z.set k (u8w (p.2 + 1))))):=zBf _ _ _ (by have:=A1.len; omega)
  have aw : ∀ X,Adds H (K1.set H.length X):=fun X=>(Fr.set (F:=(· = H.length)) K1 X rfl).old (aK.trans A1) fun x hx h=>by omega
  have uw : IntKind.u8.wrap (p.2 + 1) = u8w (p.2 + 1):=rfl
  have tk : p.1.toNat = k:=by omega
  have hK1:=hK1.symm
  rw [lo,tk]
  unfold l27x0
  unfold markV
  by_cases h : p.2 = 255
  ·have he : (p.2 == 255) = true:=by simp [h]
   have wr2 : zA4 (K1.set H.length (.rw (u8s (z.set k (u8w (p.2 + 1)))))) H.length k [.int .u8 255] = some (K1.set H.length (.rw (u8s (z.set k 255)))):=by
    rw [zA5 hb2,if_pos ⟨by rw [zDt,List.length_set,hz]; simp; omega,rfl⟩,zBq,zQy,List.set_set,List.set_set]
   have key:=ih (i + 1) (K1.set H.length (.rw (u8s (z.set k 255)))) (z.set k 255)
   rw [if_pos h]
   simp -implicitDefEqProofs (maxSteps:=5000000) only [go_sem,simprocAttr,itr,itq,hd,ix,hc,ht,hle,hK1,cq,w1,uw,ia,zBa,wr,cq2,he,wr2,e2]
   exact key _ _ _ _ _ _ _ _ _ _ _ _ _ _ _ _ _ _ _ _ (aw _) (zBf _ _ _ (by have:=A1.len; omega)) (by rw [List.length_set]; exact hz) (by omega)
  ·have he : (p.2 == 255) = false:=by simp [h]
   have key:=ih (i + 1) (K1.set H.length (.rw (u8s (z.set k (u8w (p.2 + 1)))))) (z.set k (u8w (p.2 + 1)))
   rw [if_neg h]
   simp -implicitDefEqProofs (maxSteps:=5000000) only [go_sem,simprocAttr,itr,itq,hd,ix,hc,ht,hle,hK1,cq,w1,uw,ia,zBa,wr,cq2,he,e2]
   exact key _ _ _ _ _ _ _ _ _ _ _ _ _ _ _ _ _ _ _ _ (aw _) hb2 (by rw [List.length_set]; exact hz) (by omega)
theorem mk_zero (H : zAb) : zBy (ty 1 false 1 [AV.int .u8 0]) (.int .i64 (n : Int)) (.int .i64 (n : Int)) H = some (.sl H.length 0 1 n n true,H ++ [.rw (u8s (List.replicate n 0))]):=by
 rw [zLp 1 1 n false [.int .u8 0] (by omega) (by omega) (by unfold roomy; omega)]
 unfold u8s
 simp [List.map_replicate]
set_option maxHeartbeats 4000000 in
theorem marksC : ∃ w K,(envL prog).call 27 [v,.int .i64 (n : Int)] H = some (w,K) ∧ Adds H K ∧ BS K w (zBv n l):=by
 have wl:=g.len
 have mk:=mk_zero g ll ok hn H
 obtain ⟨H1,hH1⟩ : ∃ H1,H1 = H ++ [ABlk.rw (u8s (List.replicate n 0))]:=⟨_,rfl⟩
 have A1 : Adds H H1:=⟨_,hH1⟩
 have l0:=marksL g ll ok hn (m:=l.length) (i:=0) (K:=H1) (z:=List.replicate n 0)
 rw [show ((0 : Nat) : Int) = 0 from rfl,List.drop_zero] at l0
 have hH1':=hH1.symm
 have key : Outs (runC (envL prog) (b27 (envL prog)) ([v,.int .i64 (n : Int)] ++ List.replicate (33 - [v,AV.int .i64 (n : Int)].length) .undef) H) fun e' t K=>(Adds H K ∧ K[H.length]? = some (.rw (u8s (zD9 (List.replicate n 0) l)))) ∧ fin [.tmp 4] (some (e',t,K)) = some (.sl H.length 0 1 n n true,K):=by
  unfold b27
  generalize hQ : (fun (e' : Ex) (t : T) (K : zAb)=>(Adds H K ∧ K[H.length]? = some (.rw (u8s (zD9 (List.replicate n 0) l)))) ∧ fin [.tmp 4] (some (e',t,K)) = some (AV.sl H.length 0 1 n n true,K)) = Q
  simp -implicitDefEqProofs (maxSteps:=5000000) only [go_sem,simprocAttr,itr,itq,zAj,mk,hH1',wl]
  unfold LP1 at l0
  generalize (envL prog).loop (runC (envL prog) (l27x0 (envL prog))) = L0 at l0 ⊢
  refine zAq (fun r=>seqR (zAt 0 r) _) (l0 _ _ _ _ _ _ _ _ _ _ _ _ _ _ _ _ _ _ _ _ _ _ _ _ _ _ _ _ _ A1 (by rw [hH1]; simp) (by simp) (by omega)) ?_
  rintro e t K ⟨rfl,hK,fv,rfl⟩
  simp -implicitDefEqProofs (maxSteps:=5000000) only [go_sem,simprocAttr,zAc]
  subst hQ
  refine ⟨hK,?_⟩
  simp -implicitDefEqProofs (maxSteps:=5000000) only [go_sem,simprocAttr]
 obtain ⟨e',t,K,hr,⟨aK,hb⟩,hf⟩:=key
 refine ⟨.sl H.length 0 1 n n true,K,?_,aK,?_⟩
 ·rw [c27,hr,hf]; exact zA9 (by simp [AV.under])
 ·have:=BS.block (l:=n) (e:=true) hb
  rw [zH4,List.length_replicate] at this
  unfold zBv
  rw [Int.toNat_natCast]; exact this
end
end Go.Proofs.Ythgflkfhjnbheaa.G14
end
section
namespace Go.Proofs.Ythgflkfhjnbheaa.G14
open Go Go.Proofs.Ythgflkfhjnbheaa.Eng
theorem zTs {K : zAb} {a : Nat} (vs : List (AV × List Int)) (ha : cellsOf K a = some (vs.map (·.1))) (hv : ∀ x ∈ vs,BS K x.1 x.2) (hl : (vs.map (·.2)).flatten.length ≤ 1000000) (hn : vs.length ≤ 100) : ∃ l K',(envL prog).call 24 [.sl a 0 1 vs.length vs.length true] K = some (l,K') ∧ Adds K K' ∧ GB K' K.length l (vs.map (·.2)).flatten:=by
 obtain ⟨Xs,hXs⟩ : ∃ Xs : List (AV × Nat × List AV),Xs = vs.map fun x=>(x.1,x.2.length,u8s x.2):=⟨_,rfl⟩
 have lx : Xs.length = vs.length:=by rw [hXs,List.length_map]
 have et : totU Xs = (vs.map (·.2)).flatten.length:=by
  rw [hXs]; unfold totU
  rw [List.length_flatten,List.map_map,List.map_map]
  congr 1
 have ec : catU Xs = u8s (vs.map (·.2)).flatten:=by
  rw [hXs]; unfold catU u8s
  rw [List.map_map,List.map_flatten,List.map_map]
  rfl
 obtain ⟨l,K',ho,e⟩:=concatU (H:=K) (a:=a) (Xs:=Xs) (by rw [ha,hXs,List.map_map]; rfl) (fun x hx=>by
  rw [hXs] at hx
  obtain ⟨y,hy,rfl⟩:=List.mem_map.1 hx
  exact (hv y hy).src) (by rw [et]; omega) (by omega)
 rw [lx] at e
 refine ⟨l,K',e,?_⟩
 rcases ho with ⟨h0,rfl,rfl⟩ | ⟨h0,rfl,rfl⟩
 ·refine ⟨Adds.refl _,.inl ⟨List.eq_nil_of_length_eq_zero (by rw [← et]; exact h0),rfl⟩⟩
 ·refine ⟨⟨_,rfl⟩,.inr ⟨fun h=>h0 (by rw [et,h]; rfl),K.length,Nat.le_refl _,by rw [et],by rw [ec]; simp⟩⟩
theorem GB.low {H : zAb} {B B' : Nat} {l : AV} {zs : List Int} (g : GB H B l zs) (h : B' ≤ B) : GB H B' l zs:=by
 rcases g with h | ⟨h0,b,hb,h2⟩
 ·exact .inl h
 ·exact .inr ⟨h0,b,by omega,h2⟩
section
variable {b s w a r : Int} {n : Nat} {H : zAb} {vd vs vp : AV} {S : StS} (g : StA H vd vs vp S) (fi : FitS S) (hn : n ≤ 1000) {q p3 : Nat} (hq : cellsOf H q = some [.int .i64 (n : Int),.int .i64 s,.int .i64 w,.int .i64 a,.int .i64 r]) (h3 : cellsOf H p3 = some [vd,vs,.int .i64 S.next,.int .i64 S.kind,.int .i64 S.pid,vp])
include g fi hn hq h3
set_option maxHeartbeats 4000000 in
theorem encL0 (lD : S.dirty.length ≤ 10000) (rD : ∀ d ∈ S.dirty,-1 ≤ d ∧ d ≤ 1000000) (x0 x1 x2 x3 x4 x5 x7 x9 x10 x11 x12 x13 x14 x15 x16 x17 x18 x19 x20 x21 x22 x23 x24 x25 x26 x27 x28 x29 x30 x31 x32 x33 x34 x35 x49 x50 x51 x52 x53 x54 x55 x56 x57 x58 x59 x60 x61 x62 x63 x64 x65 x66 x67 x68 x69 x70 x71 x72 x73 x74 x75 x76 x77 x78 x79 x80 x81 x82 x83 x84 x85 x86 x87 x88 : AV) : ∀ (m i : Nat) (K : zAb) (v : AV) (zs : List Int) (j8 j39 j40 j41 j42 j43 j44 j45 j46 j47 j48 : AV),Adds H K → GB K H.length v zs → zs.length + m ≤ 1000000 → i + m = S.dirty.length →
  Outs (LP1 l9x0 [x0,x1,x2,x3,x4,x5,v,x7,j8,x9,x10,x11,x12,x13,x14,x15,x16,x17,x18,x19,x20,x21,x22,x23,x24,x25,x26,x27,x28,x29,x30,x31,x32,x33,x34,x35,vd,.int .i64 (S.dirty.length : Int),.int .i64 (i : Int),j39,j40,j41,j42,j43,j44,j45,j46,j47,j48,x49,x50,x51,x52,x53,x54,x55,x56,x57,x58,x59,x60,x61,x62,x63,x64,x65,x66,x67,x68,x69,x70,x71,x72,x73,x74,x75,x76,x77,x78,x79,x80,x81,x82,x83,x84,x85,x86,x87,x88] K) fun e t K'=>e = .exit 0 ∧ Adds H K' ∧ ∃ fv : Nat → AV,t = [x0,x1,x2,x3,x4,x5,(fv 6),x7,(fv 8),x9,x10,x11,x12,x13,x14,x15,x16,x17,x18,x19,x20,x21,x22,x23,x24,x25,x26,x27,x28,x29,x30,x31,x32,x33,x34,x35,vd,.int .i64 (S.dirty.length : Int),(fv 38),(fv 39),(fv 40),(fv 41),(fv 42),(fv 43),(fv 44),(fv 45),(fv 46),(fv 47),(fv 48),x49,x50,x51,x52,x53,x54,x55,x56,x57,x58,x59,x60,x61,x62,x63,x64,x65,x66,x67,x68,x69,x70,x71,x72,x73,x74,x75,x76,x77,x78,x79,x80,x81,x82,x83,x84,x85,x86,x87,x88] ∧ GB K' H.length (fv 6) (zs ++ (S.dirty.drop i).map fun d=>u8w (d + 1)):=by
 intro m
 obtain ⟨L0,hL0⟩ : ∃ L,L = LP1 l9x0:=⟨_,rfl⟩
 have lo:=zAr hL0
 rw [← hL0]
 induction m with
 | zero =>
  intro i K v zs j8 j39 j40 j41 j42 j43 j44 j45 j46 j47 j48 aK gv hz hi
  obtain rfl : i = S.dirty.length:=by omega
  have hd : decide ((S.dirty.length : Int) < (S.dirty.length : Int)) = false:=by simp
  rw [lo,List.drop_length,List.map_nil,List.append_nil]
  unfold l9x0
  simp -implicitDefEqProofs (maxSteps:=5000000) only [go_sem,simprocAttr,hd,zAh,zAc]
  exact ⟨aK,exF2 rfl gv⟩
 | succ m ih =>
  intro i K v zs j8 j39 j40 j41 j42 j43 j44 j45 j46 j47 j48 aK gv hz hi
  have hlt : i < S.dirty.length:=by omega
  have hd : decide ((i : Int) < (S.dirty.length : Int)) = true:=decide_eq_true (by omega)
  have e2 : IntKind.i64.wrap ((i : Int) + 1) = ((i + 1 : Nat) : Int):=by rw [zAl (by omega) (by omega)]; omega
  have hx:=List.getElem?_eq_getElem hlt
  have rx:=rD _ (List.getElem_mem hlt)
  rw [List.drop_eq_getElem_cons hlt,List.map_cons]
  generalize S.dirty[i] = d at *
  obtain ⟨ad,ix,ld⟩:=(aK.is g.d).idx hx .i64
  have w1 : IntKind.i64.wrap (d + 1) = d + 1:=zAl (by omega) (by omega)
  have uw : IntKind.u8.wrap (d + 1) = u8w (d + 1):=rfl
  obtain ⟨K1,hK1⟩ : ∃ K1,K1 = K ++ [ABlk.rw [.int .u8 (u8w (d + 1))]]:=⟨_,rfl⟩
  have A1 : Adds K K1:=⟨_,hK1⟩
  have src : Src 1 K1 (.sl K.length 0 1 1 1 true) [u8w (d + 1)].length (u8s [u8w (d + 1)]):=Src.block (by rw [hK1]; unfold cellsOf; simp [u8s]) rfl rfl
  obtain ⟨v',K2,a2,g2,_,_,ea⟩:=GB.more (d:=ty 1 false 1 [.int .u8 0]) rfl rfl (P:=H) (H:=K1) (aK.trans A1) (GB.fr (Fr.adds A1 (fun _=>False)) gv fun _ _ h=>h) src (by simp; omega)
  have hK1:=hK1.symm
  have key:=ih (i + 1) K2 v' (zs ++ [u8w (d + 1)])
  rw [List.append_assoc,List.singleton_append] at key
  rw [lo]
  unfold l9x0
  simp -implicitDefEqProofs (maxSteps:=5000000) only [go_sem,simprocAttr,itr,itq,hd,ix,ld,w1,uw,hK1,ea,e2]
  exact key _ _ _ _ _ _ _ _ _ _ _ a2 g2 (by simp; omega) (by omega)
set_option maxHeartbeats 16000000 in
theorem encL1 (ok : ∀ x ∈ S.snaps,Mrk n x.tb) (x0 x1 x4 x5 x7 x8 x11 x12 x13 x14 x15 x16 x17 x18 x19 x20 x21 x22 x23 x24 x25 x26 x27 x28 x29 x30 x31 x32 x33 x34 x35 x36 x37 x38 x39 x40 x41 x42 x43 x44 x45 x46 x47 x48 x81 x82 x83 x84 x85 x86 x87 x88 : AV) : ∀ (m i : Nat) (K : zAb) (v : AV) (zs : List Int) (j9 j10 j50 j51 j52 j53 j54 j55 j56 j57 j58 j59 j60 j61 j62 j63 j64 j65 j66 j67 j68 j69 j70 j71 j72 j73 j74 j75 j76 j77 j78 j79 j80 : AV),Adds H K → GB K H.length v zs → zs.length + 3000 * m ≤ 500000 → i + m = 8 →
  Outs (LP1 l9x1 [x0,x1,.ptr q 0,.ptr p3 0,x4,x5,v,x7,x8,j9,j10,x11,x12,x13,x14,x15,x16,x17,x18,x19,x20,x21,x22,x23,x24,x25,x26,x27,x28,x29,x30,x31,x32,x33,x34,x35,x36,x37,x38,x39,x40,x41,x42,x43,x44,x45,x46,x47,x48,.int .i64 (i : Int),j50,j51,j52,j53,j54,j55,j56,j57,j58,j59,j60,j61,j62,j63,j64,j65,j66,j67,j68,j69,j70,j71,j72,j73,j74,j75,j76,j77,j78,j79,j80,x81,x82,x83,x84,x85,x86,x87,x88] K) fun e t K'=>e = .exit 2 ∧ Adds H K' ∧ ∃ fv : Nat → AV,t = [x0,x1,.ptr q 0,.ptr p3 0,x4,x5,(fv 6),x7,x8,(fv 9),(fv 10),x11,x12,x13,x14,x15,x16,x17,x18,x19,x20,x21,x22,x23,x24,x25,x26,x27,x28,x29,x30,x31,x32,x33,x34,x35,x36,x37,x38,x39,x40,x41,x42,x43,x44,x45,x46,x47,x48,(fv 49),(fv 50),(fv 51),(fv 52),(fv 53),(fv 54),(fv 55),(fv 56),(fv 57),(fv 58),(fv 59),(fv 60),(fv 61),(fv 62),(fv 63),(fv 64),(fv 65),(fv 66),(fv 67),(fv 68),(fv 69),(fv 70),(fv 71),(fv 72),(fv 73),(fv 74),(fv 75),(fv 76),(fv 77),(fv 78),(fv 79),(fv 80),x81,x82,x83,x84,x85,x86,x87,x88] ∧ GB K' H.length (fv 6) (zs ++ zBh n m (S.snaps.drop i)):=by
 intro m
 obtain ⟨L0,hL0⟩ : ∃ L,L = LP1 l9x1:=⟨_,rfl⟩
 have lo:=zAr hL0
 have fl:=fi.s.1
 have wl:=g.s.len
 rw [← hL0]
 induction m with
 | zero =>
  intro i K v zs j9 j10 j50 j51 j52 j53 j54 j55 j56 j57 j58 j59 j60 j61 j62 j63 j64 j65 j66 j67 j68 j69 j70 j71 j72 j73 j74 j75 j76 j77 j78 j79 j80 aK gv hz hi
  obtain rfl : i = 8:=by omega
  have hd : decide (((8 : Nat) : Int) < 8) = false:=rfl
  rw [lo,show zBh n 0 (S.snaps.drop 8) = [] by unfold zBh; rfl,List.append_nil]
  unfold l9x1
  simp -implicitDefEqProofs (maxSteps:=5000000) only [go_sem,simprocAttr,hd,zAh,zAc]
  exact ⟨aK,exF2 rfl gv⟩
 | succ m ih =>
  intro i K v zs j9 j10 j50 j51 j52 j53 j54 j55 j56 j57 j58 j59 j60 j61 j62 j63 j64 j65 j66 j67 j68 j69 j70 j71 j72 j73 j74 j75 j76 j77 j78 j79 j80 aK gv hz hi
  have hd : decide ((i : Int) < 8) = true:=decide_eq_true (by omega)
  have e2 : IntKind.i64.wrap ((i : Int) + 1) = ((i + 1 : Nat) : Int):=by rw [zAl (by omega) (by omega)]; omega
  obtain ⟨vn,K1,A1,bn,en⟩:=Bt.newA (n : Int) K
  have cn:=bn.cell
  have cg:=(aK.trans A1).cells hq
  have cg0:=aK.cells hq
  have slot : ∀ (x : SnS) (vc vt : AV) (K2 : zAb),Adds K1 K2 → cellsOf K2 K1.length = some [.int .i64 x.id,vc,vt] → BS K2 vc x.ch → IsP K2 vt x.tb → Mrk n x.tb → x.ch.length ≤ 1000 → x.tb.length ≤ 1000 → ∃ vu vm w K3 K4 K6,(envL prog).call 25 [.int .u64 (IntKind.u64.wrap x.id),.int .i64 4] K2 = some (vu,K3) ∧ Adds K2 K3 ∧ (envL prog).call 27 [vt,.int .i64 (n : Int)] K3 = some (vm,K4) ∧ Adds K3 K4 ∧ (zAy vu = some [vu] ∧ vu.isCell = true) ∧ (zAy vc = some [vc] ∧ vc.isCell = true) ∧ (zAy vt = some [vt] ∧ vt.isCell = true) ∧ (zAy vm = some [vm] ∧ vm.isCell = true) ∧ (zAy v = some [v] ∧ v.isCell = true) ∧ (envL prog).call 24 [.sl K4.length 0 1 4 4 true] (K4 ++ [.rw [v,vu,vc,vm]]) = some (w,K6) ∧ Adds H K6 ∧ GB K6 H.length w (zs ++ zDc n x):=by
   intro x vc vt K2 A2 hp bc pt mk lc lt
   obtain ⟨vu,K3,A3,g3,e3⟩:=Pg.putC (IntKind.u64.wrap x.id) (k:=4) (by omega) (by omega) K2
   obtain ⟨vm,K4,e4,A4,b4⟩:=marksC (pt.adds A3) lt mk hn
   obtain ⟨K5,hK5⟩ : ∃ K5,K5 = K4 ++ [ABlk.rw [v,vu,vc,vm]]:=⟨_,rfl⟩
   have A5 : Adds K4 K5:=⟨_,hK5⟩
   have B0 : BS K5 v zs:=(((((A1.trans A2).trans A3).trans A4).trans A5)).bs gv.bs
   have B1 : BS K5 vu (putS 4 (IntKind.u64.wrap x.id)):=(A4.trans A5).bs g3.bs
   have B2 : BS K5 vc x.ch:=((A3.trans A4).trans A5).bs bc
   have B3 : BS K5 vm (zBv n x.tb):=A5.bs b4
   have ef : ([(v,zs),(vu,putS 4 (IntKind.u64.wrap x.id)),(vc,x.ch),(vm,zBv n x.tb)].map (·.2)).flatten = zs ++ zDc n x:=by unfold zDc; simp
   obtain ⟨w,K6,e6,A6,g6⟩:=zTs (K:=K5) (a:=K4.length) [(v,zs),(vu,putS 4 (IntKind.u64.wrap x.id)),(vc,x.ch),(vm,zBv n x.tb)] (by rw [hK5]; unfold cellsOf; simp) (fun y hy=>by
    simp only [List.mem_cons,List.not_mem_nil,or_false] at hy
    rcases hy with rfl | rfl | rfl | rfl
    ·exact B0
    ·exact B1
    ·exact B2
    ·exact B3) (by rw [ef]; unfold zDc; simp only [List.length_append,zBk,zDf]; omega) (by simp)
   rw [ef] at g6
   have AA:=(((((aK.trans A1).trans A2).trans A3).trans A4).trans A5)
   rw [hK5] at e6
   exact ⟨vu,vm,w,K3,K4,K6,e3,A3,e4,A4,g3.cells,bc.cell,pt.cell,b4.cell,gv.cells,e6,AA.trans A6,GB.low g6 AA.len⟩
  rw [lo]
  unfold l9x1
  by_cases hlt : i < S.snaps.length
  ·have dl : decide ((i : Int) < (S.snaps.length : Int)) = true:=decide_eq_true (by omega)
   have hx:=List.getElem?_eq_getElem hlt
   have ft:=zCx fi.s hx
   have ox:=ok _ (List.getElem_mem hlt)
   rw [List.drop_eq_getElem_cons hlt,zBh]
   generalize S.snaps[i] = x at *
   obtain ⟨bb,cs,vc,vt,sb,ix,hc0,h1,h2,h3',ht,hle,hbs,hip⟩:=g.s.idx hx
   obtain ⟨K2,hK2⟩ : ∃ K2,K2 = K1 ++ [ABlk.rw [.int .i64 x.id,vc,vt]]:=⟨_,rfl⟩
   have A2 : Adds K1 K2:=⟨_,hK2⟩
   have AH:=(aK.trans A1).trans A2
   obtain ⟨vu,vm,w',K3,K4,K6,e3,A3,e4,A4,cu,cc,ct,cm,cv,e6,A6,g6⟩:=slot x vc vt K2 A2 (by rw [hK2]; unfold cellsOf; simp) (AH.bs hbs) (hip.adds AH) ox ft.lc ft.lt
   have c3:=AH.cells h3
   have c30:=(aK.trans A1).cells h3
   have c31 : ∀ X,cellsOf (K1 ++ [X]) p3 = some [vd,vs,.int .i64 S.next,.int .i64 S.kind,.int .i64 S.pid,vp]:=fun X=>zBz c30
   have hcx : ∀ X,cellsOf (K1 ++ [X]) bb = some cs:=fun X=>zBz ((aK.trans A1).cells hc0)
   have cg2:=AH.cells hq
   have cx : cellsOf K2 K1.length = some [.int .i64 x.id,vc,vt]:=by rw [hK2]; unfold cellsOf; simp
   have cg3:=A3.cells cg2
   have cg4:=A4.cells cg3
   have cx3:=A3.cells cx
   have cx4:=A4.cells cx3
   have hK2:=hK2.symm
   have key:=ih (i + 1) K6 w' (zs ++ zDc n x)
   rw [List.append_assoc] at key
   simp -implicitDefEqProofs (maxSteps:=5000000) only [go_sem,simprocAttr,itr,itq,hd,cg0,en,cn.1,cn.2,c31,wl,dl,ix,hcx,ht,hle,zAe,cc.1,cc.2,ct.1,ct.2,hK2,cx,cg2,cg3,cg4,cx3,cx4,e3,e4,cu.1,cu.2,cm.1,cm.2,cv.1,cv.2,e6,e2]
   exact key _ _ _ _ _ _ _ _ _ _ _ _ _ _ _ _ _ _ _ _ _ _ _ _ _ _ _ _ _ _ _ _ _ A6 g6 (by unfold zDc; simp only [List.length_append,zBk,zDf]; have:=ft.lc; omega) (by omega)
  ·have dl : decide ((i : Int) < (S.snaps.length : Int)) = false:=decide_eq_false (by omega)
   have hdr : S.snaps.drop i = []:=List.drop_eq_nil_of_le (by omega)
   have hdr2 : S.snaps.drop (i + 1) = []:=List.drop_eq_nil_of_le (by omega)
   have lnw:=Bt.newN_le (n : Int)
   rw [hdr,zBh]
   obtain ⟨K2,hK2⟩ : ∃ K2,K2 = K1 ++ [ABlk.rw [.int .i64 0,vn,.nilSl]]:=⟨_,rfl⟩
   have A2 : Adds K1 K2:=⟨_,hK2⟩
   have AH:=(aK.trans A1).trans A2
   obtain ⟨vu,vm,w',K3,K4,K6,e3,A3,e4,A4,cu,cc,ct,cm,cv,e6,A6,g6⟩:=slot (zIs n) vn .nilSl K2 A2 (by rw [hK2]; unfold cellsOf; simp; rfl) (A2.bs bn) (.inl ⟨rfl,rfl⟩) (fun p hp=>by cases hp) (by unfold zIs; simp; omega) (by unfold zIs; simp)
   have c3:=AH.cells h3
   have cg2:=AH.cells hq
   have cx : cellsOf K2 K1.length = some [.int .i64 0,vn,.nilSl]:=by rw [hK2]; unfold cellsOf; simp
   rw [show (zIs (n : Int)).id = 0 from rfl] at e3
   have cg3:=A3.cells cg2
   have cg4:=A4.cells cg3
   have cx3:=A3.cells cx
   have cx4:=A4.cells cx3
   have hK2:=hK2.symm
   have key:=ih (i + 1) K6 w' (zs ++ zDc n (zIs n))
   rw [List.append_assoc,hdr2] at key
   simp -implicitDefEqProofs (maxSteps:=5000000) only [go_sem,simprocAttr,itr,itq,hd,cg0,en,cn.1,cn.2,wl,dl,zAe,hK2,c3,cx,cg2,cg3,cg4,cx3,cx4,e3,e4,cu.1,cu.2,cm.1,cm.2,cv.1,cv.2,e6,e2]
   exact key _ _ _ _ _ _ _ _ _ _ _ _ _ _ _ _ _ _ _ _ _ _ _ _ _ _ _ _ _ _ _ _ _ A6 g6 (by unfold zDc zIs; simp only [List.length_append,zBk,zDf,List.length_replicate]; omega) (by omega)
end
end Go.Proofs.Ythgflkfhjnbheaa.G14
end
section
namespace Go.Proofs.Ythgflkfhjnbheaa.G14
open Go Go.Proofs.Ythgflkfhjnbheaa.Eng
theorem mrk_good {n : Nat} {a : Int} (ha : a ≤ 200) {L : List SnS} (G : GoodC n a L) : ∀ x ∈ L,Mrk n x.tb:=fun x hx p hp=>by
 have:=(G.one x hx).tb.rng p hp
 omega
theorem zSh {n : Nat} {m a : Int} {S : StS} (G : GoodT n m a S) : Mrk n S.pairs:=fun p hp=>by
 have h1:=G.pr p hp
 obtain ⟨h2,h3⟩:=G.pm p hp
 omega
section
variable {b s w a r : Int} {H : zAb} {vd vs vp : AV} {S : StS} (g : StA H vd vs vp S) (fi : FitS S) (lD : S.dirty.length ≤ 9223372036854775807)
include g fi lD
set_option maxHeartbeats 4000000 in
theorem encBad (hg : (Gm.goodB b s w a r && zCt b s w a S) = false) : (envL prog).call 9 [.agg [.int .i64 b,.int .i64 s,.int .i64 w,.int .i64 a,.int .i64 r],.agg [vd,vs,.int .i64 S.next,.int .i64 S.kind,.int .i64 S.pid,vp]] H = some (.tup [.nilSl,.int .i64 11],H):=by
 have cd:=IS.cell g.d
 have cc:=g.s.cell
 have cp:=g.p.cell
 obtain ⟨H1,hH1⟩ : ∃ H1,H1 = H ++ [ABlk.rw [.int .i64 b,.int .i64 s,.int .i64 w,.int .i64 a,.int .i64 r],.rw [vd,vs,.int .i64 S.next,.int .i64 S.kind,.int .i64 S.pid,vp]]:=⟨_,rfl⟩
 have A1 : Adds H H1:=⟨_,hH1⟩
 have c0 : cellsOf H1 H.length = some [.int .i64 b,.int .i64 s,.int .i64 w,.int .i64 a,.int .i64 r]:=by rw [hH1]; unfold cellsOf; simp
 have c1 : cellsOf H1 (H.length + 1) = some [vd,vs,.int .i64 S.next,.int .i64 S.kind,.int .i64 S.pid,vp]:=by rw [hH1]; unfold cellsOf; simp
 have eg:=zRb (b:=b) (s:=s) (w:=w) (a:=a) (r:=r) (g.adds A1) fi lD
 rw [hg] at eg
 have tr : trim H (some (.tup [.nilSl,.int .i64 11],H1)) = some (.tup [.nilSl,.int .i64 11],H):=A1.trimS rfl
 have hH1:=hH1.symm
 rw [c9]
 unfold b9
 simp -implicitDefEqProofs (maxSteps:=5000000) only [go_sem,simprocAttr,itr,itq,zAe,cd.1,cd.2,cc.1,cc.2,cp.1,cp.2,hH1,c0,c1,eg,tr]
set_option maxHeartbeats 16000000 in
theorem encC (hg : (Gm.goodB b s w a r && zCt b s w a S) = true) : ∃ v K,(envL prog).call 9 [.agg [.int .i64 b,.int .i64 s,.int .i64 w,.int .i64 a,.int .i64 r],.agg [vd,vs,.int .i64 S.next,.int .i64 S.kind,.int .i64 S.pid,vp]] H = some (.tup [v,.int .i64 0],K) ∧ Adds H K ∧ GB K H.length v (encT b S):=by
 have hg2:=hg
 rw [Bool.and_eq_true] at hg2
 have gg:=zF5 hg2.1
 have G:=zDo gg.b1 gg.a1.2 (fun x hx=>(fi.s.2 x hx).u8) hg2.2
 obtain ⟨n,rfl⟩ : ∃ n : Nat,b = n:=⟨b.toNat,by have:=gg.b1; omega⟩
 have hn : n ≤ 1000:=by have:=gg.b1; omega
 obtain ⟨sw,hsw,sw1,sw2⟩:=gg.sw
 have ldD : S.dirty.length ≤ 32:=by have:=G.dl; omega
 have cd:=IS.cell g.d
 have cc:=g.s.cell
 have cp:=g.p.cell
 obtain ⟨H1,hH1⟩ : ∃ H1,H1 = H ++ [ABlk.rw [.int .i64 n,.int .i64 s,.int .i64 w,.int .i64 a,.int .i64 r],.rw [vd,vs,.int .i64 S.next,.int .i64 S.kind,.int .i64 S.pid,vp]]:=⟨_,rfl⟩
 have A1 : Adds H H1:=⟨_,hH1⟩
 have c0 : cellsOf H1 H.length = some [.int .i64 n,.int .i64 s,.int .i64 w,.int .i64 a,.int .i64 r]:=by rw [hH1]; unfold cellsOf; simp
 have c1 : cellsOf H1 (H.length + 1) = some [vd,vs,.int .i64 S.next,.int .i64 S.kind,.int .i64 S.pid,vp]:=by rw [hH1]; unfold cellsOf; simp
 have g1:=g.adds A1
 have eg:=zRb (b:=n) (s:=s) (w:=w) (a:=a) (r:=r) g1 fi lD
 rw [hg] at eg
 have ws:=g1.s.len
 have wd:=g1.d.len
 obtain ⟨H2,hH2⟩ : ∃ H2,H2 = H1 ++ [ABlk.rw [.int .u8 (u8w S.snaps.length),.int .u8 (u8w S.kind)]]:=⟨_,rfl⟩
 have A2 : Adds H1 H2:=⟨_,hH2⟩
 obtain ⟨v1,K3,A3,g3,e3⟩:=Pg.putC (IntKind.u64.wrap S.next) (k:=4) (by omega) (by omega) H2
 obtain ⟨v2,K4,A4,g4,e4⟩:=Pg.putC (IntKind.u64.wrap S.pid) (k:=4) (by omega) (by omega) K3
 rw [show ((4 : Nat) : Int) = 4 from rfl] at e3 e4
 obtain ⟨K5,hK5⟩ : ∃ K5,K5 = K4 ++ [ABlk.rw [v1,.sl H1.length 0 1 2 2 true,v2]]:=⟨_,rfl⟩
 have A5 : Adds K4 K5:=⟨_,hK5⟩
 have bk : BS H2 (.sl H1.length 0 1 2 2 true) [u8w S.snaps.length,u8w S.kind]:=BS.block (zs:=[u8w S.snaps.length,u8w S.kind]) (by rw [hH2]; simp [u8s])
 obtain ⟨v6,K6,e6,A6,g6⟩:=zTs (K:=K5) (a:=K4.length) [(v1,putS 4 (IntKind.u64.wrap S.next)),(.sl H1.length 0 1 2 2 true,[u8w S.snaps.length,u8w S.kind]),(v2,putS 4 (IntKind.u64.wrap S.pid))] (by rw [hK5]; unfold cellsOf; simp) (fun y hy=>by
  simp only [List.mem_cons,List.not_mem_nil,or_false] at hy
  rcases hy with rfl | rfl | rfl
  ·exact (A4.trans A5).bs g3.bs
  ·exact ((A3.trans A4).trans A5).bs bk
  ·exact A5.bs g4.bs) (by simp [zBk]) (by simp)
 have ef : ([(v1,putS 4 (IntKind.u64.wrap S.next)),(AV.sl H1.length 0 1 2 2 true,[u8w S.snaps.length,u8w S.kind]),(v2,putS 4 (IntKind.u64.wrap S.pid))].map (·.2)).flatten = putS 4 (IntKind.u64.wrap S.next) ++ ([u8w S.snaps.length,u8w S.kind] ++ putS 4 (IntKind.u64.wrap S.pid)):=by simp
 rw [ef] at g6
 rw [hK5] at e6
 have e6 : (envL prog).call 24 [.sl K4.length 0 1 3 3 true] (K4 ++ [ABlk.rw [v1,.sl H1.length 0 1 2 2 true,v2]]) = some (v6,K6):=e6
 have B6:=(((A2.trans A3).trans A4).trans A5).trans A6
 have g6 : GB K6 H1.length v6 _:=GB.low g6 (((A2.trans A3).trans A4).trans A5).len
 have l0:=encL0 g1 fi hn c0 c1 (by omega) (fun d hd=>by have:=G.dr d hd; omega) (m:=S.dirty.length) (i:=0) (K:=K6) (v:=v6)
 have l1:=fun K v=>encL1 g1 fi hn c0 c1 (mrk_good gg.a1.2 G.sn) (m:=8) (i:=0) (K:=K) (v:=v)
 rw [show ((0 : Nat) : Int) = 0 from rfl,List.drop_zero] at l0
 simp only [show ((0 : Nat) : Int) = 0 from rfl,List.drop_zero] at l1
 have d1 : ∀ {K},Adds H1 K → cellsOf K (H.length + 1) = some [vd,vs,.int .i64 S.next,.int .i64 S.kind,.int .i64 S.pid,vp]:=fun a=>a.cells c1
 have d0 : ∀ {K},Adds H1 K → cellsOf K H.length = some [.int .i64 n,.int .i64 s,.int .i64 w,.int .i64 a,.int .i64 r]:=fun a=>a.cells c0
 have d13:=d1 (A2.trans A3)
 have d14:=d1 ((A2.trans A3).trans A4)
 have d16:=d1 B6
 have d12:=d1 A2
 have u1 : IntKind.u8.wrap (S.snaps.length : Int) = u8w S.snaps.length:=rfl
 have u2 : IntKind.u8.wrap S.kind = u8w S.kind:=rfl
 have cv1:=g3.cells
 have cv2:=g4.cells
 have hH1':=hH1.symm
 have hH2':=hH2.symm
 have key : Outs (runC (envL prog) (b9 (envL prog)) ([.agg [.int .i64 n,.int .i64 s,.int .i64 w,.int .i64 a,.int .i64 r],.agg [vd,vs,.int .i64 S.next,.int .i64 S.kind,.int .i64 S.pid,vp]] ++ List.replicate (89 - [AV.agg [.int .i64 n,.int .i64 s,.int .i64 w,.int .i64 a,.int .i64 r],.agg [vd,vs,.int .i64 S.next,.int .i64 S.kind,.int .i64 S.pid,vp]].length) .undef) H) fun e' t K=>∃ v,Adds H K ∧ GB K H.length v (encT n S) ∧ fin [.tmp 4,.tmp 5] (some (e',t,K)) = some (.tup [v,.int .i64 0],K):=by
  unfold b9
  generalize hQ : (fun (e' : Ex) (t : T) (K : zAb)=>∃ v,Adds H K ∧ GB K H.length v (encT n S) ∧ fin [.tmp 4,.tmp 5] (some (e',t,K)) = some (AV.tup [v,.int .i64 0],K)) = Q
  simp -implicitDefEqProofs (maxSteps:=5000000) only [go_sem,simprocAttr,itr,itq,zAj,zAe,cd.1,cd.2,cc.1,cc.2,cp.1,cp.2,hH1',c0,c1,eg,ws,u1,u2,hH2',d12,e3,d13,e4,d14,cv1.1,cv1.2,cv2.1,cv2.2,e6,d16,wd]
  unfold LP1 at l0
  generalize (envL prog).loop (runC (envL prog) (l9x0 (envL prog))) = L0 at l0 ⊢
  refine zAq (fun r=>seqR (zAt 0 r) _) (l0 _ _ _ _ _ _ _ _ _ _ _ _ _ _ _ _ _ _ _ _ _ _ _ _ _ _ _ _ _ _ _ _ _ _ _ _ _ _ _ _ _ _ _ _ _ _ _ _ _ _ _ _ _ _ _ _ _ _ _ _ _ _ _ _ _ _ _ _ _ _ _ _ _ _ _ _ _ _ _ _ _ _ _ _ _ _ B6 g6 (by simp [zBk]; omega) (by omega)) ?_
  rintro e t K7 ⟨rfl,A7,fv,rfl,g7⟩
  have l1:=l1 K7 (fv 6)
  simp -implicitDefEqProofs (maxSteps:=5000000) only [go_sem,simprocAttr,itr,itq,zAj]
  unfold LP1 at l1
  generalize (envL prog).loop (runC (envL prog) (l9x1 (envL prog))) = L1 at l1 ⊢
  refine zAq (fun r=>seqR (zAt 2 r) _) (l1 _ _ _ _ _ _ _ _ _ _ _ _ _ _ _ _ _ _ _ _ _ _ _ _ _ _ _ _ _ _ _ _ _ _ _ _ _ _ _ _ _ _ _ _ _ _ _ _ _ _ _ _ _ _ _ _ _ _ _ _ _ _ _ _ _ _ _ _ _ _ _ _ _ _ _ _ _ _ _ _ _ _ _ _ _ _ A7 g7 (by simp only [List.length_append,zBk,List.length_cons,List.length_nil,List.length_map]; omega) (by first | trivial | omega)) ?_
  rintro e t K8 ⟨rfl,A8,fw,rfl,g8⟩
  obtain ⟨vm,K9,e9,A9,b9⟩:=marksC ((g1.adds A8).p) fi.p (zSh G) hn
  have d18:=d1 A8
  have d08:=d0 A8
  have g9 : GB K9 H1.length (fw 6) _:=GB.fr (Fr.adds A9 (fun _=>False)) g8 fun _ _ h=>h
  have el:=zF9 G gg.a1.2
  obtain ⟨vz,KZ,AZ,gz,_,_,ez⟩:=GB.more (d:=ty 1 false 1 [.int .u8 0]) rfl rfl (P:=H1) (H:=K9) (A8.trans A9) g9 b9.src (by
   have:=Bt.newN_le (n : Int)
   have q : (putS 4 (IntKind.u64.wrap S.next) ++ ([u8w S.snaps.length,u8w S.kind] ++ putS 4 (IntKind.u64.wrap S.pid)) ++ S.dirty.map (fun d=>u8w (d + 1)) ++ zBh n 8 S.snaps ++ zBv n S.pairs) = encT n S:=by unfold encT; simp only [List.append_assoc]
   rw [← List.length_append,q,el]; omega)
  have q : (putS 4 (IntKind.u64.wrap S.next) ++ ([u8w S.snaps.length,u8w S.kind] ++ putS 4 (IntKind.u64.wrap S.pid)) ++ S.dirty.map (fun d=>u8w (d + 1)) ++ zBh n 8 S.snaps ++ zBv n S.pairs) = encT n S:=by unfold encT; simp only [List.append_assoc]
  rw [q] at gz
  simp -implicitDefEqProofs (maxSteps:=5000000) only [go_sem,simprocAttr,itr,itq,d18,d08,e9,ez,zAc]
  subst hQ
  refine ⟨vz,A1.trans AZ,GB.low gz A1.len,?_⟩
  simp -implicitDefEqProofs (maxSteps:=5000000) only [go_sem,simprocAttr]
 obtain ⟨e',t,K,hr,v,aK,gz,hf⟩:=key
 refine ⟨v,K,?_,aK,gz⟩
 rw [c9,hr,hf]
 have hu:=gz.under (fun e=>by have:=congrArg List.length e; rw [zF9 G gg.a1.2] at this; simp at this)
 exact zA9 (by simp [AV.under,zA7,hu])
end
end Go.Proofs.Ythgflkfhjnbheaa.G14
end
section
namespace Go.Proofs.Ythgflkfhjnbheaa.G14
open Go Go.Proofs.Ythgflkfhjnbheaa.Eng
section
variable {b s w a r : Int} {n : Nat} {H : zAb} {vd vs vp : AV} {S : StS} (g : StA H vd vs vp S) (fi : FitS S) (hn : n ≤ 1000) {q p3 : Nat} (hq : cellsOf H q = some [.int .i64 (n : Int),.int .i64 s,.int .i64 w,.int .i64 a,.int .i64 r]) (h3 : cellsOf H p3 = some [vd,vs,.int .i64 S.next,.int .i64 S.kind,.int .i64 S.pid,vp])
include g fi hn hq h3
end
end Go.Proofs.Ythgflkfhjnbheaa.G14
end
section
namespace Go.Proofs.Ythgflkfhjnbheaa.G14
open Go Go.Proofs.Ythgflkfhjnbheaa.Eng
section
variable {b s w a r : Int} {H : zAb} {vd vs vp : AV} {S : StS} (g : StA H vd vs vp S) (fi : FitS S) (lD : S.dirty.length ≤ 9223372036854775807)
include g fi lD
end
end Go.Proofs.Ythgflkfhjnbheaa.G14
end
