/- An evaluator over abstract values, proved sound against the machine: what it says of a call, the call does. No condition. -/
import Derived.Test.YtbmmnfeeapnhkaaGreatE2
import Derived.KernelRfl
import Derived.WalkKit
import Derived.ProofKit
import Derived.OpenShut
import Derived.Carry
section
namespace Go.Proofs.YtbmmnfeeapnhkaaGreat.Eng
open Go
abbrev T:=List AV
def ty (size : Nat) (agg : Bool) (bytes : Nat) (zero : List AV) : TyD:=⟨size,agg,bytes,zero⟩
abbrev S:=T → zAa → Option (AV × zAa)
abbrev R:=T → zAa → Option (T × zAa)
abbrev C:=T → zAa → Res
def X (i : Nat) : T → AV:=fun t=>getT t i
def K (v : AV) : T → AV:=fun _=>v
def zLk : S:=fun _ _=>none
def sMov (x : T → AV) : S:=fun t h=>some (x t,h)
def zA8 (c a b : T → AV) : S:=fun t h=>zAp h (zNg (c t) (a t) (b t))
def zBf (z : List AV) : S:=fun _ h=>some (zFh z h)
def sBox (x : T → AV) : S:=fun t h=>(zA7 (x t)).map fun cs=>zFh cs h
def zHp (cells : List AV) : List (Nat × Nat × AV) → Option (List AV)
 | []=>some cells
 | (o,n,v) :: r=>(zA7 v).bind fun cs=>if cs.length = n ∧ o + n ≤ cells.length then zHp (zBp cells o cs) r else none
def zBw (z : List AV) (ps : List (Nat × Nat × (T → AV))) : S:=fun t h=>zAp h ((zHp z (ps.map fun p=>(p.1,p.2.1,p.2.2 t))).map .agg)
def zCb (sz len : Nat) (z : List AV) (ps : List (Nat × Nat × (T → AV))) : S:=fun t h =>
 (zHp (List.replicate len z).flatten (ps.map fun p=>(p.1,p.2.1,p.2.2 t))).map fun cs=>(.sl h.length 0 sz len len true,h ++ [.rw cs])
def zAe (sz : Nat) (agg : Bool) (a : T → AV) : S:=fun t h=>zAp h (zGq sz agg (a t) h)
def zAn (sz : Nat) (a x : T → AV) : S:=fun t h=>(zL1 sz (a t) (x t) h).map fun h'=>(.undef,h')
def sNil (x : T → AV) : S:=fun t h=>zAp h (zGo (x t))
def sBin (op : BinOp) (e : EqK) (x y : T → AV) : S:=fun t h=>zAp h (binV op e (x t) (y t))
def sUn (op : UnOp) (x : T → AV) : S:=fun t h=>zAp h (unV op (x t))
def zE3 (c : ConvK) (x : T → AV) : S:=fun t h=>zAp h (zFq c (x t) h)
def sFun (f : Nat) (xs : List (T → AV)) : S:=fun t h=>some (.fn f (xs.map fun x=>x t),h)
def zOj (d : TyD) (l c : T → AV) : S:=fun t h=>zCw d (l t) (c t) h
def ap (x : Option (T → AV)) (t : T) : Option AV:=match x with | none=>none | some f=>some (f t)
def zE2 (n sz : Nat) (x : T → AV) (lo hi mx : Option (T → AV)) : S:=fun t h=>zAp h (zDb n sz (x t) (ap lo t) (ap hi t) (ap mx t) h)
def zD1 (sz : Nat) (x : T → AV) (lo hi mx : Option (T → AV)) : S:=fun t h=>zAp h (zDa sz (x t) (ap lo t) (ap hi t) (ap mx t))
def zEh (off : Nat) (x : AV) : Option AV:=match x with | .ptr b o=>some (.ptr b (o + off)) | _=>none
def zAb (off : Nat) (x : T → AV) : S:=fun t h=>zAp h (zEh off (x t))
def zK2 (sz : Nat) (agg : Bool) (off : Nat) (x : AV) : Option AV:=match x with | .agg cs=>(if agg then (if off + sz ≤ cs.length then some (.agg ((cs.drop off).take sz)) else none) else cs[off]?) | _=>none
def zL3 (sz : Nat) (agg : Bool) (off : Nat) (x : T → AV) : S:=fun t h=>zAp h (zK2 sz agg off (x t))
def zDo (n sz : Nat) (x i : AV) : Option AV:=match x,i with | .ptr b o,.int _ j=>if 0 ≤ j ∧ j < n then some (.ptr b (o + j.toNat * sz)) else none | _,_=>none
def zFn (n sz : Nat) (x i : T → AV) : S:=fun t h=>zAp h (zDo n sz (x t) (i t))
def zB0 (sz : Nat) (x i : AV) : Option AV:=match x,i with | .sl b o s len _ _,.int _ j=>if s = sz ∧ 1 ≤ s ∧ 0 ≤ j ∧ j < len then some (.ptr b (o + j.toNat * s)) else none | _,_=>none
def zA0 (sz : Nat) (x i : T → AV) : S:=fun t h=>zAp h (zB0 sz (x t) (i t))
def idxA (n sz : Nat) (agg : Bool) (x i : AV) : Option AV:=match x,i with | .agg cs,.int _ j=>if 0 ≤ j ∧ j < n then (if agg then (if j.toNat * sz + sz ≤ cs.length then some (.agg ((cs.drop (j.toNat * sz)).take sz)) else none) else cs[j.toNat * sz]?) else none | _,_=>none
def sIdxA (n sz : Nat) (agg : Bool) (x i : T → AV) : S:=fun t h=>zAp h (idxA n sz agg (x t) (i t))
def zHb (x i : AV) : Option AV:=match x,i with | .str s,.int _ j=>if 0 ≤ j then (s.data[j.toNat]?).map fun b=>.int .u8 b.toNat else none | _,_=>none
def sIdxStr (x i : T → AV) : S:=fun t h=>zAp h (zHb (x t) (i t))
def zF4 (x : AV) (i : Nat) : Option AV:=match x with | .tup vs=>vs[i]? | _=>none
def zAm (x : T → AV) (i : Nat) : S:=fun t h=>zAp h (zF4 (x t) i)
def zMc (x : AV) : Option AV:=match x with | .str s=>some (.int .i64 s.size) | _=>none
def lenSl (x : AV) : Option AV:=match x with | .nilSl=>some (.int .i64 0) | .sl _ _ _ len _ _=>some (.int .i64 len) | _=>none
def zUf (x : AV) : Option AV:=match x with | .nilSl=>some (.int .i64 0) | .sl _ _ _ _ cp true=>some (.int .i64 cp) | _=>none
def sLenStr (x : T → AV) : S:=fun t h=>zAp h (zMc (x t))
def zA5 (x : T → AV) : S:=fun t h=>zAp h (lenSl (x t))
def sLenArr (n : Nat) : S:=fun _ h=>some (.int .i64 n,h)
def zOm (x : T → AV) : S:=fun t h=>zAp h (zUf (x t))
def sMax (xs : List (T → AV)) : S:=fun t h=>zAp h (maxV (xs.map fun x=>x t))
def sMin (xs : List (T → AV)) : S:=fun t h=>zAp h (minV (xs.map fun x=>x t))
def sClear (d : TyD) (x : T → AV) : S:=fun t h=>zPx d (x t) h
def zVo (d : TyD) (x y : T → AV) : S:=fun t h=>zJc d (x t) (y t) h
def appN (d : TyD) (x y : AV) (h : zAa) : Option (AV × zAa):=match y with | .int _ n=>if 0 ≤ n ∧ 1 ≤ d.bytes ∧ n * d.bytes ≤ roomy then zDd d x n.toNat (List.replicate n.toNat d.zero).flatten h else none | _=>none
def sAppN (d : TyD) (x y : T → AV) : S:=fun t h=>appN d (x t) (y t) h
def app (d : TyD) (x y : AV) (h : zAa) : Option (AV × zAa):=(zFm y).bind fun k=>(zBx d.size k y h).bind fun cs=>zDd d x k cs h
def sApp (d : TyD) (x y : T → AV) : S:=fun t h=>app d (x t) (y t) h
def zAg (E : Env) (f : Nat) (xs : List (T → AV)) : S:=fun t h=>E.call f (xs.map fun x=>x t) h
def zEs (E : Env) (f : T → AV) (xs : List (T → AV)) : S:=fun t h=>zLq E (f t) (xs.map fun x=>x t) h
def gd (d : Option Nat) (want : Bool) (t : T) : Option Bool :=
 match d with
 | none=>some false
 | some d =>
  match t[d]? with
  | some (.bool b)=>some (b == want)
  | some .any=>none
  | _=>some false
def rEnd : R:=fun t h=>some (t,h)
def rOp (d : Option Nat) (f : S) (k : R) : R:=fun t h=>(f t h).bind fun r=>k (putT t d r.1) r.2
def rOpG (g : Option Nat) (w : Bool) (d : Option Nat) (f : S) (k : R) : R:=fun t h=>(gd g w t).bind fun c=>if c then (f t h).bind fun r=>k (putT t d r.1) r.2 else k (putT t d .undef) h
abbrev D:=T → zAa → List Open → Option (T × zAa)
open Classical in
noncomputable def chk (m : Nat) (h : zAa) : List Open → Bool
 | []=>true
 | o :: r=>(m.testBit o.at_ || decide (o.again h = some (o.val,h))) && chk m h r
theorem zYg (M : List Nat) (j : Nat) (h : zAa) : ∀ l,zFs M j h l = chk (M.getD j 0) h l
 | []=>rfl
 | o :: l=>by simp only [zFs,chk,zYg M j h l]
def dEnd : D:=fun t h _=>some (t,h)
def dOp (d : Option Nat) (f : S) (k : D) : D:=fun t h o=>(f t h).bind fun r=>k (putT t d r.1) r.2 o
def dOpG (g : Option Nat) (w : Bool) (d : Option Nat) (f : S) (k : D) : D:=fun t h o=>(gd g w t).bind fun c=>if c then (f t h).bind fun r=>k (putT t d r.1) r.2 o else k (putT t d .undef) h o
def dRd (i : Nat) (d : Option Nat) (f : S) (k : D) : D:=fun t h o=>(f t h).bind fun r=>k (putT t d r.1) r.2 (⟨i,f t,r.1⟩ :: o)
def dRdG (i : Nat) (g : Option Nat) (w : Bool) (d : Option Nat) (f : S) (k : D) : D:=fun t h o=>(gd g w t).bind fun c=>if c then (f t h).bind fun r=>k (putT t d r.1) r.2 (⟨i,f t,r.1⟩ :: o) else k (putT t d .undef) h o
noncomputable def dHv (m : Nat) (d : Option Nat) (f : S) (k : D) : D:=fun t h o=>(f t h).bind fun r=>if chk m r.2 o then k (putT t d r.1) r.2 o else none
noncomputable def dHvG (m : Nat) (g : Option Nat) (w : Bool) (d : Option Nat) (f : S) (k : D) : D:=fun t h o=>(gd g w t).bind fun c=>if c then (f t h).bind fun r=>if chk m r.2 o then k (putT t d r.1) r.2 o else none else k (putT t d .undef) h o
def cR (r : R) : C:=fun t h=>zNj (r t h)
def cD (r : D) : C:=fun t h=>zNj (r t h [])
def zP4 : C:=fun _ _=>none
def zYp : C:=fun t h=>some (.normal,t,h)
def cExit (id : Nat) : C:=fun t h=>some (.exit id,t,h)
def cRet : C:=fun t h=>some (.ret,t,h)
def cSeq (a b : C) : C:=fun t h=>seqR (a t h) b
def cIf (x : T → AV) (a b : C) : C:=fun t h=>zNw (x t) (a t h) (b t h)
def zSw (id : Nat) (a : C) : C:=fun t h=>zBr id (a t h)
def cLoop (E : Env) (b : C) : C:=fun t h=>E.loop b t h
def zYq (E : Env) (f : T → AV) (ps : List Nat) (assign body : Code) : C:=fun t h =>
 zCr h.length t (zLr E (f t) [.yld h.length] (h ++ [.loop ⟨.ready,.normal,t,ps,assign,body⟩]))
def gOf (ops : Array Oper) (j : Nat) : Option Nat:=(ops[j]?).bind (·.dst)
theorem zKa {ops : Array Oper} {t : T} {o : Oper} {j : Nat} {w : Bool} (h : o.guard = some (j,w)) : zC5 ops t o = gd (gOf ops j) w t:=by
 unfold zC5 gd gOf
 rw [h]
 simp only
 cases (ops[j]?).bind (·.dst) <;> rfl
def opS (P : Program) (E : Env) (op : Op) : S:=fun t h=>zC9 P E t op h
def opQ (P : Program) (op : Op) : S:=fun t h=>zBh P t op h
def zNx (P : Program) (E : Env) (ops : Array Oper) : List Nat → R
 | []=>rEnd
 | i :: l =>
  match ops[i]? with
  | none=>zNx P E ops l
  | some o =>
   match o.guard with
   | none=>rOp o.dst (opS P E o.op) (zNx P E ops l)
   | some (j,w)=>rOpG (gOf ops j) w o.dst (opS P E o.op) (zNx P E ops l)
theorem zJ6 (P : Program) (E : Env) (ops : Array Oper) : ∀ (l : List Nat) (t : T) (h : zAa),zDu P E ops l t h = zNx P E ops l t h
 | [],_,_=>rfl
 | i :: l,t,h=>by
  simp only [zDu,zNx]
  cases ho : ops[i]? with
  | none=>simp only [zJ6 P E ops l]
  | some o =>
   simp only
   cases hg : o.guard with
   | none =>
    have : zC5 ops t o = some true:=by unfold zC5; rw [hg]
    simp only [this,Option.bind_some,if_true,rOp,opS,zJ6 P E ops l]
   | some p =>
    obtain ⟨j,w⟩:=p
    simp only [zKa hg,rOpG,opS,zJ6 P E ops l]
noncomputable def zIn (P : Program) (E : Env) (ops : Array Oper) (M : List Nat) : Nat → Array Bool → D
 | 0,_=>fun _ _ _=>none
 | n + 1,listed =>
  match Region.ready .any ops listed with
  | []=>dEnd
  | r0 :: rest =>
   match (r0 :: rest).find? (zEq ops) with
   | some i =>
    (match ops[i]? with
     | some o =>
      (match o.guard with
      | none=>if zDc o.op then dRd i o.dst (opQ P o.op) (zIn P E ops M n (listed.setIfInBounds i true)) else dOp o.dst (opQ P o.op) (zIn P E ops M n (listed.setIfInBounds i true))
      | some (j,w)=>if zDc o.op then dRdG i (gOf ops j) w o.dst (opQ P o.op) (zIn P E ops M n (listed.setIfInBounds i true)) else dOpG (gOf ops j) w o.dst (opQ P o.op) (zIn P E ops M n (listed.setIfInBounds i true)))
     | none=>fun _ _ _=>none)
   | none =>
    if rest.isEmpty then
     (match ops[r0]? with
      | some o =>
       (match o.guard with
       | none=>dHv (M.getD r0 0) o.dst (opS P E o.op) (zIn P E ops M n (listed.setIfInBounds r0 true))
       | some (j,w)=>dHvG (M.getD r0 0) (gOf ops j) w o.dst (opS P E o.op) (zIn P E ops M n (listed.setIfInBounds r0 true)))
      | none=>fun _ _ _=>none)
    else fun _ _ _=>none
theorem zIm (P : Program) (E : Env) (ops : Array Oper) : ∀ (n : Nat) (listed : Array Bool) (t : T) (h : zAa) (o : List Open),zBv P E ops n listed t h o = zIn P E ops (masks ops) n listed t h o
 | 0,_,_,_,_=>rfl
 | n + 1,listed,t,h,os=>by
  simp only [zBv,zIn]
  cases hr : Region.ready .any ops listed with
  | nil=>rfl
  | cons r0 rest =>
   simp only
   cases hq : (r0 :: rest).find? (zEq ops) with
   | some i =>
    simp only
    cases ho : ops[i]? with
    | none=>rfl
    | some o =>
     simp only
     cases hg : o.guard with
     | none =>
      have : zC5 ops t o = some true:=by unfold zC5; rw [hg]
      cases hrd : zDc o.op <;> simp only [this,Option.bind_some,if_true,Bool.false_eq_true,if_false,dOp,dRd,opQ,zIm P E ops n] <;> rfl
     | some p =>
      obtain ⟨j,w⟩:=p
      cases hrd : zDc o.op <;> simp only [zKa hg,if_true,Bool.false_eq_true,if_false,dOpG,dRdG,opQ,zIm P E ops n] <;> rfl
   | none =>
    simp only
    cases hrest : rest.isEmpty with
    | false=>simp only [Bool.false_eq_true,if_false]
    | true =>
     simp only [if_true]
     cases ho : ops[r0]? with
     | none=>rfl
     | some o =>
      simp only
      cases hg : o.guard with
      | none =>
       have : zC5 ops t o = some true:=by unfold zC5; rw [hg]
       simp only [this,Option.bind_some,if_true,dHv,opS,zIm P E ops n,zYg]
      | some p =>
       obtain ⟨j,w⟩:=p
       simp only [zKa hg,dHvG,opS,zIm P E ops n,zYg]
noncomputable def zFd (P : Program) (E : Env) : Code → C
 | .skip=>zYp
 | .label _=>zYp
 | .region _ ops draw=>if draw then (if zHd ops then cD (zIn P E ops (masks ops) (ops.size + 1) (Array.replicate ops.size false)) else zP4) else cR (zNx P E ops (List.range ops.size))
 | .seq a b=>cSeq (zFd P E a) (zFd P E b)
 | .cond c a b=>cIf (fun t=>zBk t c) (zFd P E a) (zFd P E b)
 | .block id b=>zSw id (zFd P E b)
 | .loop b=>cLoop E (zFd P E b)
 | .scope b=>zFd P E b
 | .exit id=>cExit id
 | .ret=>cRet
 | .goto _=>zP4
 | .refuse _=>zP4
 | .rangeFunc f ps assign body=>zYq E (fun t=>zBk t f) ps.toList assign body
theorem zSt (P : Program) (E : Env) : ∀ (c : Code) (t : T) (h : zAa),zAi P E c t h = zFd P E c t h:=by
 intro c
 induction c with
 | region id ops draw =>
  intro t h
  simp only [zAi,zFd]
  cases draw with
  | true =>
   simp only [if_true]
   cases zHd ops with
   | true=>simp only [if_true,zIm,cD]
   | false=>rfl
  | false=>simp only [Bool.false_eq_true,if_false,zJ6,cR]
 | seq a b iha ihb=>intro t h; simp only [zAi,zFd,cSeq,iha]; congr 1; funext t h; exact ihb t h
 | cond c a b iha ihb=>intro t h; simp only [zAi,zFd,cIf,iha,ihb]
 | block id b ih=>intro t h; simp only [zAi,zFd,zSw,ih]
 | loop b ih=>intro t h; simp only [zAi,zFd,cLoop]; congr 1; funext t h; exact ih t h
 | scope b ih=>intro t h; simp only [zAi,zFd,ih]
 | _=>intro t h; rfl
inductive RV where
 | tmp (i : Nat)
 | cell (i sz : Nat) (agg : Bool)
def resS (t : T) (h : zAa) : List RV → Option (List AV)
 | []=>some []
 | .tmp i :: r=>(resS t h r).map fun vs=>getT t i :: vs
 | .cell a sz agg :: r=>(zGq sz agg (getT t a) h).bind fun v=>(resS t h r).map fun vs=>v :: vs
def fin (rs : List RV) (r : Res) : Option (AV × zAa) :=
 match r with
 | some (.normal,t,h)=>(resS t h rs).map fun vs=>(zHl vs,h)
 | some (.ret,t,h)=>(resS t h rs).map fun vs=>(zHl vs,h)
 | _=>none
theorem call_sh {P : Program} {f : Nat} {fn : Func} {c : Code} {b : C} {rs : List RV} (hf : P.funcs[f]? = some fn) (hc : fn.body = some c) (hb : zFd P (envL P) c = b) (hr : ∀ t h,zDr P t h fn.results.toList = resS t h rs)
  {n : Nat} (hn : fn.ntmps = n) (args : List AV) (h : zAa) : (envL P).call f args h = trim h (fin rs (b (args ++ List.replicate (n - args.length) .undef) h)):=by
 rw [call_eq]
 unfold zCm zE9
 rw [hf]
 simp only [hc,zSt,hb,hn]
 generalize b (args ++ List.replicate (n - args.length) .undef) h = r
 congr 1
 unfold zF3 fin
 cases r with
 | none=>rfl
 | some p=>obtain ⟨e,t,h⟩:=p; cases e <;> simp only [hr]
end Go.Proofs.YtbmmnfeeapnhkaaGreat.Eng
end
section
namespace Go.Proofs.YtbmmnfeeapnhkaaGreat.Eng
open Go
def at_ (n B j : Nat) : Nat:=(B >>> (n * j)) % 2 ^ n
structure Cert where
 n : Nat
 k : Nat
 E : Nat
 M : Nat
 L : Nat
 D : Nat
def Cert.e (c : Cert) (j : Nat) : Nat:=at_ c.n c.E j
def Cert.m (c : Cert) (j : Nat) : Nat:=at_ c.n c.M j
def Cert.l (c : Cert) (j : Nat) : Nat:=at_ c.k c.L j
def Cert.d (c : Cert) (j : Nat) : Nat:=at_ c.k c.D j
def eSum (es : List Edge) : Nat:=es.foldl (fun s e=>if Region.binds .any e then s ||| 2 ^ e.on else s) 0
def mSum (m : Nat → Nat) (es : List Edge) : Nat:=es.foldl (fun s e=>if Region.binds .any e then s ||| 2 ^ e.on ||| m e.on else s) 0
def lSum (xs : List Nat) : Nat:=xs.foldl (fun s x=>s ||| 2 ^ x) 0
def dCode : Option Nat → Nat | none=>0 | some x=>x + 1
def ckOne (ops : Array Oper) (c : Cert) (j : Nat) (o : Oper) : Bool :=
 Nat.beq (c.e j) (eSum o.after.toList) && Nat.ble (c.e j + 1) (2 ^ j) && Nat.beq (c.m j) (mSum c.m o.after.toList) && Nat.beq (c.l j) (lSum (o.looksAt ops)) && Nat.beq (c.d j) (dCode o.dst)
def zYf (ops : Array Oper) (c : Cert) : Nat → List Oper → Bool
 | _,[]=>true
 | j,o :: r=>ckOne ops c j o && zYf ops c (j + 1) r
def zSv (c : Cert) (j dj lj mj i di : Nat) : Bool :=
 Nat.beq i j || Nat.beq di 0 || (!Nat.beq dj di && (!lj.testBit (di - 1) || mj.testBit i || (c.m i).testBit j))
def zYe (c : Cert) (j dj lj mj : Nat) : Nat → Bool
 | 0=>true
 | i + 1=>zSv c j dj lj mj i (c.d i) && zYe c j dj lj mj i
def zSu (c : Cert) : Nat → Bool
 | 0=>true
 | j + 1=>zYe c j (c.d j) (c.l j) (c.m j) c.n && zSu c j
def ck (ops : Array Oper) (c : Cert) : Bool:=Nat.beq c.n ops.size && zYf ops c 0 ops.toList && zSu c c.n
theorem zPz {ops : Array Oper} {c : Cert} : ∀ (l : List Oper) (k : Nat),zYf ops c k l = true → ∀ (i : Nat) o,l[i]? = some o → ckOne ops c (k + i) o = true
 | [],_,_,i,o,h=>by simp at h
 | x :: l,k,hc,0,o,h=>by
  simp only [zYf,Bool.and_eq_true] at hc
  simp at h; subst h; exact hc.1
 | x :: l,k,hc,i + 1,o,h=>by
  simp only [zYf,Bool.and_eq_true] at hc
  have:=zPz l (k + 1) hc.2 i o (by simpa using h)
  rwa [Nat.add_assoc,Nat.add_comm 1 i] at this
theorem zPy {c : Cert} {j dj lj mj : Nat} : ∀ n,zYe c j dj lj mj n = true → ∀ i,i < n → zSv c j dj lj mj i (c.d i) = true
 | 0,_,i,h=>by omega
 | n + 1,hc,i,h=>by
  simp only [zYe,Bool.and_eq_true] at hc
  by_cases hi : i = n
  ·subst hi; exact hc.1
  ·exact zPy n hc.2 i (by omega)
theorem zMq {c : Cert} : ∀ n,zSu c n = true → ∀ j,j < n → zYe c j (c.d j) (c.l j) (c.m j) c.n = true
 | 0,_,i,h=>by omega
 | n + 1,hc,i,h=>by
  simp only [zSu,Bool.and_eq_true] at hc
  by_cases hi : i = n
  ·subst hi; exact hc.1
  ·exact zMq n hc.2 i (by omega)
theorem zNu (es : List Edge) (i : Nat) : (eSum es).testBit i = true ↔ ∃ e ∈ es,Region.binds .any e = true ∧ e.on = i:=by
 have key : ∀ (l : List Edge) (s : Nat),(l.foldl (fun s e=>if Region.binds .any e then s ||| 2 ^ e.on else s) s).testBit i = true ↔ s.testBit i = true ∨ ∃ e ∈ l,Region.binds .any e = true ∧ e.on = i:=by
  intro l
  induction l with
  | nil=>intro s; simp
  | cons e l ih =>
   intro s
   simp only [List.foldl_cons,ih]
   by_cases hb : Region.binds .any e = true
   ·simp only [hb,if_true,Nat.testBit_or,Nat.testBit_two_pow,Bool.or_eq_true,decide_eq_true_eq,List.mem_cons]
    constructor
    ·rintro ((h | h) | ⟨e',h1,h2⟩)
     ·exact .inl h
     ·exact .inr ⟨e,.inl rfl,hb,h⟩
     ·exact .inr ⟨e',.inr h1,h2⟩
    ·rintro (h | ⟨e',rfl | h1,h2,h3⟩)
     ·exact .inl (.inl h)
     ·exact .inl (.inr h3)
     ·exact .inr ⟨e',h1,h2,h3⟩
   ·have hb' : Region.binds .any e = false:=by simpa using hb
    simp only [hb',Bool.false_eq_true,if_false,List.mem_cons]
    constructor
    ·rintro (h | ⟨e',h1,h2⟩)
     ·exact .inl h
     ·exact .inr ⟨e',.inr h1,h2⟩
    ·rintro (h | ⟨e',rfl | h1,h2,h3⟩)
     ·exact .inl h
     ·exact absurd h2 hb
     ·exact .inr ⟨e',h1,h2,h3⟩
 have:=key es 0
 simpa [eSum] using this
theorem lSum_bit (xs : List Nat) (i : Nat) : (lSum xs).testBit i = true ↔ i ∈ xs:=by
 have key : ∀ (l : List Nat) (s : Nat),(l.foldl (fun s x=>s ||| 2 ^ x) s).testBit i = true ↔ s.testBit i = true ∨ i ∈ l:=by
  intro l
  induction l with
  | nil=>intro s; simp
  | cons e l ih =>
   intro s
   simp only [List.foldl_cons,ih,Nat.testBit_or,Nat.testBit_two_pow,Bool.or_eq_true,decide_eq_true_eq,List.mem_cons]
   constructor
   ·rintro ((h | h) | h)
    ·exact .inl h
    ·exact .inr (.inl h.symm)
    ·exact .inr (.inr h)
   ·rintro (h | rfl | h)
    ·exact .inl (.inl h)
    ·exact .inl (.inr rfl)
    ·exact .inr h
 have:=key xs 0
 simpa [lSum] using this
structure CkOk (ops : Array Oper) (c : Cert) : Prop where
 n : c.n = ops.size
 e : ∀ (j : Nat) o,ops[j]? = some o → c.e j = eSum o.after.toList
 lt : ∀ (j : Nat) o,ops[j]? = some o → c.e j < 2 ^ j
 m : ∀ (j : Nat) o,ops[j]? = some o → c.m j = mSum c.m o.after.toList
 l : ∀ (j : Nat) o,ops[j]? = some o → c.l j = lSum (o.looksAt ops)
 d : ∀ (j : Nat) o,ops[j]? = some o → c.d j = dCode o.dst
 p : ∀ i j,i < ops.size → j < ops.size → zSv c j (c.d j) (c.l j) (c.m j) i (c.d i) = true
theorem ck_ok {ops : Array Oper} {c : Cert} (h : ck ops c = true) : CkOk ops c:=by
 simp only [ck,Bool.and_eq_true] at h
 obtain ⟨⟨h1,h2⟩,h3⟩:=h
 have hn : c.n = ops.size:=Nat.eq_of_beq_eq_true h1
 have one : ∀ (j : Nat) o,ops[j]? = some o → ckOne ops c j o = true:=fun j o ho=>by
  have:=zPz ops.toList 0 h2 j o (by rw [Array.getElem?_toList]; exact ho)
  rwa [Nat.zero_add] at this
 have one' : ∀ (j : Nat) o,ops[j]? = some o → _:=fun j o ho=>by
  have:=one j o ho
  simp only [ckOne,Bool.and_eq_true] at this
  exact this
 refine ⟨hn,fun j o ho=>Nat.eq_of_beq_eq_true (one' j o ho).1.1.1.1,fun j o ho=>Nat.le_of_ble_eq_true (one' j o ho).1.1.1.2,fun j o ho=>Nat.eq_of_beq_eq_true (one' j o ho).1.1.2,fun j o ho=>Nat.eq_of_beq_eq_true (one' j o ho).1.2,fun j o ho=>Nat.eq_of_beq_eq_true (one' j o ho).2,fun i j hi hj=>?_⟩
 exact zPy _ (zMq _ h3 j (by omega)) i (by omega)
theorem CkOk.on_lt {ops : Array Oper} {c : Cert} (k : CkOk ops c) {j : Nat} {o : Oper} {e : Edge} (ho : ops[j]? = some o) (he : e ∈ o.after) (hb : Region.binds .any e = true) : e.on < j:=by
 have h1:=k.lt j o ho
 rw [k.e j o ho] at h1
 have h2 : (eSum o.after.toList).testBit e.on = true:=(zNu _ _).2 ⟨e,by simpa using he,hb,rfl⟩
 have:=Nat.ge_two_pow_of_testBit h2
 exact Nat.pow_lt_pow_iff_right (by decide : 1 < 2) |>.1 (Nat.lt_of_le_of_lt this h1)
theorem CkOk.masks {ops : Array Oper} {c : Cert} (k : CkOk ops c) : ∀ j,j < ops.size → (masks ops).getD j 0 = c.m j:=by
 have key : ∀ (l : List Oper) (acc : List Nat) (pre : List Oper),pre ++ l = ops.toList → acc.length = pre.length → (∀ j,j < acc.length → acc.getD j 0 = c.m j) → ∀ j,j < ops.size → (zJl l acc).getD j 0 = c.m j:=by
  intro l
  induction l with
  | nil =>
   intro acc pre hp hl ha j hj
   simp only [zJl]
   refine ha j ?_
   rw [hl]
   have:=congrArg List.length hp
   simp at this
   omega
  | cons o l ih =>
   intro acc pre hp hl ha j hj
   simp only [zJl]
   refine ih (acc ++ [zIh acc o]) (pre ++ [o]) (by simp [hp]) (by simp [hl]) (fun i hi=>?_) j hj
   by_cases hlt : i < acc.length
   ·rw [List.getD_eq_getElem?_getD,List.getElem?_append_left hlt,← List.getD_eq_getElem?_getD]
    exact ha i hlt
   ·have hii : i = acc.length:=by simp at hi; omega
    subst hii
    have ho : ops[acc.length]? = some o:=by
     rw [← Array.getElem?_toList,← hp,hl]; simp
    rw [List.getD_eq_getElem?_getD,List.getElem?_append_right (Nat.le_refl _)]
    simp only [Nat.sub_self,List.getElem?_cons_zero,Option.getD_some]
    rw [k.m _ o ho]
    unfold zIh mSum
    have hon : ∀ e ∈ o.after.toList,Region.binds .any e = true → acc.getD e.on 0 = c.m e.on:=fun e he hb=>ha _ (k.on_lt ho (by simpa using he) hb)
    have fold : ∀ (es : List Edge) (s : Nat),(∀ e ∈ es,Region.binds .any e = true → acc.getD e.on 0 = c.m e.on) →
      es.foldl (fun s e=>if Region.binds .any e then s ||| 2 ^ e.on ||| acc.getD e.on 0 else s) s = es.foldl (fun s e=>if Region.binds .any e then s ||| 2 ^ e.on ||| c.m e.on else s) s:=by
     intro es
     induction es with
     | nil=>intro s _; rfl
     | cons e es ih =>
      intro s hs
      simp only [List.foldl_cons]
      by_cases hb : Region.binds .any e = true
      ·rw [hs e (List.mem_cons_self ..) hb]
       exact ih _ fun e' he'=>hs e' (List.mem_cons_of_mem _ he')
      ·have hb' : Region.binds .any e = false:=by simpa using hb
       simp only [hb',Bool.false_eq_true,if_false]
       exact ih _ fun e' he'=>hs e' (List.mem_cons_of_mem _ he')
    exact fold _ 0 hon
 exact key ops.toList [] [] rfl rfl (fun j hj=>by simp at hj)
theorem CkOk.draw {ops : Array Oper} {c : Cert} (k : CkOk ops c) : zHd ops = true:=by
 unfold zHd
 rw [List.all_eq_true]
 intro j hj
 have hj : j < ops.size:=by simpa using hj
 have ho : ops[j]? = some ops[j]:=Array.getElem?_eq_getElem hj
 rw [ho]
 simp only [Bool.and_eq_true,List.all_eq_true]
 refine ⟨fun e he=>?_,fun i hi=>?_⟩
 ·cases hb : Region.binds .any e with
  | false=>rfl
  | true=>simpa using k.on_lt ho (by simpa using he) hb
 ·have hi : i < ops.size:=by simpa using hi
  have hp:=k.p i j hi hj
  have hoi : ops[i]? = some ops[i]:=Array.getElem?_eq_getElem hi
  unfold zJ4
  rw [hoi]
  simp only [Option.bind_some]
  unfold zSv at hp
  rw [k.d i _ hoi,k.d j _ ho,k.l j _ ho] at hp
  simp only [Bool.or_eq_true,Bool.and_eq_true,Bool.not_eq_true'] at hp ⊢
  rcases hp with (hp | hp) | ⟨hp,hq⟩
  ·left; rw [Nat.eq_of_beq_eq_true hp]; simp
  ·right
   have:=Nat.eq_of_beq_eq_true hp
   cases hd : (ops[i]).dst with
   | none=>rfl
   | some x=>rw [hd] at this; simp [dCode] at this
  ·right
   cases hd : (ops[i]).dst with
   | none=>rfl
   | some x =>
    rw [hd] at hp hq
    simp only [Bool.and_eq_true,Bool.or_eq_true,Bool.not_eq_true']
    refine ⟨?_,?_⟩
    ·simp only [bne_iff_ne,ne_eq]
     intro hx
     rw [hx] at hp
     simp at hp
    ·rw [k.masks j hj,k.masks i hi]
     rcases hq with (hq | hq) | hq
     ·left; left
      cases hc : ((ops[j]).looksAt ops).contains x with
      | false=>rfl
      | true =>
       have : x ∈ (ops[j]).looksAt ops:=by simpa using hc
       have:=(lSum_bit _ x).2 this
       simp only [dCode,Nat.add_sub_cancel] at hq
       rw [hq] at this; cases this
     ·left; right; exact hq
     ·right; exact hq
def zH5 (c : Cert) (L : Nat) : Nat → Nat → List Nat
 | 0,_=>[]
 | n + 1,k=>if !L.testBit k && Nat.beq (c.e k &&& L) (c.e k) then k :: zH5 c L n (k + 1) else zH5 c L n (k + 1)
theorem and_sub {a b : Nat} : Nat.beq (a &&& b) a = true ↔ ∀ i,a.testBit i = true → b.testBit i = true:=by
 constructor
 ·intro h i hi
  have:=Nat.eq_of_beq_eq_true h
  have h2:=congrArg (fun x=>x.testBit i) this
  simp only [Nat.testBit_and,hi,Bool.true_and] at h2
  exact h2
 ·intro h
  have : a &&& b = a:=by
   refine Nat.eq_of_testBit_eq fun i=>?_
   rw [Nat.testBit_and]
   cases hi : a.testBit i with
   | false=>rfl
   | true=>simp [h i hi]
  rw [this]; simp
theorem zV9 {ops : Array Oper} {c : Cert} (k : CkOk ops c) {listed : Array Bool} {L : Nat} (hsz : listed.size = ops.size) (hL : ∀ i,i < ops.size → listed.getD i false = L.testBit i) : Region.ready .any ops listed = zH5 c L c.n 0:=by
 have key : ∀ n j,j + n = ops.size → zH5 c L n j = (List.range' j n).filter fun i=>!listed.getD i true && ((ops[i]?).map (·.after.all fun e=>!Region.binds .any e || listed.getD e.on false)).getD false:=by
  intro n
  induction n with
  | zero=>intro j _; rfl
  | succ n ih =>
   intro j hj
   have hlt : j < ops.size:=by omega
   have ho : ops[j]? = some ops[j]:=Array.getElem?_eq_getElem hlt
   simp only [zH5,List.range'_succ,List.filter_cons,ih (j + 1) (by omega),ho,Option.map_some,Option.getD_some]
   have h1 : listed.getD j true = L.testBit j:=by
    rw [← hL j hlt]
    have : j < listed.size:=by omega
    simp [Array.getD_eq_getD_getElem?,Array.getElem?_eq_getElem this]
   have h2 : Nat.beq (c.e j &&& L) (c.e j) = (ops[j]).after.all fun e=>!Region.binds .any e || listed.getD e.on false:=by
    rw [Bool.eq_iff_iff,and_sub,k.e j _ ho,Array.all_eq_true']
    constructor
    ·intro h e he
     cases hb : Region.binds .any e with
     | false=>rfl
     | true =>
      have:=h e.on ((zNu _ _).2 ⟨e,by simpa using he,hb,rfl⟩)
      rw [hL _ (Nat.lt_trans (k.on_lt ho he hb) hlt),this]; rfl
    ·intro h i hi
     obtain ⟨e,he,hb,rfl⟩:=(zNu _ _).1 hi
     have he' : e ∈ (ops[j]).after:=by simpa using he
     have:=h e he'
     rw [hb] at this
     rw [← hL _ (Nat.lt_trans (k.on_lt ho he' hb) hlt)]
     simpa using this
   rw [h1,h2]
 have:=key c.n 0 (by rw [k.n]; omega)
 rw [this]
 show (List.range ops.size).filter _ = _
 rw [List.range_eq_range',k.n]
noncomputable def zJt (P : Program) (E : Env) (ops : Array Oper) (c : Cert) : Nat → Nat → D
 | 0,_=>fun _ _ _=>none
 | n + 1,L =>
  match zH5 c L c.n 0 with
  | []=>dEnd
  | r0 :: rest =>
   match (r0 :: rest).find? (zEq ops) with
   | some i =>
    (match ops[i]? with
     | some o =>
      (match o.guard with
      | none=>if zDc o.op then dRd i o.dst (opQ P o.op) (zJt P E ops c n (L ||| 2 ^ i)) else dOp o.dst (opQ P o.op) (zJt P E ops c n (L ||| 2 ^ i))
      | some (j,w)=>if zDc o.op then dRdG i (gOf ops j) w o.dst (opQ P o.op) (zJt P E ops c n (L ||| 2 ^ i)) else dOpG (gOf ops j) w o.dst (opQ P o.op) (zJt P E ops c n (L ||| 2 ^ i)))
     | none=>fun _ _ _=>none)
   | none =>
    if rest.isEmpty then
     (match ops[r0]? with
      | some o =>
       (match o.guard with
       | none=>dHv (c.m r0) o.dst (opS P E o.op) (zJt P E ops c n (L ||| 2 ^ r0))
       | some (j,w)=>dHvG (c.m r0) (gOf ops j) w o.dst (opS P E o.op) (zJt P E ops c n (L ||| 2 ^ r0)))
      | none=>fun _ _ _=>none)
    else fun _ _ _=>none
theorem zSs (P : Program) (E : Env) {ops : Array Oper} {c : Cert} (k : CkOk ops c) : ∀ (n : Nat) (listed : Array Bool) (L : Nat),listed.size = ops.size → (∀ i,i < ops.size → listed.getD i false = L.testBit i) → zIn P E ops (masks ops) n listed = zJt P E ops c n L
 | 0,_,_,_,_=>rfl
 | n + 1,listed,L,hsz,hL=>by
  have step : ∀ i,i < ops.size → zIn P E ops (masks ops) n (listed.setIfInBounds i true) = zJt P E ops c n (L ||| 2 ^ i):=fun i hi=>by
   refine zSs P E k n _ _ (by simp [hsz]) fun j hj=>?_
   rw [Nat.testBit_or,Nat.testBit_two_pow]
   by_cases hji : i = j
   ·subst hji; simp [Array.getD_eq_getD_getElem?,hsz,hi]
   ·rw [getD_set_ne _ hji,hL j hj]; simp [hji]
  simp only [zIn,zJt,zV9 k hsz hL]
  cases hr : zH5 c L c.n 0 with
  | nil=>rfl
  | cons r0 rest =>
   simp only
   cases hq : (r0 :: rest).find? (zEq ops) with
   | some i =>
    simp only
    cases ho : ops[i]? with
    | none=>rfl
    | some o =>
     simp only [step i (Array.getElem?_eq_some_iff.1 ho).1]
     all_goals (cases o.guard <;> rfl)
   | none =>
    simp only
    cases hrest : rest.isEmpty with
    | false=>rfl
    | true =>
     simp only [if_true]
     cases ho : ops[r0]? with
     | none=>rfl
     | some o =>
      have hlt:=(Array.getElem?_eq_some_iff.1 ho).1
      simp only [step r0 hlt,k.masks r0 hlt]
      all_goals (cases o.guard <;> rfl)
noncomputable def compR (P : Program) (E : Env) (ops : Array Oper) (c : Cert) : C :=
 if ck ops c then cD (zJt P E ops c (ops.size + 1) 0) else if zHd ops then cD (zIn P E ops (masks ops) (ops.size + 1) (Array.replicate ops.size false)) else zP4
theorem compR_eq (P : Program) (E : Env) (ops : Array Oper) (c : Cert) : (if zHd ops then cD (zIn P E ops (masks ops) (ops.size + 1) (Array.replicate ops.size false)) else zP4) = compR P E ops c:=by
 unfold compR
 cases hc : ck ops c with
 | false=>simp only [Bool.false_eq_true,if_false]
 | true =>
  have k:=ck_ok hc
  simp only [k.draw,if_true]
  rw [zSs P E k _ _ 0 (by simp) (fun i hi=>by simp [Array.getD_eq_getD_getElem?,hi])]
noncomputable def zFc (P : Program) (E : Env) (tab : Nat → Cert) : Code → C
 | .skip=>zYp
 | .label _=>zYp
 | .region id ops draw=>if draw then compR P E ops (tab id) else cR (zNx P E ops (List.range ops.size))
 | .seq a b=>cSeq (zFc P E tab a) (zFc P E tab b)
 | .cond c a b=>cIf (fun t=>zBk t c) (zFc P E tab a) (zFc P E tab b)
 | .block id b=>zSw id (zFc P E tab b)
 | .loop b=>cLoop E (zFc P E tab b)
 | .scope b=>zFc P E tab b
 | .exit id=>cExit id
 | .ret=>cRet
 | .goto _=>zP4
 | .refuse _=>zP4
 | .rangeFunc f ps assign body=>zYq E (fun t=>zBk t f) ps.toList assign body
theorem zSr (P : Program) (E : Env) (tab : Nat → Cert) : ∀ (c : Code),zFd P E c = zFc P E tab c:=by
 intro c
 induction c with
 | region id ops draw =>
  simp only [zFd,zFc]
  cases draw with
  | true=>simp only [if_true]; exact compR_eq P E ops (tab id)
  | false=>rfl
 | seq a b iha ihb=>simp only [zFd,zFc,iha,ihb]
 | cond c a b iha ihb=>simp only [zFd,zFc,iha,ihb]
 | block id b ih=>simp only [zFd,zFc,ih]
 | loop b ih=>simp only [zFd,zFc,ih]
 | scope b ih=>simp only [zFd,zFc,ih]
 | _=>rfl
theorem call_st {P : Program} {f : Nat} {fn : Func} {c : Code} {b : C} {rs : List RV} (tab : Nat → Cert) (hf : P.funcs[f]? = some fn) (hc : fn.body = some c) (hb : zFc P (envL P) tab c = b) (hr : ∀ t h,zDr P t h fn.results.toList = resS t h rs)
  {n : Nat} (hn : fn.ntmps = n) (args : List AV) (h : zAa) : (envL P).call f args h = trim h (fin rs (b (args ++ List.replicate (n - args.length) .undef) h)) :=
 call_sh hf hc ((zSr P (envL P) tab c).trans hb) hr hn args h
theorem code_st {P : Program} {E : Env} {c : Code} {b : C} (tab : Nat → Cert) (hb : zFc P E tab c = b) (t : T) (h : zAa) : zAi P E c t h = b t h:=by
 rw [zSt,zSr P E tab c,hb]
end Go.Proofs.YtbmmnfeeapnhkaaGreat.Eng
end
section
namespace Go.Proofs.YtbmmnfeeapnhkaaGreat.Eng
open Go
structure Item where
 g : Option (Option Nat × Bool)
 d : Option Nat
 f : S
inductive Step where
 | op (i : Item)
 | rd (at_ : Nat) (i : Item)
 | hv (m : Nat) (i : Item)
 | bad
inductive CT where
 | skip
 | none
 | exit (id : Nat)
 | ret
 | reg (l : List Item)
 | drw (l : List Step)
 | seq (a b : CT)
 | ite (x : T → AV) (a b : CT)
 | block (id : Nat) (a : CT)
 | loop (a : CT)
 | range (f : T → AV) (ps : List Nat) (assign body : Code)
def o (d : Nat) (f : S) : Item:=⟨none,some d,f⟩
def u (f : S) : Item:=⟨none,none,f⟩
def og (g : Nat) (w : Bool) (d : Nat) (f : S) : Item:=⟨some (some g,w),some d,f⟩
def ug (g : Nat) (w : Bool) (f : S) : Item:=⟨some (some g,w),none,f⟩
def runI : List Item → R
 | []=>rEnd
 | i :: l =>
  match i.g with
  | none=>rOp i.d i.f (runI l)
  | some (g,w)=>rOpG g w i.d i.f (runI l)
noncomputable def runD : List Step → D
 | []=>dEnd
 | .op i :: l=>(match i.g with | none=>dOp i.d i.f (runD l) | some (g,w)=>dOpG g w i.d i.f (runD l))
 | .rd k i :: l=>(match i.g with | none=>dRd k i.d i.f (runD l) | some (g,w)=>dRdG k g w i.d i.f (runD l))
 | .hv m i :: l=>(match i.g with | none=>dHv m i.d i.f (runD l) | some (g,w)=>dHvG m g w i.d i.f (runD l))
 | .bad :: _=>fun _ _ _=>none
noncomputable def runC (E : Env) : CT → C
 | .skip=>zYp
 | .none=>zP4
 | .exit id=>cExit id
 | .ret=>cRet
 | .reg l=>cR (runI l)
 | .drw l=>cD (runD l)
 | .seq a b=>cSeq (runC E a) (runC E b)
 | .ite x a b=>cIf x (runC E a) (runC E b)
 | .block id a=>zSw id (runC E a)
 | .loop a=>cLoop E (runC E a)
 | .range f ps assign body=>zYq E f ps assign body
def zJn (ops : Array Oper) (f : S) (o : Oper) : Item :=
 match o.guard with
 | none=>⟨none,o.dst,f⟩
 | some (j,w)=>⟨some (gOf ops j,w),o.dst,f⟩
def zU6 (P : Program) (E : Env) (ops : Array Oper) : List Nat → List Item
 | []=>[]
 | i :: l =>
  match ops[i]? with
  | none=>zU6 P E ops l
  | some o=>zJn ops (opS P E o.op) o :: zU6 P E ops l
theorem zM2 (P : Program) (E : Env) (ops : Array Oper) : ∀ l,zNx P E ops l = runI (zU6 P E ops l)
 | []=>rfl
 | i :: l=>by
  simp only [zNx,zU6]
  cases ho : ops[i]? with
  | none=>exact zM2 P E ops l
  | some o =>
   simp only [runI,zJn,zM2 P E ops l]
   cases o.guard with
   | none=>rfl
   | some p=>rfl
def zTb (P : Program) (E : Env) (ops : Array Oper) (c : Cert) : Nat → Nat → List Step
 | 0,_=>[.bad]
 | n + 1,L =>
  match zH5 c L c.n 0 with
  | []=>[]
  | r0 :: rest =>
   match (r0 :: rest).find? (zEq ops) with
   | some i =>
    (match ops[i]? with
     | some o=>if zDc o.op then .rd i (zJn ops (opQ P o.op) o) :: zTb P E ops c n (L ||| 2 ^ i) else .op (zJn ops (opQ P o.op) o) :: zTb P E ops c n (L ||| 2 ^ i)
     | none=>[.bad])
   | none =>
    if rest.isEmpty then
     (match ops[r0]? with
      | some o=>.hv (c.m r0) (zJn ops (opS P E o.op) o) :: zTb P E ops c n (L ||| 2 ^ r0)
      | none=>[.bad])
    else [.bad]
theorem zJw (P : Program) (E : Env) (ops : Array Oper) (c : Cert) : ∀ n L,zJt P E ops c n L = runD (zTb P E ops c n L)
 | 0,_=>rfl
 | n + 1,L=>by
  simp only [zJt,zTb]
  cases hr : zH5 c L c.n 0 with
  | nil=>rfl
  | cons r0 rest =>
   simp only
   cases hq : (r0 :: rest).find? (zEq ops) with
   | some i =>
    simp only
    cases ho : ops[i]? with
    | none=>rfl
    | some o =>
     simp only
     cases hrd : zDc o.op with
     | true =>
      simp only [if_true,runD,zJn,zJw P E ops c n]
      all_goals (cases o.guard <;> rfl)
     | false =>
      simp only [Bool.false_eq_true,if_false,runD,zJn,zJw P E ops c n]
      all_goals (cases o.guard <;> rfl)
   | none =>
    simp only
    cases hrest : rest.isEmpty with
    | false=>rfl
    | true =>
     simp only [if_true]
     cases ho : ops[r0]? with
     | none=>rfl
     | some o =>
      simp only [runD,zJn,zJw P E ops c n]
      all_goals (cases o.guard <;> rfl)
def zJo (k : Nat) : List Step → Bool
 | []=>true
 | .hv m _ :: l=>m.testBit k && zJo k l
 | .op _ :: l=>zJo k l
 | .rd _ _ :: l=>zJo k l
 | .bad :: l=>zJo k l
def slim : List Step → List Step
 | []=>[]
 | .rd k i :: l=>if zJo k l then .op i :: slim l else .rd k i :: slim l
 | .op i :: l=>.op i :: slim l
 | .hv m i :: l=>.hv m i :: slim l
 | .bad :: l=>.bad :: slim l
theorem zNy {m : Nat} {h : zAa} {o : Open} (hb : m.testBit o.at_ = true) : ∀ (a b : List Open),chk m h (a ++ o :: b) = chk m h (a ++ b)
 | [],b=>by simp [chk,hb]
 | x :: a,b=>by simp only [List.cons_append,chk,zNy hb a b]
theorem zIi {o : Open} : ∀ (l : List Step),zJo o.at_ l = true → ∀ (t : T) (h : zAa) (a b : List Open),runD l t h (a ++ o :: b) = runD l t h (a ++ b)
 | [],_,_,_,_,_=>rfl
 | .op i :: l,hb,t,h,a,b=>by
  have ih:=zIi l hb
  simp only [runD]
  cases i.g with
  | none=>simp only [dOp,ih]
  | some p=>simp only [dOpG,ih]
 | .rd k i :: l,hb,t,h,a,b=>by
  have ih:=zIi l hb
  have ih':=fun t h x=>ih t h (x :: a) b
  simp only [List.cons_append] at ih'
  simp only [runD]
  cases i.g with
  | none=>simp only [dRd,ih']
  | some p=>simp only [dRdG,ih,ih']
 | .hv m i :: l,hb,t,h,a,b=>by
  simp only [zJo,Bool.and_eq_true] at hb
  have ih:=zIi l hb.2
  simp only [runD]
  cases i.g with
  | none=>simp only [dHv,ih,zNy hb.1]
  | some p=>simp only [dHvG,ih,zNy hb.1]
 | .bad :: l,_,_,_,_,_=>rfl
theorem zFw : ∀ (l : List Step) (t : T) (h : zAa) (os : List Open),runD (slim l) t h os = runD l t h os
 | [],_,_,_=>rfl
 | .op i :: l,t,h,os=>by
  simp only [slim,runD]
  cases i.g with
  | none=>simp only [dOp,zFw l]
  | some p=>simp only [dOpG,zFw l]
 | .hv m i :: l,t,h,os=>by
  simp only [slim,runD]
  cases i.g with
  | none=>simp only [dHv,zFw l]
  | some p=>simp only [dHvG,zFw l]
 | .bad :: l,_,_,_=>rfl
 | .rd k i :: l,t,h,os=>by
  simp only [slim]
  cases hb : zJo k l with
  | false =>
   simp only [Bool.false_eq_true,if_false,runD]
   cases i.g with
   | none=>simp only [dRd,zFw l]
   | some p=>simp only [dRdG,zFw l]
  | true =>
   have dr:=fun t h f v=>zIi (o:=⟨k,f,v⟩) l hb t h [] os
   simp only [List.nil_append] at dr
   simp only [if_true,runD]
   cases i.g with
   | none=>simp only [dOp,dRd,zFw l,dr]
   | some p=>simp only [dOpG,dRdG,zFw l,dr]
def zGi (P : Program) (E : Env) (tab : Nat → Cert) : Code → Option CT
 | .skip=>some .skip
 | .label _=>some .skip
 | .region id ops draw=>if draw then (if ck ops (tab id) then some (.drw (slim (zTb P E ops (tab id) (ops.size + 1) 0))) else Option.none) else some (.reg (zU6 P E ops (List.range ops.size)))
 | .seq a b=>(zGi P E tab a).bind fun x=>(zGi P E tab b).map fun y=>.seq x y
 | .cond c a b=>(zGi P E tab a).bind fun x=>(zGi P E tab b).map fun y=>.ite (fun t=>zBk t c) x y
 | .block id b=>(zGi P E tab b).map fun y=>.block id y
 | .loop b=>(zGi P E tab b).map fun y=>.loop y
 | .scope b=>zGi P E tab b
 | .exit id=>some (.exit id)
 | .ret=>some .ret
 | .goto _=>some .none
 | .refuse _=>some .none
 | .rangeFunc f ps assign body=>some (.range (fun t=>zBk t f) ps.toList assign body)
theorem zRm (P : Program) (E : Env) (tab : Nat → Cert) : ∀ (c : Code) (x : CT),zGi P E tab c = some x → zFc P E tab c = runC E x:=by
 intro c
 induction c with
 | region id ops draw =>
  intro x h
  simp only [zGi] at h
  simp only [zFc]
  cases draw with
  | true =>
   simp only [if_true] at h ⊢
   split at h
   ·rename_i hk
    injection h with h; subst h
    simp only [compR,hk,if_true,runC,zJw]
    congr 1
    funext t h os
    exact (zFw _ t h os).symm
   ·cases h
  | false =>
   simp only [Bool.false_eq_true,if_false] at h ⊢
   injection h with h; subst h
   simp only [runC,zM2]
 | seq a b iha ihb =>
  intro x h
  simp only [zGi] at h
  obtain ⟨xa,ha,h⟩:=Option.bind_eq_some_iff.1 h
  obtain ⟨xb,hb,rfl⟩:=Option.map_eq_some_iff.1 h
  simp only [zFc,runC,iha _ ha,ihb _ hb]
 | cond c a b iha ihb =>
  intro x h
  simp only [zGi] at h
  obtain ⟨xa,ha,h⟩:=Option.bind_eq_some_iff.1 h
  obtain ⟨xb,hb,rfl⟩:=Option.map_eq_some_iff.1 h
  simp only [zFc,runC,iha _ ha,ihb _ hb]
 | block id b ih =>
  intro x h
  simp only [zGi] at h
  obtain ⟨xb,hb,rfl⟩:=Option.map_eq_some_iff.1 h
  simp only [zFc,runC,ih _ hb]
 | loop b ih =>
  intro x h
  simp only [zGi] at h
  obtain ⟨xb,hb,rfl⟩:=Option.map_eq_some_iff.1 h
  simp only [zFc,runC,ih _ hb]
 | scope b ih=>intro x h; exact ih x h
 | _=>intro x h; simp only [zGi,Option.some.injEq] at h; subst h; rfl
theorem zAk {P : Program} {f : Nat} {fn : Func} {c : Code} {b : CT} {rs : List RV} (tab : Nat → Cert) (hf : P.funcs[f]? = some fn) (hc : fn.body = some c) (hb : zGi P (envL P) tab c = some b) (hr : ∀ t h,zDr P t h fn.results.toList = resS t h rs)
  {n : Nat} (hn : fn.ntmps = n) (args : List AV) (h : zAa) : (envL P).call f args h = trim h (fin rs (runC (envL P) b (args ++ List.replicate (n - args.length) .undef) h)) :=
 call_st tab hf hc (zRm P (envL P) tab c b hb) hr hn args h
theorem zC3 {P : Program} {E : Env} {c : Code} {b : CT} (tab : Nat → Cert) (hb : zGi P E tab c = some b) (t : T) (h : zAa) : zAi P E c t h = runC E b t h :=
 code_st tab (zRm P E tab c b hb) t h
def zEi : Code → List (Code × Code)
 | .seq a b=>zEi a ++ zEi b
 | .cond _ a b=>zEi a ++ zEi b
 | .block _ b=>zEi b
 | .loop b=>zEi b
 | .scope b=>zEi b
 | .rangeFunc _ _ a b=>(a,b) :: (zEi a ++ zEi b)
 | _=>[]
def zCl (fn : Func) (k : Nat) : Code × Code:=(((fn.body.map zEi).getD [])[k]?).getD (.skip,.skip)
end Go.Proofs.YtbmmnfeeapnhkaaGreat.Eng
end
section
namespace Go.Proofs.YtbmmnfeeapnhkaaGreat.Eng
open Go
section
variable {t : T} {h : zAa} {E : Env}
theorem get_zero (a : AV) (l : T) : getT (a :: l) 0 = a:=rfl
theorem get_succ (a : AV) (l : T) (n : Nat) : getT (a :: l) (n + 1) = getT l n:=rfl
def zX5 (r : Option (AV × zAa)) (d : Nat) (l : List Item) (t : T) : Option (T × zAa):=r.bind fun r=>runI l (t.set d r.1) r.2
def zPw (r : Option (AV × zAa)) (l : List Item) (t : T) : Option (T × zAa):=r.bind fun r=>runI l t r.2
theorem zT0 (v : AV) (h : zAa) (d : Nat) (l : List Item) (t : T) : zX5 (some (v,h)) d l t = runI l (t.set d v) h:=rfl
theorem zQz (v : AV) (h : zAa) (l : List Item) (t : T) : zPw (some (v,h)) l t = runI l t h:=rfl
noncomputable def zX7 (r : Option (AV × zAa)) (d : Nat) (l : List Step) (t : T) (os : List Open) : Option (T × zAa):=r.bind fun r=>runD l (t.set d r.1) r.2 os
theorem zT2 (v : AV) (h : zAa) (d : Nat) (l : List Step) (t : T) (os : List Open) : zX7 (some (v,h)) d l t os = runD l (t.set d v) h os:=rfl
noncomputable def zX4 (r : Option (AV × zAa)) (c : Bool) (k : Nat) (f : S) (d : Nat) (l : List Step) (t : T) (os : List Open) : Option (T × zAa):=r.bind fun r=>runD l (t.set d r.1) r.2 (bif c then ⟨k,f t,r.1⟩ :: os else os)
noncomputable def tst (b : Bool) (l : List Step) (t : T) (h : zAa) (os : List Open) : Option (T × zAa):=if b then runD l t h os else none
theorem tst_true (l : List Step) (t : T) (h : zAa) (os : List Open) : tst true l t h os = runD l t h os:=rfl
noncomputable def zX6 (r : Option (AV × zAa)) (c : Bool) (m : Nat) (d : Nat) (l : List Step) (t : T) (os : List Open) : Option (T × zAa):=r.bind fun r=>tst (!c || chk m r.2 os) l (t.set d r.1) r.2 os
theorem zT1 (v : AV) (h : zAa) (c : Bool) (m d : Nat) (l : List Step) (t : T) (os : List Open) : zX6 (some (v,h)) c m d l t os = tst (!c || chk m h os) l (t.set d v) h os:=rfl
noncomputable def contHu (r : Option (AV × zAa)) (m : Nat) (l : List Step) (t : T) (os : List Open) : Option (T × zAa):=r.bind fun r=>tst (chk m r.2 os) l t r.2 os
theorem zQ0 (v : AV) (h : zAa) (m : Nat) (l : List Step) (t : T) (os : List Open) : contHu (some (v,h)) m l t os = tst (chk m h os) l t h os:=rfl
theorem runI_nil : runI [] t h = some (t,h):=rfl
theorem runI_o (d : Nat) (f : S) (l : List Item) : runI (o d f :: l) t h = zX5 (f t h) d l t:=rfl
theorem runI_u (f : S) (l : List Item) : runI (u f :: l) t h = zPw (f t h) l t:=rfl
def zAh (c : Bool) (r : Option (AV × zAa)) (h : zAa) : Option (AV × zAa):=if c then r else some (.undef,h)
def gval (x : AV) (w : Bool) : Option Bool :=
 match x with
 | .bool b=>some (b == w)
 | .any=>none
 | _=>some false
theorem zXo (g : Nat) (w : Bool) (t : T) : gd (some g) w t = gval (getT t g) w:=by
 unfold gd gval getT
 simp only
 cases hx : t[g]? with
 | none=>rfl
 | some x=>cases x <;> rfl
def onI (x : Option Bool) (f : S) (d : Nat) (l : List Item) (t : T) (h : zAa) : Option (T × zAa):=x.bind fun c=>zX5 (zAh c (f t h) h) d l t
theorem onI_some (c : Bool) (f : S) (d : Nat) (l : List Item) (t : T) (h : zAa) : onI (some c) f d l t h = zX5 (zAh c (f t h) h) d l t:=rfl
def onIu (x : Option Bool) (f : S) (l : List Item) (t : T) (h : zAa) : Option (T × zAa):=x.bind fun c=>zPw (zAh c (f t h) h) l t
theorem zWt (c : Bool) (f : S) (l : List Item) (t : T) (h : zAa) : onIu (some c) f l t h = zPw (zAh c (f t h) h) l t:=rfl
theorem runI_og (g : Nat) (w : Bool) (d : Nat) (f : S) (l : List Item) : runI (og g w d f :: l) t h = onI (gval (getT t g) w) f d l t h:=by
 show rOpG (some g) w (some d) f (runI l) t h = _
 unfold rOpG onI zX5
 rw [zXo]
 congr 1
 funext c
 cases c <;> rfl
theorem runI_ug (g : Nat) (w : Bool) (f : S) (l : List Item) : runI (ug g w f :: l) t h = onIu (gval (getT t g) w) f l t h:=by
 show rOpG (some g) w none f (runI l) t h = _
 unfold rOpG onIu zPw
 rw [zXo]
 congr 1
 funext c
 cases c <;> rfl
variable {os : List Open}
theorem runD_nil : runD [] t h os = some (t,h):=rfl
theorem runD_o (d : Nat) (f : S) (l : List Step) : runD (.op (o d f) :: l) t h os = zX7 (f t h) d l t os:=rfl
theorem runD_rd (k d : Nat) (f : S) (l : List Step) : runD (.rd k (o d f) :: l) t h os = zX4 (f t h) true k f d l t os:=rfl
theorem runD_hv (m d : Nat) (f : S) (l : List Step) : runD (.hv m (o d f) :: l) t h os = zX6 (f t h) true m d l t os:=rfl
theorem runD_hvu (m : Nat) (f : S) (l : List Step) : runD (.hv m (u f) :: l) t h os = contHu (f t h) m l t os:=rfl
noncomputable def onD (x : Option Bool) (f : S) (d : Nat) (l : List Step) (t : T) (h : zAa) (os : List Open) : Option (T × zAa):=x.bind fun c=>zX7 (zAh c (f t h) h) d l t os
theorem onD_some (c : Bool) (f : S) (d : Nat) (l : List Step) (t : T) (h : zAa) (os : List Open) : onD (some c) f d l t h os = zX7 (zAh c (f t h) h) d l t os:=rfl
theorem runD_og (g : Nat) (w : Bool) (d : Nat) (f : S) (l : List Step) : runD (.op (og g w d f) :: l) t h os = onD (gval (getT t g) w) f d l t h os:=by
 show dOpG (some g) w (some d) f (runD l) t h os = _
 unfold dOpG onD zX7
 rw [zXo]
 congr 1
 funext c
 cases c <;> rfl
def zWp (c : Bool) (o : Open) (os : List Open) : List Open:=bif c then o :: os else os
theorem zTz (v : AV) (h : zAa) (c : Bool) (k : Nat) (f : S) (d : Nat) (l : List Step) (t : T) (os : List Open) : zX4 (some (v,h)) c k f d l t os = runD l (t.set d v) h (zWp c ⟨k,f t,v⟩ os):=rfl
noncomputable def onR (x : Option Bool) (k : Nat) (f : S) (d : Nat) (l : List Step) (t : T) (h : zAa) (os : List Open) : Option (T × zAa):=x.bind fun c=>zX4 (zAh c (f t h) h) c k f d l t os
theorem onR_some (c : Bool) (k : Nat) (f : S) (d : Nat) (l : List Step) (t : T) (h : zAa) (os : List Open) : onR (some c) k f d l t h os = zX4 (zAh c (f t h) h) c k f d l t os:=rfl
theorem runD_rdg (k g : Nat) (w : Bool) (d : Nat) (f : S) (l : List Step) : runD (.rd k (og g w d f) :: l) t h os = onR (gval (getT t g) w) k f d l t h os:=by
 show dRdG k (some g) w (some d) f (runD l) t h os = _
 unfold dRdG onR zX4
 rw [zXo]
 congr 1
 funext c
 cases c <;> rfl
noncomputable def onH (x : Option Bool) (m : Nat) (f : S) (d : Nat) (l : List Step) (t : T) (h : zAa) (os : List Open) : Option (T × zAa):=x.bind fun c=>zX6 (zAh c (f t h) h) c m d l t os
theorem onH_some (c : Bool) (m : Nat) (f : S) (d : Nat) (l : List Step) (t : T) (h : zAa) (os : List Open) : onH (some c) m f d l t h os = zX6 (zAh c (f t h) h) c m d l t os:=rfl
theorem runD_hvg (m g : Nat) (w : Bool) (d : Nat) (f : S) (l : List Step) : runD (.hv m (og g w d f) :: l) t h os = onH (gval (getT t g) w) m f d l t h os:=by
 show dHvG m (some g) w (some d) f (runD l) t h os = _
 unfold dHvG onH zX6 tst
 rw [zXo]
 congr 1
 funext c
 cases c <;> rfl
theorem chk_nil (m : Nat) : chk m h [] = true:=rfl
open Classical in
theorem chk_cons (m : Nat) (o : Open) (os : List Open) : chk m h (o :: os) = ((m.testBit o.at_ || decide (o.again h = some (o.val,h))) && chk m h os):=rfl
open Classical in
theorem chk_if (m : Nat) (c : Bool) (o : Open) (os : List Open) : chk m h (zWp c o os) = ((!c || (m.testBit o.at_ || decide (o.again h = some (o.val,h)))) && chk m h os):=by
 cases c <;> simp [zWp,chk]
theorem zVx : runC E .skip t h = some (.normal,t,h):=rfl
theorem zVy (id : Nat) : runC E (.exit id) t h = some (.exit id,t,h):=rfl
theorem runC_ret : runC E .ret t h = some (.ret,t,h):=rfl
theorem runC_reg (l : List Item) : runC E (.reg l) t h = zNj (runI l t h):=rfl
theorem runC_drw (l : List Step) : runC E (.drw l) t h = zNj (runD l t h []):=rfl
theorem runC_seq (a b : CT) : runC E (.seq a b) t h = seqR (runC E a t h) (runC E b):=rfl
theorem runC_ite (x : T → AV) (a b : CT) : runC E (.ite x a b) t h = zNw (x t) (runC E a t h) (runC E b t h):=rfl
theorem zTm (id : Nat) (a : CT) : runC E (.block id a) t h = zBr id (runC E a t h):=rfl
theorem zA6 (a : CT) : runC E (.loop a) t h = E.loop (runC E a) t h:=rfl
theorem zDe (f : T → AV) (ps : List Nat) (a b : Code) : runC E (.range f ps a b) t h = zCr h.length t (zLr E (f t) [.yld h.length] (h ++ [.loop ⟨.ready,.normal,t,ps,a,b⟩])):=rfl
theorem zTr (p : T × zAa) : zNj (some p) = some (.normal,p.1,p.2):=rfl
theorem zQe (t : T) (h : zAa) (k : C) : seqR (some (.normal,t,h)) k = k t h:=rfl
theorem zAu (id : Nat) (t : T) (h : zAa) (k : C) : seqR (some (.exit id,t,h)) k = some (.exit id,t,h):=rfl
theorem zFx (t : T) (h : zAa) (k : C) : seqR (some (.ret,t,h)) k = some (.ret,t,h):=rfl
theorem zT5 (b : Bool) (x y : Res) : zNw (.bool b) x y = bif b then x else y:=by cases b <;> rfl
theorem zVj (b : Bool) (x y : Res) (k : C) : seqR (bif b then x else y) k = bif b then seqR x k else seqR y k:=by cases b <;> rfl
theorem zRb (b : Bool) (x y : Res) (id : Nat) : zBr id (bif b then x else y) = bif b then zBr id x else zBr id y:=by cases b <;> rfl
theorem fin_cond (b : Bool) (x y : Res) (rs : List RV) : fin rs (bif b then x else y) = bif b then fin rs x else fin rs y:=by cases b <;> rfl
theorem zU5 (b : Bool) (x y : Option (AV × zAa)) : trim h (bif b then x else y) = bif b then trim h x else trim h y:=by cases b <;> rfl
theorem zN4 (id : Nat) (t : T) (h : zAa) : zBr id (some (.normal,t,h)) = some (.normal,t,h):=rfl
theorem zUm (id : Nat) (t : T) (h : zAa) : zBr id (some (.ret,t,h)) = some (.ret,t,h):=rfl
theorem zRa (id j : Nat) (t : T) (h : zAa) : zBr id (some (.exit j,t,h)) = if j = id then some (.normal,t,h) else some (.exit j,t,h):=rfl
theorem fin_ret (rs : List RV) (t : T) (h : zAa) : fin rs (some (.ret,t,h)) = (resS t h rs).map fun vs=>(zHl vs,h):=rfl
theorem zTu (rs : List RV) (t : T) (h : zAa) : fin rs (some (.normal,t,h)) = (resS t h rs).map fun vs=>(zHl vs,h):=rfl
theorem res_nil : resS t h [] = some []:=rfl
theorem res_tmp (i : Nat) (rs : List RV) : resS t h (.tmp i :: rs) = (resS t h rs).map fun vs=>getT t i :: vs:=rfl
theorem res_cell (i sz : Nat) (agg : Bool) (rs : List RV) : resS t h (.cell i sz agg :: rs) = (zGq sz agg (getT t i) h).bind fun v=>(resS t h rs).map fun vs=>v :: vs:=rfl
theorem zWr (v : AV) : zHl [v] = v:=rfl
theorem zWs : zHl [] = .tup []:=rfl
theorem zWq (a b : AV) (l : List AV) : zHl (a :: b :: l) = .tup (a :: b :: l):=rfl
theorem zXl (b w : Bool) : gval (.bool b) w = some (b == w):=rfl
theorem zTt (w : Bool) : gval .undef w = some false:=rfl
theorem zQo (v : AV) : zAp h (some v) = some (v,h):=rfl
theorem zPe (r : Option (AV × zAa)) : zAh true r h = r:=rfl
theorem zNo (r : Option (AV × zAa)) : zAh false r h = some (.undef,h):=rfl
theorem zNp {c c' : Bool} {r r' : Option (AV × zAa)} {h h' : zAa} (hc : c = c') (hr : c' = true → r = r') (hh : h = h') : zAh c r h = zAh c' r' h':=by
 subst hc; subst hh
 cases c with
 | false=>rfl
 | true=>simp only [zAh,if_true,hr rfl]
attribute [congr] zNp
theorem beq_tt (b : Bool) : (b == true) = b:=by cases b <;> rfl
theorem beq_ff (b : Bool) : (b == false) = !b:=by cases b <;> rfl
def mayV (c : Bool) (v : AV) : AV:=bif c then v else .undef
theorem zPf (c : Bool) (v : AV) : zAh c (some (v,h)) h = some (mayV c v,h):=by cases c <;> rfl
theorem gval_may (c : Bool) (b w : Bool) : gval (mayV c (.bool b)) w = some (c && (b == w)):=by cases c <;> rfl
theorem zPg (c : Bool) (v : AV) (h' : zAa) : zAh c (some (v,h')) h = some (mayV c v,bif c then h' else h):=by cases c <;> rfl
theorem zW6 (v : AV) : mayV true v = v:=rfl
theorem zTs (v : AV) : mayV false v = .undef:=rfl
theorem zWi (b : Bool) (x y : AV) : zNg (.bool b) x y = some (bif b then x else y):=by cases b <;> rfl
theorem zYa (b : Bool) (x y : AV) : (bif b then mayV b x else y) = bif b then x else y:=by cases b <;> rfl
theorem zX9 (b : Bool) (x y : AV) : (bif b then x else mayV (!b) y) = bif b then x else y:=by cases b <;> rfl
theorem zX8 (b : Bool) (x y : AV) : (bif !b then x else mayV b y) = bif !b then x else y:=by cases b <;> rfl
theorem zYc (b y : Bool) : (bif b then y else false) = (b && y):=by cases b <;> rfl
theorem cond_or' (b y : Bool) : (bif b then true else y) = (b || y):=by cases b <;> rfl
theorem zT3 (b x y : Bool) : (bif b then AV.bool x else AV.bool y) = .bool (bif b then x else y):=by cases b <;> rfl
theorem zYb (b : Bool) (k : IntKind) (x y : Int) : (bif b then AV.int k x else AV.int k y) = .int k (bif b then x else y):=by cases b <;> rfl
theorem box_int (k : IntKind) (n : Int) : zA7 (.int k n) = some [.int k n]:=rfl
theorem box_bool (b : Bool) : zA7 (.bool b) = some [.bool b]:=rfl
theorem box_agg (cs : List AV) : zA7 (.agg cs) = some cs:=rfl
theorem not_bool (b : Bool) : unV .not (.bool b) = some (.bool (!b)):=rfl
theorem eq_bool (a b : Bool) : binV .eql .bool (.bool a) (.bool b) = some (.bool (a == b)):=rfl
theorem ne_bool (a b : Bool) : binV .neq .bool (.bool a) (.bool b) = some (.bool (!(a == b))):=rfl
variable (e : EqK) (k : IntKind) (a b : Int)
theorem int_add : binV .add e (.int k a) (.int k b) = some (.int k (k.wrap (a + b))):=by simp [binV,zFe]
theorem int_sub : binV .sub e (.int k a) (.int k b) = some (.int k (k.wrap (a - b))):=by simp [binV,zFe]
theorem int_mul : binV .mul e (.int k a) (.int k b) = some (.int k (k.wrap (a * b))):=by simp [binV,zFe]
theorem int_quo (hb : b ≠ 0) : binV .quo e (.int k a) (.int k b) = some (.int k (k.wrap (a.tdiv b))):=by simp [binV,zFe,hb]
theorem zHo (hb : b ≠ 0) : binV .rem e (.int k a) (.int k b) = some (.int k (a.tmod b)):=by simp [binV,zFe,hb]
theorem int_eql : binV .eql e (.int k a) (.int k b) = some (.bool (a == b)):=by simp [binV,zFe]
theorem int_neq : binV .neq e (.int k a) (.int k b) = some (.bool (a != b)):=by simp [binV,zFe]
theorem int_lss : binV .lss e (.int k a) (.int k b) = some (.bool (decide (a < b))):=by simp [binV,zFe]
theorem int_leq : binV .leq e (.int k a) (.int k b) = some (.bool (decide (a ≤ b))):=by simp [binV,zFe]
theorem int_gtr : binV .gtr e (.int k a) (.int k b) = some (.bool (decide (a > b))):=by simp [binV,zFe]
theorem int_geq : binV .geq e (.int k a) (.int k b) = some (.bool (decide (a ≥ b))):=by simp [binV,zFe]
end
section
variable (c d : Bool) (x : AV) (h : zAa)
theorem may_bin1 (op : BinOp) (e : EqK) (y : AV) : zAh c (zAp h (binV op e (mayV c x) y)) h = zAh c (zAp h (binV op e x y)) h:=by cases c <;> rfl
theorem zW5 (op : BinOp) (e : EqK) (y : AV) : zAh (c && d) (zAp h (binV op e (mayV c x) y)) h = zAh (c && d) (zAp h (binV op e x y)) h:=by cases c <;> rfl
theorem may_bin2 (op : BinOp) (e : EqK) (y : AV) : zAh c (zAp h (binV op e y (mayV c x))) h = zAh c (zAp h (binV op e y x)) h:=by cases c <;> rfl
theorem zW4 (op : BinOp) (e : EqK) (y : AV) : zAh (c && d) (zAp h (binV op e y (mayV c x))) h = zAh (c && d) (zAp h (binV op e y x)) h:=by cases c <;> rfl
theorem may_un (op : UnOp) : zAh c (zAp h (unV op (mayV c x))) h = zAh c (zAp h (unV op x)) h:=by cases c <;> rfl
theorem may_unw (op : UnOp) : zAh (c && d) (zAp h (unV op (mayV c x))) h = zAh (c && d) (zAp h (unV op x)) h:=by cases c <;> rfl
theorem may_load (n : Nat) (g : Bool) : zAh c (zAp h (zGq n g (mayV c x) h)) h = zAh c (zAp h (zGq n g x h)) h:=by cases c <;> rfl
theorem zW3 (n : Nat) (g : Bool) : zAh (c && d) (zAp h (zGq n g (mayV c x) h)) h = zAh (c && d) (zAp h (zGq n g x h)) h:=by cases c <;> rfl
theorem may_fa (n : Nat) : zAh c (zAp h (zEh n (mayV c x))) h = zAh c (zAp h (zEh n x)) h:=by cases c <;> rfl
theorem may_faw (n : Nat) : zAh (c && d) (zAp h (zEh n (mayV c x))) h = zAh (c && d) (zAp h (zEh n x)) h:=by cases c <;> rfl
theorem may_fi (n : Nat) (g : Bool) (m : Nat) : zAh c (zAp h (zK2 n g m (mayV c x))) h = zAh c (zAp h (zK2 n g m x)) h:=by cases c <;> rfl
theorem may_fiw (n : Nat) (g : Bool) (m : Nat) : zAh (c && d) (zAp h (zK2 n g m (mayV c x))) h = zAh (c && d) (zAp h (zK2 n g m x)) h:=by cases c <;> rfl
theorem may_pk (a b : AV) : zAh c (zAp h (zNg (mayV c x) a b)) h = zAh c (zAp h (zNg x a b)) h:=by cases c <;> rfl
theorem may_pkw (a b : AV) : zAh (c && d) (zAp h (zNg (mayV c x) a b)) h = zAh (c && d) (zAp h (zNg x a b)) h:=by cases c <;> rfl
theorem may_cl1 (E : Env) (f : Nat) (l : List AV) : zAh c (E.call f ((mayV c x) :: l) h) h = zAh c (E.call f (x :: l) h) h:=by cases c <;> rfl
theorem may_cl1w (E : Env) (f : Nat) (l : List AV) : zAh (c && d) (E.call f ((mayV c x) :: l) h) h = zAh (c && d) (E.call f (x :: l) h) h:=by cases c <;> rfl
theorem may_cl2 (E : Env) (f : Nat) (a : AV) (l : List AV) : zAh c (E.call f (a :: (mayV c x) :: l) h) h = zAh c (E.call f (a :: x :: l) h) h:=by cases c <;> rfl
theorem may_cl2w (E : Env) (f : Nat) (a : AV) (l : List AV) : zAh (c && d) (E.call f (a :: (mayV c x) :: l) h) h = zAh (c && d) (E.call f (a :: x :: l) h) h:=by cases c <;> rfl
theorem may_cl3 (E : Env) (f : Nat) (a b : AV) (l : List AV) : zAh c (E.call f (a :: b :: (mayV c x) :: l) h) h = zAh c (E.call f (a :: b :: x :: l) h) h:=by cases c <;> rfl
theorem may_cl3w (E : Env) (f : Nat) (a b : AV) (l : List AV) : zAh (c && d) (E.call f (a :: b :: (mayV c x) :: l) h) h = zAh (c && d) (E.call f (a :: b :: x :: l) h) h:=by cases c <;> rfl
theorem may_cl4 (E : Env) (f : Nat) (a b q : AV) (l : List AV) : zAh c (E.call f (a :: b :: q :: (mayV c x) :: l) h) h = zAh c (E.call f (a :: b :: q :: x :: l) h) h:=by cases c <;> rfl
theorem may_cl4w (E : Env) (f : Nat) (a b q : AV) (l : List AV) : zAh (c && d) (E.call f (a :: b :: q :: (mayV c x) :: l) h) h = zAh (c && d) (E.call f (a :: b :: q :: x :: l) h) h:=by cases c <;> rfl
theorem may_cv (k : ConvK) : zAh c (zAp h (zFq k (mayV c x) h)) h = zAh c (zAp h (zFq k x h)) h:=by cases c <;> rfl
theorem may_cvw (k : ConvK) : zAh (c && d) (zAp h (zFq k (mayV c x) h)) h = zAh (c && d) (zAp h (zFq k x h)) h:=by cases c <;> rfl
theorem may_ia1 (n m : Nat) (y : AV) : zAh c (zAp h (zDo n m (mayV c x) y)) h = zAh c (zAp h (zDo n m x y)) h:=by cases c <;> rfl
theorem may_ia1w (n m : Nat) (y : AV) : zAh (c && d) (zAp h (zDo n m (mayV c x) y)) h = zAh (c && d) (zAp h (zDo n m x y)) h:=by cases c <;> rfl
theorem may_ia2 (n m : Nat) (y : AV) : zAh c (zAp h (zDo n m y (mayV c x))) h = zAh c (zAp h (zDo n m y x)) h:=by cases c <;> rfl
theorem may_ia2w (n m : Nat) (y : AV) : zAh (c && d) (zAp h (zDo n m y (mayV c x))) h = zAh (c && d) (zAp h (zDo n m y x)) h:=by cases c <;> rfl
theorem may_is1 (m : Nat) (y : AV) : zAh c (zAp h (zB0 m (mayV c x) y)) h = zAh c (zAp h (zB0 m x y)) h:=by cases c <;> rfl
theorem may_is1w (m : Nat) (y : AV) : zAh (c && d) (zAp h (zB0 m (mayV c x) y)) h = zAh (c && d) (zAp h (zB0 m x y)) h:=by cases c <;> rfl
theorem may_is2 (m : Nat) (y : AV) : zAh c (zAp h (zB0 m y (mayV c x))) h = zAh c (zAp h (zB0 m y x)) h:=by cases c <;> rfl
theorem may_is2w (m : Nat) (y : AV) : zAh (c && d) (zAp h (zB0 m y (mayV c x))) h = zAh (c && d) (zAp h (zB0 m y x)) h:=by cases c <;> rfl
theorem may_ix1 (n m : Nat) (g : Bool) (y : AV) : zAh c (zAp h (idxA n m g (mayV c x) y)) h = zAh c (zAp h (idxA n m g x y)) h:=by cases c <;> rfl
theorem may_ix1w (n m : Nat) (g : Bool) (y : AV) : zAh (c && d) (zAp h (idxA n m g (mayV c x) y)) h = zAh (c && d) (zAp h (idxA n m g x y)) h:=by cases c <;> rfl
theorem may_ix2 (n m : Nat) (g : Bool) (y : AV) : zAh c (zAp h (idxA n m g y (mayV c x))) h = zAh c (zAp h (idxA n m g y x)) h:=by cases c <;> rfl
theorem may_ix2w (n m : Nat) (g : Bool) (y : AV) : zAh (c && d) (zAp h (idxA n m g y (mayV c x))) h = zAh (c && d) (zAp h (idxA n m g y x)) h:=by cases c <;> rfl
theorem may_st1 (y : AV) : zAh c (zAp h (zHb (mayV c x) y)) h = zAh c (zAp h (zHb x y)) h:=by cases c <;> rfl
theorem may_st1w (y : AV) : zAh (c && d) (zAp h (zHb (mayV c x) y)) h = zAh (c && d) (zAp h (zHb x y)) h:=by cases c <;> rfl
theorem may_st2 (y : AV) : zAh c (zAp h (zHb y (mayV c x))) h = zAh c (zAp h (zHb y x)) h:=by cases c <;> rfl
theorem may_st2w (y : AV) : zAh (c && d) (zAp h (zHb y (mayV c x))) h = zAh (c && d) (zAp h (zHb y x)) h:=by cases c <;> rfl
theorem may_ls  : zAh c (zAp h (zMc (mayV c x))) h = zAh c (zAp h (zMc x)) h:=by cases c <;> rfl
theorem may_lsw  : zAh (c && d) (zAp h (zMc (mayV c x))) h = zAh (c && d) (zAp h (zMc x)) h:=by cases c <;> rfl
theorem may_ll  : zAh c (zAp h (lenSl (mayV c x))) h = zAh c (zAp h (lenSl x)) h:=by cases c <;> rfl
theorem may_llw  : zAh (c && d) (zAp h (lenSl (mayV c x))) h = zAh (c && d) (zAp h (lenSl x)) h:=by cases c <;> rfl
theorem may_ex (i : Nat) : zAh c (zAp h (zF4 (mayV c x) i)) h = zAh c (zAp h (zF4 x i)) h:=by cases c <;> rfl
theorem may_exw (i : Nat) : zAh (c && d) (zAp h (zF4 (mayV c x) i)) h = zAh (c && d) (zAp h (zF4 x i)) h:=by cases c <;> rfl
theorem may_bx  : zAh c ((zA7 (mayV c x)).map (fun cs=>zFh cs h)) h = zAh c ((zA7 x).map (fun cs=>zFh cs h)) h:=by cases c <;> rfl
theorem may_bxw  : zAh (c && d) ((zA7 (mayV c x)).map (fun cs=>zFh cs h)) h = zAh (c && d) ((zA7 x).map (fun cs=>zFh cs h)) h:=by cases c <;> rfl
end
section
variable (t : T) (h : zAa)
theorem sMov_ap (x : T → AV) : sMov x t h = some (x t,h):=rfl
theorem X_ap (i : Nat) : X i t = getT t i:=rfl
theorem K_ap (v : AV) : K v t = v:=rfl
theorem sPick_ap (c a b : T → AV) : zA8 c a b t h = (zAp h (zNg (c t) (a t) (b t))):=rfl
theorem zVt (z : List AV) : zBf z t h = (some (zFh z h)):=rfl
theorem sBox_ap (x : T → AV) : sBox x t h = ((zA7 (x t)).map fun cs=>zFh cs h):=rfl
theorem zVs (z : List AV) (ps : List (Nat × Nat × (T → AV))) : zBw z ps t h = (zAp h ((zHp z (ps.map fun p=>(p.1,p.2.1,p.2.2 t))).map .agg)):=rfl
theorem zQh (sz len : Nat) (z : List AV) (ps : List (Nat × Nat × (T → AV))) : zCb sz len z ps t h = ((zHp (List.replicate len z).flatten (ps.map fun p=>(p.1,p.2.1,p.2.2 t))).map fun cs=>(.sl h.length 0 sz len len true,h ++ [.rw cs])):=rfl
theorem sLoad_ap (sz : Nat) (agg : Bool) (a : T → AV) : zAe sz agg a t h = (zAp h (zGq sz agg (a t) h)):=rfl
theorem zVl (sz : Nat) (a x : T → AV) : zAn sz a x t h = ((zL1 sz (a t) (x t) h).map fun h'=>(.undef,h')):=rfl
theorem sNil_ap (x : T → AV) : sNil x t h = (zAp h (zGo (x t))):=rfl
theorem sBin_ap (op : BinOp) (e : EqK) (x y : T → AV) : sBin op e x y t h = (zAp h (binV op e (x t) (y t))):=rfl
theorem sUn_ap (op : UnOp) (x : T → AV) : sUn op x t h = (zAp h (unV op (x t))):=rfl
theorem sConv_ap (c : ConvK) (x : T → AV) : zE3 c x t h = (zAp h (zFq c (x t) h)):=rfl
theorem sFun_ap (f : Nat) (xs : List (T → AV)) : sFun f xs t h = (some (.fn f (xs.map fun x=>x t),h)):=rfl
theorem sMake_ap (d : TyD) (l c : T → AV) : zOj d l c t h = (zCw d (l t) (c t) h):=rfl
theorem zTi (n sz : Nat) (x : T → AV) (lo hi mx : Option (T → AV)) : zE2 n sz x lo hi mx t h = (zAp h (zDb n sz (x t) (ap lo t) (ap hi t) (ap mx t) h)):=rfl
theorem zTh (sz : Nat) (x : T → AV) (lo hi mx : Option (T → AV)) : zD1 sz x lo hi mx t h = (zAp h (zDa sz (x t) (ap lo t) (ap hi t) (ap mx t))):=rfl
theorem zM9 (off : Nat) (x : T → AV) : zAb off x t h = (zAp h (zEh off (x t))):=rfl
theorem zVn (sz : Nat) (agg : Bool) (off : Nat) (x : T → AV) : zL3 sz agg off x t h = (zAp h (zK2 sz agg off (x t))):=rfl
theorem zOl (n sz : Nat) (x i : T → AV) : zFn n sz x i t h = (zAp h (zDo n sz (x t) (i t))):=rfl
theorem zOk (sz : Nat) (x i : T → AV) : zA0 sz x i t h = (zAp h (zB0 sz (x t) (i t))):=rfl
theorem sIdxA_ap (n sz : Nat) (agg : Bool) (x i : T → AV) : sIdxA n sz agg x i t h = (zAp h (idxA n sz agg (x t) (i t))):=rfl
theorem zTl (x i : T → AV) : sIdxStr x i t h = (zAp h (zHb (x t) (i t))):=rfl
theorem zQg (x : T → AV) (i : Nat) : zAm x i t h = (zAp h (zF4 (x t) i)):=rfl
theorem zTj (x : T → AV) : sLenStr x t h = (zAp h (zMc (x t))):=rfl
theorem zVm (x : T → AV) : zA5 x t h = (zAp h (lenSl (x t))):=rfl
theorem zTk (n : Nat) : sLenArr n t h = (some (.int .i64 n,h)):=rfl
theorem zVq (x : T → AV) : zOm x t h = (zAp h (zUf (x t))):=rfl
theorem sMax_ap (xs : List (T → AV)) : sMax xs t h = (zAp h (maxV (xs.map fun x=>x t))):=rfl
theorem sMin_ap (xs : List (T → AV)) : sMin xs t h = (zAp h (minV (xs.map fun x=>x t))):=rfl
theorem zVp (d : TyD) (x : T → AV) : sClear d x t h = (zPx d (x t) h):=rfl
theorem sCopy_ap (d : TyD) (x y : T → AV) : zVo d x y t h = (zJc d (x t) (y t) h):=rfl
theorem sAppN_ap (d : TyD) (x y : T → AV) : sAppN d x y t h = (appN d (x t) (y t) h):=rfl
theorem sApp_ap (d : TyD) (x y : T → AV) : sApp d x y t h = (app d (x t) (y t) h):=rfl
theorem sCall_ap (E : Env) (f : Nat) (xs : List (T → AV)) : zAg E f xs t h = (E.call f (xs.map fun x=>x t) h):=rfl
theorem zVr (E : Env) (f : T → AV) (xs : List (T → AV)) : zEs E f xs t h = (zLq E (f t) (xs.map fun x=>x t) h):=rfl
end
section
variable {h g : zAa} {cs : List AV}
theorem zYh (h : zAa) (cs : List AV) (g : zAa) : cellsOf (h ++ .rw cs :: g) h.length = some cs:=by simp [cellsOf]
theorem zYi (h g : zAa) (k : Nat) : cellsOf (h ++ g) (h.length + k) = cellsOf g k:=by
 unfold cellsOf
 rw [List.getElem?_append_right (by omega)]
 simp
theorem zT7 (cs : List AV) (g : zAa) : cellsOf (.rw cs :: g) 0 = some cs:=rfl
theorem zQ3 (cs : List AV) (g : zAa) : cellsOf (.ro cs :: g) 0 = some cs:=rfl
theorem zT8 (x : ABlk) (g : zAa) (k : Nat) : cellsOf (x :: g) (k + 1) = cellsOf g k:=by simp [cellsOf]
theorem load_agg (b off n : Nat) (h : zAa) : zGq n true (.ptr b off) h = (zC6 h b off n).map .agg:=rfl
theorem load_one (b off n : Nat) (h : zAa) : zGq n false (.ptr b off) h = zLn h b off:=rfl
end
theorem zOd {h : zAa} {v : AV} (hv : v.under h.length = true) : trim h (some (v,h)) = some (v,h):=by
 have ht : zCz h v h:=⟨Nat.le_refl _,hv,fun b k' _ hk a ha=>.inr ⟨k',hk,ha⟩⟩
 simp [trim,ht]
theorem zGw {h g : zAa} {v : AV} (hv : v.under h.length = true) : trim h (some (v,h ++ g)) = some (v,h):=by
 have ht : zCz h v (h ++ g):=⟨by simp,hv,fun b k' hb hk a ha=>.inr ⟨k',by rwa [List.getElem?_append_left hb] at hk,ha⟩⟩
 simp [trim,ht]
theorem zU0 (n : Nat) (k : IntKind) (a : Int) : (AV.int k a).under n = true:=by simp [AV.under]
theorem zTa (n : Nat) (b : Bool) : (AV.bool b).under n = true:=by simp [AV.under]
theorem zU1 (n : Nat) (cs : List AV) : (AV.agg cs).under n = zAt n cs:=by simp [AV.under]
theorem zUy (n : Nat) (cs : List AV) : (AV.tup cs).under n = zAt n cs:=by simp [AV.under]
theorem zOa (n : Nat) : zAt n [] = true:=by simp [zAt]
theorem zM1 (n : Nat) (a : AV) (l : List AV) : zAt n (a :: l) = (a.under n && zAt n l):=by simp [zAt]
end Go.Proofs.YtbmmnfeeapnhkaaGreat.Eng
end
section
namespace Go.Proofs.YtbmmnfeeapnhkaaGreat.Eng
open Go
theorem zCd (P : Program) (b : C) (t : T) (h : zAa) : (envL P).loop b t h = seqR (b t h) ((envL P).loop b):=loopL_eq b t h
theorem zB8 {h h1 : zAa} {v : AV} (hl : h1.length = h.length) : trim h (some (v,h1)) = some (v,h1):=by
 simp only [trim,Option.map_some,← hl,List.take_length]
 split <;> rfl
theorem zBa {h h1 : zAa} {v : AV} (hv : v.under h.length = false) : trim h (some (v,h1)) = some (v,h1):=by
 have ht : ¬ zCz h v h1:=fun ht=>by rw [ht.2.1] at hv; cases hv
 simp only [trim,Option.map_some,ht,if_false]
theorem under_fn (n f : Nat) (cs : List AV) : (AV.fn f cs).under n = zAt n cs:=by simp [AV.under]
theorem zUz (n b o : Nat) : (AV.ptr b o).under n = decide (b < n):=by simp [AV.under]
theorem under_sl (n b o z l c : Nat) (e : Bool) : (AV.sl b o z l c e).under n = decide (b < n):=by simp [AV.under]
theorem zTq (n k : Nat) : (n + k < n) = False:=by simp
def zGa (n : Nat) : zAa → zAa → Bool
 | [],_=>true
 | _ :: _,[]=>false
 | _ :: x,b :: y=>(b.vals.all fun v=>v.under n) && zGa n x y
theorem zMe {n : Nat} : ∀ {x y : zAa},zGa n x y = true → ∀ (i : Nat) k,i < x.length → y[i]? = some k → ∀ v ∈ k.vals,v.under n = true
 | [],_,_,i,k,hi,_=>by simp at hi
 | _ :: _,[],h,_,_,_,_=>by simp [zGa] at h
 | a :: x,b :: y,h,0,k,_,hk=>by
  simp only [zGa,Bool.and_eq_true,List.all_eq_true] at h
  simp at hk; subst hk; exact h.1
 | a :: x,b :: y,h,i + 1,k,hi,hk=>by
  simp only [zGa,Bool.and_eq_true] at h
  exact zMe h.2 i k (by simpa using hi) (by simpa using hk)
theorem zMd {n : Nat} : ∀ {x y : zAa},zGa n x y = true → x.length ≤ y.length
 | [],_,_=>by simp
 | _ :: _,[],h=>by simp [zGa] at h
 | a :: x,b :: y,h=>by
  simp only [zGa,Bool.and_eq_true] at h
  have:=zMd h.2
  simp; omega
theorem zU4 {h x y : zAa} {v : AV} (hv : v.under (h ++ x).length = true) (hk : zGa (h ++ x).length x y = true) : trim (h ++ x) (some (v,h ++ y)) = some (v,h ++ y.take x.length):=by
 have hl:=zMd hk
 have ht : zCz (h ++ x) v (h ++ y):=by
  refine ⟨by simp; omega,hv,fun b k' hb hb' a ha=>?_⟩
  by_cases hlt : b < h.length
  ·rw [List.getElem?_append_left hlt] at hb'
   exact .inr ⟨k',by rw [List.getElem?_append_left hlt]; exact hb',ha⟩
  ·rw [List.getElem?_append_right (by omega)] at hb'
   exact .inl (zMe hk _ k' (by simp at hb; omega) hb' a ha)
 simp only [trim,Option.map_some,ht,if_true,Option.some.injEq,Prod.mk.injEq,true_and]
 rw [List.length_append,List.take_length_add_append]
section
variable (h x : zAa) (k : Nat) (b : ABlk)
theorem zYx : (h ++ x)[h.length]? = x[0]?:=by
 rw [List.getElem?_append_right (Nat.le_refl _)]; simp
theorem at_add : (h ++ x)[h.length + k]? = x[k]?:=by
 rw [List.getElem?_append_right (by omega)]; simp
theorem zRr : (h ++ x).set h.length b = h ++ x.set 0 b:=by
 rw [List.set_append_right _ _ (Nat.le_refl _)]; simp
theorem zVi : (h ++ x).set (h.length + k) b = h ++ x.set k b:=by
 rw [List.set_append_right _ _ (by omega)]; simp
end
theorem zAw (n b off : Nat) (x : AV) (h : zAa) : zL1 n (.ptr b off) x h = (zA7 x).bind fun cs=>if cs.length = n then zAz h b off cs else none:=rfl
theorem zAv {h : zAa} {b off : Nat} {vs cs : List AV} (hb : h[b]? = some (.rw cs)) : zAz h b off vs = if off + vs.length ≤ cs.length ∧ vs.all AV.isCell = true then some (h.set b (.rw (zBp cs off vs))) else none:=by
 unfold zAz; rw [hb]
theorem zCj (h : zAa) (x : zAa) (cs : List AV) (off : Nat) (vs : List AV) : zAz (h ++ .rw cs :: x) h.length off vs = if off + vs.length ≤ cs.length ∧ vs.all AV.isCell = true then some (h ++ .rw (zBp cs off vs) :: x) else none:=by
 rw [zAv (cs:=cs) (by rw [zYx]; rfl),zRr]; rfl
theorem zN7 (h : zAa) (x : zAa) (k off : Nat) (vs : List AV) : zAz (h ++ x) (h.length + k) off vs = (zAz x k off vs).map fun y=>h ++ y:=by
 unfold zAz
 rw [at_add]
 split
 ·split
  ·rw [zVi]; rfl
  ·rfl
 ·rfl
theorem zLw (cs : List AV) (x : zAa) (off : Nat) (vs : List AV) : zAz (.rw cs :: x) 0 off vs = if off + vs.length ≤ cs.length ∧ vs.all AV.isCell = true then some (.rw (zBp cs off vs) :: x) else none:=by
 rw [zAv (cs:=cs) rfl]; rfl
theorem zS6 (b : ABlk) (x : zAa) (k off : Nat) (vs : List AV) : zAz (b :: x) (k + 1) off vs = (zAz x k off vs).map fun y=>b :: y:=by
 unfold zAz
 rw [List.getElem?_cons_succ]
 generalize x[k]? = y
 cases y with
 | none=>rfl
 | some y =>
  cases y with
  | rw cs=>simp only; split <;> rfl
  | _=>rfl
theorem zAx (cs : List AV) (off : Nat) (v : AV) : zBp cs off [v] = cs.set off v:=rfl
theorem zKg (cs : List AV) (off : Nat) (a b : AV) (l : List AV) : zBp cs off (a :: b :: l) = cs.take off ++ (a :: b :: l) ++ cs.drop (off + (l.length + 1 + 1)):=rfl
theorem cell_int (k : IntKind) (n : Int) : (AV.int k n).isCell = true:=rfl
theorem zYl (b : Bool) : (AV.bool b).isCell = true:=rfl
theorem zAq {n : Int} (h1 : -9223372036854775808 ≤ n) (h2 : n ≤ 9223372036854775807) : IntKind.i64.wrap n = n:=by
 have e1 : IntKind.i64.signed = true:=rfl
 have e2 : IntKind.i64.bits = 64:=rfl
 simp only [IntKind.wrap,e1,e2,Bool.true_and,decide_eq_true_eq]
 split <;> omega
theorem zF7 (E : Env) (g : Nat) (cap args : List AV) (h : zAa) : zLr E (.fn g cap) args h = E.call g (args ++ cap) h:=rfl
theorem callV_fn (E : Env) (g : Nat) (cap args : List AV) (h : zAa) : zLq E (.fn g cap) args h = E.call g (args ++ cap) h:=rfl
theorem zE8 (E : Env) (b : Nat) (args : List AV) (h : zAa) : zLq E (.yld b) args h = E.yield b args h:=rfl
theorem zN6 (P : Program) (l : Nat) (args : List AV) (h : zAa) (L : ALoop) (hl : h[l]? = some (.loop L)) (hp : args.length = L.params.length) :
  (envL P).yield l args h = trim h (zCc P (envL P) l L.body (zAi P (envL P) L.assign (zBq L.params args L.tmps) h)):=by
 rw [zRi,zDk,zD0,hl]
 simp only [hp,if_true]
theorem zOr (P : Program) (E : Env) (l : Nat) (c : Code) (t : T) (h : zAa) (L : ALoop) (hl : h[l]? = some (.loop L)) (hr : L.st = .ready) :
  zCc P E l c (some (.normal,t,h)) = zEu l (zAi P E c t (h.set l (.loop ⟨.busy,L.pend,L.tmps,L.params,L.assign,L.body⟩))):=by
 simp only [zCc,hl,hr,if_true]
theorem zOs (l : Nat) (e : Ex) (t : T) (h : zAa) (L : ALoop) (hl : h[l]? = some (.loop L)) :
  zEu l (some (e,t,h)) = some (.bool e.isNormal,h.set l (.loop ⟨if e.isNormal then .ready else .done,e,L.tmps,L.params,L.assign,L.body⟩)):=by
 simp only [zEu,Option.bind_some,hl]
theorem zWd (l : Nat) (t : T) (v : AV) (h : zAa) (L : ALoop) (hl : h[l]? = some (.loop L)) (hb : L.st ≠ .busy) :
  zCr l t (some (v,h)) = some (L.pend,t,h.set l (.loop ⟨.exhausted,L.pend,L.tmps,L.params,L.assign,L.body⟩)):=by
 simp only [zCr,Option.bind_some,hl,hb,if_false]
theorem put_cons (p : Nat) (ps : List Nat) (a : AV) (as : List AV) (t : T) : zBq (p :: ps) (a :: as) t = zBq ps as (t.set p a):=rfl
theorem put_nil (as : List AV) (t : T) : zBq [] as t = t:=rfl
end Go.Proofs.YtbmmnfeeapnhkaaGreat.Eng
end
section
namespace Go.Proofs.YtbmmnfeeapnhkaaGreat.Eng
open Go Go.ChangeShapes Go.WideShapes Go.ChangeAt Go.RowKit
def NoOwn (h : zAa) : Prop:=∀ (b : Nat) (k : ABlk),h[b]? = some k → k.own = false
theorem Ext.under {φ φ' : Ren} {h h' : zAa} {w w' : World} (hn : NoOwn h) (x : Ext φ h w φ' h' w') : Below w.heap.size w w' :=
 ⟨x.os,x.tape,x.output,x.wlen,fun r hr=>x.cfr r hr (by
  rintro ⟨b,e,k,_,_,hk,ho⟩
  rw [hn b k hk] at ho; cases ho)⟩
variable {P : Program} {H : Type} {enc : TypeId × Value → H}
theorem zHx (hl : laidOutB P = true) {W W' : World} (hb : Below W.heap.size W W') {sp : Nat → Bool} : ∀ {ts : List TypeId} {vs : List Value} {ds : List (DataW H)} {ps : List MemPlace},(∀ t ∈ ts,P.readableRec t = true ∧ t < P.types.size) →
  DataW.TrodAll enc P W 0 (fun _=>true) true ts vs ds ps → (∀ x ∈ ps,x.block < W.heap.size) → (∀ x ∈ ps,sp x.block = true) → DataW.TrodAll enc P W' 0 sp true ts vs ds ps
 | [],[],[],_,_,h,_,_=>h
 | t :: ts,v :: vs,d :: ds,_,hr,h,hlt,hsp=>by
  obtain ⟨p,q,h1,h2,rfl⟩:=h
  obtain ⟨hr1,hr2⟩:=hr t (by simp)
  exact ⟨p,q,WideElems.Trod_stays hl hr1 hr2 h1 (fun x hx=>hb.same (hlt x (by simp [hx]))) (fun x hx=>hsp x (by simp [hx])),
   zHx hl hb (fun t ht=>hr t (by simp [ht])) h2 (fun x hx=>hlt x (by simp [hx])) (fun x hx=>hsp x (by simp [hx])),rfl⟩
 | [],[],_ :: _,_,_,h,_,_=>h.elim
 | [],_ :: _,_,_,_,h,_,_=>by cases h
 | _ :: _,[],_,_,_,h,_,_=>by cases h
 | _ :: _,_ :: _,[],_,_,h,_,_=>h.elim
theorem post_law {f : Func} {s : ChangeSpec} {W W' : World} {args : Array Value} {ds gs : List (DataW H)} {before : List MemPlace} {t : TypeId} (hl : laidOutB P = true)
  (hreadB : (f.params.toList.all fun t=>P.readableRec t && decide (t < P.types.size)) = true) (hrt : f.resultTypes = #[t]) (ht : P.underlying t = some .bool) (hvars : s.vars = [])
  (hW : DataW.Whole enc P f.params.toList s.vars false W args.toList ds gs before) (hs : (s.fn H (ds ++ [])).results = [.lit (.bool true)] ∧ (s.fn H (ds ++ [])).args = ds ∧ (s.fn H (ds ++ [])).vars = []) (hb : Below W.heap.size W W') :
  s.post enc P f false true false false W args (.bool true) W':=by
 have hlt : ∀ p ∈ before,p.block < W.heap.size:=fun p hp=>by simpa using hW.lt p hp
 obtain ⟨hres,hargs,hv⟩:=hs
 have hread : ∀ t ∈ f.params.toList,P.readableRec t = true ∧ t < P.types.size:=fun t ht=>by
  have:=List.all_eq_true.1 hreadB t ht
  simpa using this
 have hW0:=hW
 obtain ⟨p,q,h1,h2,rfl,_,_⟩:=hW
 rw [hvars] at h2
 have hq : gs = [] ∧ q = []:=by
  cases gs with
  | nil=>exact ⟨rfl,h2⟩
  | cons g gs=>exact h2.elim
 obtain ⟨rfl,rfl⟩:=hq
 refine ⟨ds,[],p ++ [],[],p,[],hW0,?_,?_,?_,World.keptBut_mono (fun x hx=>hx.elim) (hb.frame (fun _=>False)),fun h=>by cases h⟩
 ·rw [hres,hrt]
  exact trodAll_cons_mk (shut_bool ht true) trodAll_mk0
 ·rw [hargs]
  exact zHx hl hb hread h1 (fun x hx=>hlt x (by simpa using hx)) (fun x hx=>by simpa using hlt x (by simpa using hx))
 ·rw [hv,hvars]; rfl
theorem zE7 {w : World} {r : Reach} {b : Nat} {t : TypeId} {k : IntKind} {v : Value} (ht : P.underlying t = some (.int k)) (h : Cell.okWide P w r b t v) : ∃ n,v = .int k n ∧ k.has n:=by
 unfold Cell.okWide at h
 rw [ht] at h
 cases v <;> simp only at h <;> unfold Cell.ok at h <;> rw [ht] at h <;> simp only at h
 obtain ⟨rfl,h⟩:=h
 exact ⟨_,rfl,h⟩
theorem St.none (w : World) : St (fun _=>none) [] w:=⟨fun _ _ h=>(by cases h),fun _ _ _ _ _ _ h=>(by cases h)⟩
theorem zXn (h1 : P.follows .mixedOrders = true) (h2 : (P.funcs.all fun fn=>!(fn.name == "runtime.NumGoroutine")) = true) : Good P :=
 ⟨h1,fun f fn hf=>by
  obtain ⟨hlt,rfl⟩:=Array.getElem?_eq_some_iff.1 hf
  simpa using (Array.all_eq_true.1 h2) f hlt⟩
theorem len5 {α : Type} {ns : List α} (h : ns.length = 5) : ∃ a0 a1 a2 a3 a4,ns = [a0,a1,a2,a3,a4]:=by
 match ns,h with
 | [a0,a1,a2,a3,a4],_=>exact ⟨a0,a1,a2,a3,a4,rfl⟩
end Go.Proofs.YtbmmnfeeapnhkaaGreat.Eng
end
