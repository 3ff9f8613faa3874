/- An evaluator over abstract values, proved sound against the machine: what it says of a call, the call does. No condition. -/
import Derived.Test.YtbmmnfeeapnhkaaGreatE1
import Derived.Test.YtbmmnfeeapnhkaaGreatE3
import Derived.ChangeSlices
section
namespace Go.Proofs.YtbmmnfeeapnhkaaGreat.Eng
open Go
structure R8 where
 (a b c d e f g h : AV)
def R8.list (r : R8) : List AV:=[r.a,r.b,r.c,r.d,r.e,r.f,r.g,r.h]
noncomputable def R8.get (r : R8) (i : Nat) : AV :=
 bif Nat.ble i 3 then (bif Nat.ble i 1 then (bif Nat.ble i 0 then r.a else r.b) else (bif Nat.ble i 2 then r.c else r.d))
 else (bif Nat.ble i 5 then (bif Nat.ble i 4 then r.e else r.f) else (bif Nat.ble i 6 then r.g else r.h))
noncomputable def selR (z : R8) (s : Nat → R8) (n : Nat) : R8:=Nat.rec (motive:=fun _=>R8) z (fun k _=>s k) n
noncomputable def R8.set (r : R8) (v : AV) (i : Nat) : R8 :=
 R8.rec (motive:=fun _=>R8) (fun a b c d e f g h=>selR ⟨v,b,c,d,e,f,g,h⟩ (selR ⟨a,v,c,d,e,f,g,h⟩ (selR ⟨a,b,v,d,e,f,g,h⟩ (selR ⟨a,b,c,v,e,f,g,h⟩ (selR ⟨a,b,c,d,v,f,g,h⟩ (selR ⟨a,b,c,d,e,v,g,h⟩ (selR ⟨a,b,c,d,e,f,v,h⟩ (fun _=>⟨a,b,c,d,e,f,g,v⟩))))))) i) r
structure KT where
 n : Nat
 rows : List R8
def flat8 (l : List R8) : List AV:=l.flatMap R8.list
def KT.toT (t : KT) : List AV:=(flat8 t.rows).take t.n
noncomputable def rowGet (l : List R8) (c : Nat) : Nat → AV :=
 List.rec (motive:=fun _=>Nat → AV) (fun _=>.undef) (fun a _ ih n=>Nat.rec (motive:=fun _=>AV) (a.get c) (fun k _=>ih k) n) l
noncomputable def rowSet (l : List R8) (c : Nat) (v : AV) : Nat → List R8 :=
 List.rec (motive:=fun _=>Nat → List R8) (fun _=>[]) (fun a r ih n=>Nat.rec (motive:=fun _=>List R8) (a.set v c :: r) (fun k _=>a :: ih k) n) l
noncomputable def KT.get (t : KT) (i : Nat) : AV:=bif Nat.blt i t.n then rowGet t.rows (i % 8) (i / 8) else .undef
noncomputable def KT.set (t : KT) (i : Nat) (v : AV) : KT:=⟨t.n,rowSet t.rows (i % 8) v (i / 8)⟩
end Go.Proofs.YtbmmnfeeapnhkaaGreat.Eng
end
section
namespace Go.Proofs.YtbmmnfeeapnhkaaGreat.Eng
open Go
end Go.Proofs.YtbmmnfeeapnhkaaGreat.Eng
end
section
namespace Go.Proofs.YtbmmnfeeapnhkaaGreat.Eng
open Go
abbrev ResK:=Option (Ex × KT × zAa)
structure EnvK where
 call : Nat → List AV → zAa → Option (AV × zAa)
 yield : Nat → List AV → zAa → Option (AV × zAa)
 loop : (KT → zAa → ResK) → KT → zAa → ResK
mutual
def AV.eqK : AV → AV → Bool
 | .int k a,.int k' b=>decide (k = k') && decide (a = b)
 | .bool a,.bool b=>a == b
 | .nilPtr,.nilPtr=>true
 | .ptr b o,.ptr b' o'=>Nat.beq b b' && Nat.beq o o'
 | .nilSl,.nilSl=>true
 | .sl b o z l c e,.sl b' o' z' l' c' e'=>Nat.beq b b' && (Nat.beq o o' && (Nat.beq z z' && (Nat.beq l l' && (Nat.beq c c' && (e == e')))))
 | .agg x,.agg y=>eqKs x y
 | .fn f x,.fn g y=>Nat.beq f g && eqKs x y
 | .yld b,.yld b'=>Nat.beq b b'
 | .nilFn,.nilFn=>true
 | _,_=>false
def eqKs : List AV → List AV → Bool
 | [],[]=>true
 | a :: x,b :: y=>a.eqK b && eqKs x y
 | _,_=>false
end
mutual
theorem AV.eqK_eq : ∀ (a b : AV),a.eqK b = true → a = b
 | .int k a,b,h=>by
  cases b <;> simp [AV.eqK] at h
  obtain ⟨rfl,rfl⟩:=h; rfl
 | .bool a,b,h=>by cases b <;> simp [AV.eqK] at h; subst h; rfl
 | .str _,b,h=>by cases b <;> simp [AV.eqK] at h
 | .nilPtr,b,h=>by cases b <;> simp [AV.eqK] at h; rfl
 | .ptr _ _,b,h=>by cases b <;> simp [AV.eqK] at h; obtain ⟨rfl,rfl⟩:=h; rfl
 | .nilSl,b,h=>by cases b <;> simp [AV.eqK] at h; rfl
 | .sl _ _ _ _ _ _,b,h=>by cases b <;> simp [AV.eqK] at h; obtain ⟨rfl,rfl,rfl,rfl,rfl,rfl⟩:=h; rfl
 | .agg x,b,h=>by
  cases b <;> simp [AV.eqK] at h
  rw [zQu _ _ h]
 | .tup _,b,h=>by cases b <;> simp [AV.eqK] at h
 | .fn _ x,b,h=>by
  cases b <;> simp [AV.eqK] at h
  rw [h.1,zQu _ _ h.2]
 | .yld _,b,h=>by cases b <;> simp [AV.eqK] at h; subst h; rfl
 | .nilFn,b,h=>by cases b <;> simp [AV.eqK] at h; rfl
 | .undef,b,h=>by cases b <;> simp [AV.eqK] at h
 | .any,b,h=>by cases b <;> simp [AV.eqK] at h
theorem zQu : ∀ (a b : List AV),eqKs a b = true → a = b
 | [],b,h=>by cases b <;> simp [eqKs] at h; rfl
 | a :: x,b,h=>by
  cases b <;> simp [eqKs] at h
  rw [AV.eqK_eq _ _ h.1,zQu _ _ h.2]
end
inductive SK where
 | op (o : Oper)
 | rd (i : Nat) (o : Oper)
 | hv (m : Nat) (o : Oper)
 | bad
end Go.Proofs.YtbmmnfeeapnhkaaGreat.Eng
end
section
namespace Go.Proofs.YtbmmnfeeapnhkaaGreat.Eng
open Go
def LeR (a : ResK) (b : Res) : Prop:=∀ e t h,a = some (e,t,h) → b = some (e,t.toT,h)
structure EnvK.le (E : EnvK) (E' : Env) : Prop where
 call : ∀ f a h,Le (E.call f a h) (E'.call f a h)
 yield : ∀ f a h,Le (E.yield f a h) (E'.yield f a h)
 loop : ∀ (b : KT → zAa → ResK) (b' : List AV → zAa → Res),(∀ t h,LeR (b t h) (b' t.toT h)) → ∀ t h,LeR (E.loop b t h) (E'.loop b' t.toT h)
section
variable {P : Program} {E : EnvK} {E' : Env}
end
end Go.Proofs.YtbmmnfeeapnhkaaGreat.Eng
end
section
namespace Go.Proofs.YtbmmnfeeapnhkaaGreat.Eng
open Go
end Go.Proofs.YtbmmnfeeapnhkaaGreat.Eng
end
section
namespace Go.Proofs.YtbmmnfeeapnhkaaGreat.Eng
open Go Go.ChangeShapes Go.WideShapes Go.ChangeAt Go.RowKit
mutual
theorem VRel.bare {φ ψ : Ren} : ∀ {a : AV} {v : Value},a.under 0 = true → VRel φ a v → VRel ψ a v
 | _,_,_,.int k n=>.int k n
 | _,_,_,.bool b=>.bool b
 | _,_,_,.str s=>.str s
 | _,_,_,.nilPtr=>.nilPtr
 | _,_,u,.ptr _=>by simp [AV.under] at u
 | _,_,_,.nilSl=>.nilSl
 | _,_,u,.sl _ _ _ _ _ _=>by simp [AV.under] at u
 | _,_,u,.agg h=>.agg (VRels.bare (by simpa [AV.under] using u) h)
 | _,_,u,.tup h=>.tup (VRels.bare (by simpa [AV.under] using u) h)
 | _,_,u,.fn h=>.fn (VRels.bare (by simpa [AV.under] using u) h)
 | _,_,u,.yld _=>by simp [AV.under] at u
 | _,_,_,.nilFn=>.nilFn
 | _,_,_,.undef=>.undef
 | _,_,_,.any v=>.any v
theorem VRels.bare {φ ψ : Ren} : ∀ {a : List AV} {v : List Value},zAt 0 a = true → VRels φ a v → VRels ψ a v
 | _,_,_,.nil=>.nil
 | _,_,u,.cons h t=>by
  simp only [zAt,Bool.and_eq_true] at u
  exact .cons (VRel.bare u.1 h) (VRels.bare u.2 t)
end
theorem zI7 {P : Program} (g : Good P) : SoundE P (envL P) where
 call f args h v h' hv:=by
  obtain ⟨n,hn⟩:=zEj hv
  exact (zG4 g n).call _ _ _ _ _ hn
 yield b args h v h' hv:=by
  obtain ⟨n,hn⟩:=zEj hv
  exact (zG4 g n).yield _ _ _ _ _ hn
 loop b t h r hr:=zEj hr
abbrev zY4:=Nat → List AV → Option AV
noncomputable def envO (P : Program) (O : zY4) : Env :=
 ⟨fun f args h=>match O f args with | some v=>some (v,h) | none=>(envL P).call f args h,(envL P).yield,(envL P).loop⟩
def zY4.Ok (P : Program) (O : zY4) : Prop:=∀ f args v,O f args = some v → zAt 0 args = true ∧ v.under 0 = true ∧ (envL P).call f args [] = some (v,[])
theorem o_loop (P : Program) (O : zY4) : (envO P O).loop = (envL P).loop:=rfl
theorem o_yield (P : Program) (O : zY4) : (envO P O).yield = (envL P).yield:=rfl
theorem zYw {P : Program} {E : Env} {f : Nat} {fn : Func} {c : Code} {b : CT} {rs : List RV} (tab : Nat → Cert) (hf : P.funcs[f]? = some fn) (hc : fn.body = some c) (hb : zGi P E tab c = some b) (hr : ∀ t h,zDr P t h fn.results.toList = resS t h rs)
  {n : Nat} (hn : fn.ntmps = n) (args : List AV) (h : zAa) : zCm P E f args h = trim h (fin rs (runC E b (args ++ List.replicate (n - args.length) .undef) h)):=by
 unfold zCm zE9
 rw [hf]
 simp only [hc,hn]
 rw [zC3 tab hb]
 generalize runC E b (args ++ List.replicate (n - args.length) .undef) h = r
 congr 1
 unfold zF3 fin
 cases r with
 | none=>rfl
 | some p=>obtain ⟨e,t,h⟩:=p; cases e <;> simp only [hr]
end Go.Proofs.YtbmmnfeeapnhkaaGreat.Eng
end
section
namespace Go.Proofs.YtbmmnfeeapnhkaaGreat.Eng
open Go
theorem eq_nn : binV .eql .ptr .nilPtr .nilPtr = some (.bool true):=rfl
theorem ne_nn : binV .neq .ptr .nilPtr .nilPtr = some (.bool false):=rfl
theorem eq_pn (b o : Nat) : binV .eql .ptr (.ptr b o) .nilPtr = some (.bool false):=rfl
theorem ne_pn (b o : Nat) : binV .neq .ptr (.ptr b o) .nilPtr = some (.bool true):=rfl
theorem eq_snn : binV .eql .slice .nilSl .nilSl = some (.bool true):=rfl
theorem ne_snn : binV .neq .slice .nilSl .nilSl = some (.bool false):=rfl
theorem eq_ssn (b o z l c : Nat) (e : Bool) : binV .eql .slice (.sl b o z l c e) .nilSl = some (.bool false):=rfl
theorem ne_ssn (b o z l c : Nat) (e : Bool) : binV .neq .slice (.sl b o z l c e) .nilSl = some (.bool true):=rfl
theorem len_nil : lenSl .nilSl = some (.int .i64 0):=rfl
theorem len_sl (b o z l c : Nat) (e : Bool) : lenSl (.sl b o z l c e) = some (.int .i64 l):=rfl
theorem ext_tup (vs : List AV) (i : Nat) : zF4 (.tup vs) i = vs[i]?:=rfl
theorem nil_ptr (b o : Nat) : zGo (.ptr b o) = some (.ptr b o):=rfl
theorem zN9 (n : Nat) : (AV.nilPtr).under n = true:=by simp [AV.under]
theorem zQd (n : Nat) : (AV.nilSl).under n = true:=by simp [AV.under]
theorem min2 (k k' : IntKind) (x y : Int) : minV [.int k x,.int k' y] = some (.int k (if y < x then y else x)):=rfl
theorem max2 (k k' : IntKind) (x y : Int) : maxV [.int k x,.int k' y] = some (.int k (if y > x then y else x)):=rfl
theorem conv_int (k k' : IntKind) (n : Int) (h : zAa) : zFq (.int k) (.int k' n) h = some (.int k (k.wrap n)):=rfl
theorem zQk (a b c : AV) : zHl [a,b,c] = .tup [a,b,c]:=rfl
theorem zJ2 (cs : List AV) : zHp cs [] = some cs:=rfl
theorem zId (cs : List AV) (o n : Nat) (v : AV) (r : List (Nat × Nat × AV)) : zHp cs ((o,n,v) :: r) = (zA7 v).bind fun c=>if c.length = n ∧ o + n ≤ cs.length then zHp (zBp cs o c) r else none:=rfl
theorem zUa (k : IntKind) (n : Int) : zA7 (.int k n) = some [.int k n]:=rfl
theorem zQ4 (b : Bool) : zA7 (.bool b) = some [.bool b]:=rfl
theorem zFt (cs : List AV) : zA7 (.agg cs) = some cs:=rfl
theorem zT9 (b o : Nat) : zA7 (.ptr b o) = some [.ptr b o]:=rfl
theorem zNz : zA7 .nilPtr = some [.nilPtr]:=rfl
theorem zP1 : zA7 .nilSl = some [.nilSl]:=rfl
theorem zYj (b o z l c : Nat) (e : Bool) : zA7 (.sl b o z l c e) = some [.sl b o z l c e]:=rfl
theorem zYk (f : Nat) (cs : List AV) : zA7 (.fn f cs) = some [.fn f cs]:=rfl
theorem asI_none (d : Int) : asI none d = some d:=rfl
theorem asI_int (k : IntKind) (n d : Int) : asI (some (.int k n)) d = some n:=rfl
theorem cell_ptr (b o : Nat) : (AV.ptr b o).isCell = true:=rfl
theorem zQ5 : (AV.nilPtr).isCell = true:=rfl
theorem zUc : (AV.nilSl).isCell = true:=rfl
theorem cell_sl (b o z l c : Nat) (e : Bool) : (AV.sl b o z l c e).isCell = true:=rfl
theorem zXj (b o s len lo : Nat) (e : Bool) (k : IntKind) (j : Int) : zB0 s (.sl b o s len lo e) (.int k j) = if 1 ≤ s ∧ 0 ≤ j ∧ j < len then some (.ptr b (o + j.toNat * s)) else none:=by simp [zB0]
def rep (n : Nat) (v : AV) : List AV:=List.replicate n v
theorem zDj (n : Nat) (v : AV) : (rep n v).length = n:=by simp [rep]
theorem zR0 (n : Nat) (v : AV) : (rep n v).take n = rep n v:=by simp [rep]
theorem zR1 (n : Nat) (v : AV) (h : v.isCell = true) : (rep n v).all AV.isCell = true:=by simp [rep,h]
theorem zAs (cs vs : List AV) (off : Nat) (h : vs.length ≠ 1) : zBp cs off vs = cs.take off ++ vs ++ cs.drop (off + vs.length):=by
 unfold zBp
 split
 ·exact absurd rfl h
 ·rfl
theorem zL2 (cs : List AV) (n : Nat) (v : AV) (h1 : n ≠ 1) (h2 : cs.length = n) : zBp cs 0 (rep n v) = rep n v:=by
 rw [zAs _ _ _ (by rw [zDj]; exact h1),zDj,List.take_zero,List.nil_append,Nat.zero_add,List.drop_of_length_le (by omega),List.append_nil]
theorem zOw (n m : Nat) (v : AV) (h : v.under m = true) : zAt m (rep n v) = true:=by
 induction n with
 | zero=>rfl
 | succ n ih=>show zAt m (v :: rep n v) = true; simp only [zAt,h,ih,Bool.and_self]
variable {P : Program}
theorem zWu {w : World} {r : Reach} {b : Nat} {t : TypeId} {v : Value} {fs : Array Field} {ts : List TypeId} {n : Nat} (ht : P.underlying t = some (.struct fs)) (hts : P.cellTypes P.depth t = some ts) (hn : P.cellsOf t = n)
  (h : Value.okWide P w r b t v) : ∃ cs : List Value,cs.length = n ∧ v = .agg cs.toArray ∧ ∀ (i : Nat) x u,cs[i]? = some x → ts[i]? = some u → Cell.okWide P w r b u x:=by
 unfold Value.okWide at h
 rw [ht] at h
 simp only at h
 obtain ⟨cs,rfl,hsz,ts',hts',_,hc⟩:=h
 obtain rfl : ts = ts':=Option.some.inj (hts.symm.trans hts')
 refine ⟨cs.toList,by simpa using hsz.trans hn,rfl,fun i x u hx hu=>?_⟩
 obtain ⟨u',hu',hok⟩:=hc i x (by rw [← Array.getElem?_toList]; exact hx)
 rw [Nat.mod_eq_of_lt (List.getElem?_eq_some_iff.1 hu).1,hu] at hu'
 injection hu' with hu'
 subst hu'; exact hok
end Go.Proofs.YtbmmnfeeapnhkaaGreat.Eng
end
section
namespace Go.Proofs.YtbmmnfeeapnhkaaGreat.Eng
open Go
variable {P : Program}
def OkSl (w : World) (v : Value) : Prop:=v = .slice none 0 0 ∨ ∃ a len cap o,v = .slice (some a) len cap ∧ len ≤ cap ∧ a.spot = none ∧ w.heap[a.block]? = some o ∧ ∃ C tt fz,o = .cells C tt fz
theorem zTf {w : World} {b : Nat} {x : TypeId × Nat} (h : w.shape? b = some x) : ∃ o,w.heap[b]? = some o ∧ ∃ C tt fz,o = .cells C tt fz:=by
 unfold World.shape? at h
 cases ho : w.heap[b]? with
 | none=>rw [ho] at h; cases h
 | some o =>
  rw [ho] at h
  cases o <;> first | exact ⟨_,rfl,_,_,_,rfl⟩ | cases h
theorem zUb {w : World} {r : Reach} {b : Nat} {t e : TypeId} {v : Value} (ht : P.underlying t = some (.slice e)) (h : Cell.okWide P w r b t v) : OkSl w v:=by
 unfold Cell.okWide at h
 rw [ht] at h
 have h2 : Cell.ok P w r b t v:=by cases v <;> exact h
 clear h
 unfold Cell.ok at h2
 rw [ht] at h2
 cases v with
 | slice p len cap =>
  cases p with
  | none =>
   cases len with
   | zero=>cases cap with
    | zero=>exact .inl rfl
    | succ n=>exact h2.elim
   | succ n=>exact h2.elim
  | some a =>
   obtain ⟨h1,_,_,hs,row,cells,hsh,_⟩:=h2
   obtain ⟨o,ho⟩:=zTf hsh
   exact .inr ⟨a,len,cap,o,rfl,h1,hs,ho⟩
 | _=>exact h2.elim
theorem okv_sl {w : World} {r : Reach} {b : Nat} {t e : TypeId} {v : Value} (ht : P.underlying t = some (.slice e)) (h : Value.okWide P w r b t v) : OkSl w v:=by
 unfold Value.okWide at h
 rw [ht] at h
 simp only at h
 exact zUb ht h
def IsSl (a : AV) : Prop:=a = .nilSl ∨ ∃ b o z l c e,a = .sl b o z l c e
theorem IsSl.cell {a : AV} (h : IsSl a) : a.isCell = true:=by
 rcases h with rfl | ⟨b,o,z,l,c,e,rfl⟩ <;> rfl
theorem IsSl.cells {a : AV} (h : IsSl a) : zA7 a = some [a]:=by
 rcases h with rfl | ⟨b,o,z,l,c,e,rfl⟩ <;> rfl
theorem trim_any (h h1 : zAa) (v : AV) : ∃ h',trim h (some (v,h1)) = some (v,h'):=by
 unfold trim
 simp only [Option.map_some]
 split
 ·exact ⟨_,rfl⟩
 ·exact ⟨_,rfl⟩
end Go.Proofs.YtbmmnfeeapnhkaaGreat.Eng
end
section
namespace Go.Proofs.YtbmmnfeeapnhkaaGreat.Eng
open Go Go.ChangeShapes Go.WideShapes Go.ChangeAt Go.RowKit
def u8s (zs : List Int) : List AV:=zs.map (AV.int .u8)
theorem zAd (zs : List Int) : (u8s zs).length = zs.length:=by simp [u8s]
theorem zGh {zs : List Int} {i : Nat} {z : Int} (h : zs[i]? = some z) : (u8s zs)[i]? = some (.int .u8 z):=by simp [u8s,h]
theorem zAo (zs : List Int) : (u8s zs).all AV.isCell = true:=by simp [u8s,AV.isCell]
theorem zAy {H x : zAa} {p : Nat} {cs : List AV} (hp : cellsOf H p = some cs) : cellsOf (H ++ x) p = some cs:=by
 have hlt : p < H.length:=by
  unfold cellsOf at hp
  cases h : H[p]? with
  | none=>rw [h] at hp; cases hp
  | some k=>exact (List.getElem?_eq_some_iff.1 h).1
 unfold cellsOf at hp ⊢
 rw [List.getElem?_append_left hlt]; exact hp
def BS (H : zAa) (v : AV) (zs : List Int) : Prop :=
 (v = .nilSl ∧ zs = []) ∨ ∃ b o l e cs,v = .sl b o 1 zs.length l e ∧ cellsOf H b = some cs ∧ (∀ i z,zs[i]? = some z → cs[o + i]? = some (.int .u8 z)) ∧ o + zs.length ≤ cs.length
theorem BS.len {H : zAa} {v : AV} {zs : List Int} (h : BS H v zs) : lenSl v = some (.int .i64 zs.length):=by
 rcases h with ⟨rfl,rfl⟩ | ⟨b,o,l,e,cs,rfl,_⟩ <;> rfl
theorem BS.mono {H : zAa} {v : AV} {zs : List Int} (h : BS H v zs) (G : zAa) : BS (H ++ G) v zs:=by
 rcases h with h | ⟨b,o,l,e,cs,rfl,hc,h⟩
 ·exact .inl h
 ·exact .inr ⟨b,o,l,e,cs,rfl,zAy hc,h⟩
theorem BS.is {H : zAa} {v : AV} {zs : List Int} (h : BS H v zs) : IsSl v:=by
 rcases h with ⟨rfl,rfl⟩ | ⟨b,o,l,e,cs,rfl,_⟩
 ·exact .inl rfl
 ·exact .inr ⟨_,_,_,_,_,_,rfl⟩
theorem BS.idx {H : zAa} {v : AV} {zs : List Int} (h : BS H v zs) {i : Nat} {z : Int} (hz : zs[i]? = some z) (k : IntKind) :
  ∃ a,zB0 1 v (.int k (i : Int)) = some a ∧ zGq 1 false a H = some (.int .u8 z):=by
 have hlt:=(List.getElem?_eq_some_iff.1 hz).1
 rcases h with ⟨_,rfl⟩ | ⟨b,o,l,e,cs,rfl,hc,hg,hl⟩
 ·simp at hz
 ·refine ⟨.ptr b (o + i),?_,?_⟩
  ·rw [zXj,if_pos ⟨Nat.le_refl _,by omega,by omega⟩]; simp
  ·show zLn H b (o + i) = _
   unfold zLn
   rw [hc]; exact hg i z hz
theorem BS.read {H : zAa} {v : AV} {zs : List Int} (h : BS H v zs) : zFm v = some zs.length ∧ zBx 1 zs.length v H = some (u8s zs):=by
 rcases h with ⟨rfl,rfl⟩ | ⟨b,o,l,e,cs,rfl,hc,hg,hl⟩
 ·exact ⟨rfl,rfl⟩
 ·refine ⟨rfl,?_⟩
  unfold zBx zC6
  simp only [if_true,hc,Option.bind_some,Nat.mul_one,if_pos hl,Option.some.injEq]
  apply List.ext_getElem?
  intro i
  by_cases hi : i < zs.length
  ·rw [List.getElem?_take,if_pos hi,List.getElem?_drop,hg i _ (List.getElem?_eq_getElem hi),zGh (List.getElem?_eq_getElem hi)]
  ·rw [List.getElem?_take,if_neg hi,List.getElem?_eq_none (by rw [zAd]; omega)]
theorem BS.block {H : zAa} {b : Nat} {zs : List Int} {l : Nat} {e : Bool} (h : H[b]? = some (.rw (u8s zs))) : BS H (.sl b 0 1 zs.length l e) zs :=
 .inr ⟨b,0,l,e,u8s zs,rfl,by unfold cellsOf; rw [h],fun i z hz=>by rw [Nat.zero_add]; exact zGh hz,by rw [zAd]; omega⟩
theorem BS.nil (H : zAa) : BS H .nilSl []:=.inl ⟨rfl,rfl⟩
theorem zLc : ∀ zs : List Int,zHq (u8s zs) = some (zs.map fun n=>UInt8.ofNat n.toNat)
 | []=>rfl
 | z :: zs=>by
  show ((zHq (u8s zs)).map _) = _
  rw [zLc zs]; rfl
theorem zW9 (bs : ByteArray) : ∀ (n i : Nat) (r : List UInt8),bs.size - i = n → ByteArray.toList.loop bs i r = r.reverse ++ bs.data.toList.drop i:=by
 intro n
 induction n with
 | zero =>
  intro i r hn
  unfold ByteArray.toList.loop
  have : ¬ i < bs.size:=by omega
  rw [if_neg this,List.drop_of_length_le (by have : bs.data.toList.length = bs.size:=rfl; omega),List.append_nil]
 | succ n ih =>
  intro i r hn
  unfold ByteArray.toList.loop
  have hi : i < bs.size:=by omega
  rw [if_pos hi,ih (i + 1) _ (by omega)]
  have hl : bs.data.toList.length = bs.size:=rfl
  rw [List.drop_eq_getElem_cons (i:=i) (by omega)]
  simp only [List.reverse_cons,List.append_assoc,List.singleton_append]
  congr 2
  simp [ByteArray.get!,hi]
theorem zP5 (bs : ByteArray) : bs.toList = bs.data.toList:=by
 unfold ByteArray.toList
 rw [zW9 bs _ 0 [] rfl]; rfl
theorem BS.str {H : zAa} {v : AV} {zs : List Int} (h : BS H v zs) : ∃ s,zFq .bytesStr v H = some (.str s) ∧ s.toList = zs.map fun n=>UInt8.ofNat n.toNat:=by
 rcases h with ⟨rfl,rfl⟩ | ⟨b,o,l,e,cs,rfl,hc,hg,hl⟩
 ·exact ⟨_,rfl,by rw [zP5]; rfl⟩
 ·have h2:=(BS.read (H:=H) (v:=.sl b o 1 zs.length l e) (zs:=zs) (.inr ⟨b,o,l,e,cs,rfl,hc,hg,hl⟩)).2
  unfold zBx at h2
  simp only [if_true,Nat.mul_one] at h2
  refine ⟨⟨(zs.map fun n=>UInt8.ofNat n.toNat).toArray⟩,?_,zP5 _⟩
  unfold zFq
  simp only [if_true,h2,Option.bind_some,zLc,Option.map_some]
def IsU8 (zs : List Int) : Prop:=∀ z ∈ zs,0 ≤ z ∧ z ≤ 255
theorem u8_inj : ∀ {xs ys : List Int},IsU8 xs → IsU8 ys → (xs.map fun n=>UInt8.ofNat n.toNat) = (ys.map fun n=>UInt8.ofNat n.toNat) → xs = ys
 | [],[],_,_,_=>rfl
 | [],_ :: _,_,_,h=>by cases h
 | _ :: _,[],_,_,h=>by cases h
 | x :: xs,y :: ys,hx,hy,h=>by
  simp only [List.map_cons,List.cons.injEq] at h
  have a:=hx x (by simp)
  have b:=hy y (by simp)
  have e : x = y:=by
   have:=congrArg UInt8.toNat h.1
   simp only [UInt8.toNat_ofNat'] at this
   omega
  rw [e,u8_inj (fun z hz=>hx z (by simp [hz])) (fun z hz=>hy z (by simp [hz])) h.2]
variable {P : Program} {H : Type} {enc : TypeId × Value → H}
end Go.Proofs.YtbmmnfeeapnhkaaGreat.Eng
end
section
namespace Go.Proofs.YtbmmnfeeapnhkaaGreat.Eng
open Go
theorem zEb {h h1 : zAa} {v : AV} (b : Nat) (k k' : ABlk) (a : AV) (hb : h[b]? = some k) (hk : h1[b]? = some k') (ha : a ∈ k'.vals) (hu : a.under h.length = false) (ho : ∀ c ∈ k.vals,c.under h.length = true) : trim h (some (v,h1)) = some (v,h1):=by
 unfold trim
 simp only [Option.map_some]
 rw [if_neg]
 rintro ⟨_,_,ht⟩
 rcases ht b k' (List.getElem?_eq_some_iff.1 hb).1 hk a ha with hx | ⟨k2,hk2,ha2⟩
 ·rw [hu] at hx; cases hx
 ·rw [hb] at hk2; injection hk2 with hk2; subst hk2
  rw [ho a ha2] at hu; cases hu
def i64s (zs : List Int) : List AV:=zs.map (AV.int .i64)
def IS (H : zAa) (v : AV) (zs : List Int) : Prop :=
 (v = .nilSl ∧ zs = []) ∨ ∃ b o l e cs,v = .sl b o 1 zs.length l e ∧ cellsOf H b = some cs ∧ (∀ i z,zs[i]? = some z → cs[o + i]? = some (.int .i64 z)) ∧ o + zs.length ≤ cs.length
theorem IS.len {H : zAa} {v : AV} {zs : List Int} (h : IS H v zs) : lenSl v = some (.int .i64 zs.length):=by
 rcases h with ⟨rfl,rfl⟩ | ⟨b,o,l,e,cs,rfl,_⟩ <;> rfl
end Go.Proofs.YtbmmnfeeapnhkaaGreat.Eng
end
