/- An evaluator over abstract values, proved sound against the machine: what it says of a call, the call does. No condition. -/
import Derived.RangeFuncLeaves
import Derived.OrdersIn
import Derived.Below
import Derived.Deep.Draws
import Derived.Laws.CopyRow
import Derived.Laws.Append
import Derived.Laws.StructEq
import Derived.Laws.Bits
section
namespace Go.Proofs.YtbmmnfeeapnhkaaGreat.Eng
open Go
inductive Ex where
 | normal
 | exit (id : Nat)
 | ret
 deriving Inhabited
def Ex.code : Ex → Option Code
 | .normal=>none
 | .exit id=>some (.exit id)
 | .ret=>some .ret
def Ex.isNormal : Ex → Bool
 | .normal=>true
 | _=>false
inductive AV where
 | int (k : IntKind) (n : Int)
 | bool (b : Bool)
 | str (s : ByteArray)
 | nilPtr
 | ptr (b off : Nat)
 | nilSl
 | sl (b off sz len lo : Nat) (ex : Bool)
 | agg (cs : List AV)
 | tup (vs : List AV)
 | fn (f : Nat) (cap : List AV)
 | yld (b : Nat)
 | nilFn
 | undef
 | any
 deriving Inhabited
structure ALoop where
 st : LoopState
 pend : Ex
 tmps : List AV
 params : List Nat
 assign : Code
 body : Code
inductive ABlk where
 | dead
 | ro (cs : List AV)
 | rw (cs : List AV)
 | loop (l : ALoop)
abbrev zAa:=List ABlk
def ABlk.own : ABlk → Bool
 | .rw _ | .loop _=>true
 | _=>false
def ABlk.alive : ABlk → Bool
 | .dead=>false
 | _=>true
theorem ABlk.alive_of_own {b : ABlk} (h : b.own = true) : b.alive = true:=by cases b <;> simp_all [ABlk.own,ABlk.alive]
structure Ent where
 blk : Nat
 base : Nat
 size : Nat
abbrev Ren:=Nat → Option Ent
mutual
inductive VRel (φ : Ren) : AV → Value → Prop
 | int (k : IntKind) (n : Int) : VRel φ (.int k n) (.int k n)
 | bool (b : Bool) : VRel φ (.bool b) (.bool b)
 | str (s : ByteArray) : VRel φ (.str s) (.string s)
 | nilPtr : VRel φ .nilPtr (.pointer none)
 | ptr {b off : Nat} {e : Ent} (h : φ b = some e) : VRel φ (.ptr b off) (.pointer (some ⟨e.blk,e.base + off,none⟩))
 | nilSl : VRel φ .nilSl (.slice none 0 0)
 | sl {b off sz len lo : Nat} {ex : Bool} {e : Ent} {a : Addr} {cap : Nat} (h : φ b = some e) (ha : a = ⟨e.blk,e.base + off,none⟩ ∨ cap = 0)
   (h1 : len ≤ lo) (h2 : lo ≤ cap) (h3 : ex = true → cap = lo) (h4 : e.base + off + cap * sz ≤ e.size) :
   VRel φ (.sl b off sz len lo ex) (.slice (some a) len cap)
 | agg {cs : List AV} {vs : List Value} (h : VRels φ cs vs) : VRel φ (.agg cs) (.agg vs.toArray)
 | tup {cs : List AV} {vs : List Value} (h : VRels φ cs vs) : VRel φ (.tup cs) (.tuple vs.toArray)
 | fn {f : Nat} {cs : List AV} {vs : List Value} (h : VRels φ cs vs) : VRel φ (.fn f cs) (.func (.func f) #[] vs.toArray)
 | yld {b : Nat} {e : Ent} (h : φ b = some e) : VRel φ (.yld b) (.func (.yield e.blk) #[] #[])
 | nilFn : VRel φ .nilFn .nilFunc
 | undef : VRel φ .undef (.tuple #[])
 | any (v : Value) : VRel φ .any v
inductive VRels (φ : Ren) : List AV → List Value → Prop
 | nil : VRels φ [] []
 | cons {a : AV} {v : Value} {as : List AV} {vs : List Value} (h : VRel φ a v) (t : VRels φ as vs) : VRels φ (a :: as) (v :: vs)
end
namespace VRels
variable {φ : Ren}
theorem length_eq : ∀ {as : List AV} {vs : List Value},VRels φ as vs → as.length = vs.length
 | _,_,.nil=>rfl
 | _,_,.cons _ t=>by simp [length_eq t]
theorem get : ∀ {as : List AV} {vs : List Value},VRels φ as vs → ∀ {i : Nat} {a : AV},as[i]? = some a → ∃ v,vs[i]? = some v ∧ VRel φ a v
 | _,_,.nil,i,a,h=>by simp at h
 | _,_,.cons h t,0,a,ha=>by simp at ha; subst ha; exact ⟨_,rfl,h⟩
 | _,_,.cons h t,i + 1,a,ha=>by simp at ha; simpa using get t ha
theorem of_get : ∀ {as : List AV} {vs : List Value},as.length = vs.length → (∀ (i : Nat) (a : AV),as[i]? = some a → ∃ v,vs[i]? = some v ∧ VRel φ a v) → VRels φ as vs
 | [],[],_,_=>.nil
 | a :: as,v :: vs,hl,h=>by
  obtain ⟨u,hu,hr⟩:=h 0 a rfl
  simp at hu; subst hu
  exact .cons hr (of_get (by simpa using hl) fun i b hb=>by simpa using h (i + 1) b (by simpa using hb))
theorem append {as bs : List AV} {vs us : List Value} (h : VRels φ as vs) (k : VRels φ bs us) : VRels φ (as ++ bs) (vs ++ us) :=
 match as,vs,h with
 | _,_,.nil=>k
 | _,_,.cons h t=>.cons h (append t k)
theorem take : ∀ {as : List AV} {vs : List Value} (n : Nat),VRels φ as vs → VRels φ (as.take n) (vs.take n)
 | _,_,0,_=>by simpa using .nil
 | _,_,n + 1,.nil=>by simpa using .nil
 | _,_,n + 1,.cons h t=>by simpa using .cons h (take n t)
theorem drop : ∀ {as : List AV} {vs : List Value} (n : Nat),VRels φ as vs → VRels φ (as.drop n) (vs.drop n)
 | _,_,0,h=>by simpa using h
 | _,_,n + 1,.nil=>by simpa using .nil
 | _,_,n + 1,.cons h t=>by simpa using drop n t
theorem set {as : List AV} {vs : List Value} (h : VRels φ as vs) (i : Nat) {a : AV} {v : Value} (hr : VRel φ a v) : VRels φ (as.set i a) (vs.set i v) :=
 match as,vs,i,h with
 | _,_,_,.nil=>by simpa using .nil
 | _,_,0,.cons _ t=>.cons hr t
 | _,_,i + 1,.cons h t=>.cons h (set t i hr)
theorem replicate {a : AV} {v : Value} (h : VRel φ a v) : ∀ n,VRels φ (List.replicate n a) (List.replicate n v)
 | 0=>.nil
 | n + 1=>.cons h (replicate h n)
end VRels
mutual
theorem VRel.mono {φ ψ : Ren} (hs : ∀ b e,φ b = some e → ψ b = some e) : ∀ {a : AV} {v : Value},VRel φ a v → VRel ψ a v
 | _,_,.int k n=>.int k n
 | _,_,.bool b=>.bool b
 | _,_,.str s=>.str s
 | _,_,.nilPtr=>.nilPtr
 | _,_,.ptr h=>.ptr (hs _ _ h)
 | _,_,.nilSl=>.nilSl
 | _,_,.sl h ha h1 h2 h3 h4=>.sl (hs _ _ h) ha h1 h2 h3 h4
 | _,_,.agg h=>.agg (VRels.mono hs h)
 | _,_,.tup h=>.tup (VRels.mono hs h)
 | _,_,.fn h=>.fn (VRels.mono hs h)
 | _,_,.yld h=>.yld (hs _ _ h)
 | _,_,.nilFn=>.nilFn
 | _,_,.undef=>.undef
 | _,_,.any v=>.any v
theorem VRels.mono {φ ψ : Ren} (hs : ∀ b e,φ b = some e → ψ b = some e) : ∀ {a : List AV} {v : List Value},VRels φ a v → VRels ψ a v
 | _,_,.nil=>.nil
 | _,_,.cons h t=>.cons (VRel.mono hs h) (VRels.mono hs t)
end
def zDq (φ : Ren) (cs : List AV) (e : Ent) (C : Array Value) : Prop :=
 C.size = e.size ∧ e.base + cs.length ≤ e.size ∧ ∀ (i : Nat) a,cs[i]? = some a → ∃ v,C[e.base + i]? = some v ∧ VRel φ a v
def LoopRel (φ : Ren) (l : ALoop) (r : Loop) : Prop :=
 r.state = l.st ∧ r.pending = l.pend.code ∧ VRels φ l.tmps r.tmps.toList ∧ r.params.toList = l.params ∧ r.assign = l.assign ∧ r.body = l.body
def Lo (fz : Nat × Nat) (n : Nat) : Prop:=fz.1 = fz.2 ∨ n ≤ fz.1
theorem Lo.zero (n : Nat) : Lo (0,0) n:=.inl rfl
def zFj (φ : Ren) : ABlk → Ent → Obj → Prop
 | .dead,_,_=>True
 | .ro cs,e,o=>∃ C t fz,o = .cells C t fz ∧ zDq φ cs e C
 | .rw cs,e,o=>∃ C t fz,o = .cells C t fz ∧ Lo fz C.size ∧ zDq φ cs e C
 | .loop l,_,o=>∃ r,o = .loop r ∧ LoopRel φ l r
theorem zDq.mono {φ ψ : Ren} (hs : ∀ b e,φ b = some e → ψ b = some e) {cs : List AV} {e : Ent} {C : Array Value} (h : zDq φ cs e C) : zDq ψ cs e C :=
 ⟨h.1,h.2.1,fun i a ha=>let ⟨v,hv,hr⟩:=h.2.2 i a ha; ⟨v,hv,hr.mono hs⟩⟩
theorem zFj.mono {φ ψ : Ren} (hs : ∀ b e,φ b = some e → ψ b = some e) {b : ABlk} {e : Ent} {o : Obj} (h : zFj φ b e o) : zFj ψ b e o:=by
 cases b with
 | dead=>trivial
 | ro cs=>obtain ⟨C,t,fz,ho,hc⟩:=h; exact ⟨C,t,fz,ho,hc.mono hs⟩
 | rw cs=>obtain ⟨C,t,fz,ho,hl,hc⟩:=h; exact ⟨C,t,fz,ho,hl,hc.mono hs⟩
 | loop l=>obtain ⟨r,ho,h1,h2,h3,h4⟩:=h; exact ⟨r,ho,h1,h2,h3.mono hs,h4⟩
structure St (φ : Ren) (h : zAa) (w : World) : Prop where
 dom : ∀ b e,φ b = some e → ∃ k o,h[b]? = some k ∧ w.heap[e.blk]? = some o ∧ zFj φ k e o
 inj : ∀ b b' e e' k k',φ b = some e → φ b' = some e' → h[b]? = some k → h[b']? = some k' → k.own = true → k'.alive = true → b ≠ b' → e.blk ≠ e'.blk
def zUs (φ : Ren) (h : zAa) (r : Nat) : Prop:=∃ b e k,φ b = some e ∧ e.blk = r ∧ h[b]? = some k ∧ k.own = true
theorem St.lt {φ : Ren} {h : zAa} {w : World} (s : St φ h w) {b : Nat} {e : Ent} (hb : φ b = some e) : b < h.length:=by
 obtain ⟨k,_,hk,_⟩:=s.dom b e hb
 exact (List.getElem?_eq_some_iff.1 hk).1
theorem St.wlt {φ : Ren} {h : zAa} {w : World} (s : St φ h w) {b : Nat} {e : Ent} (hb : φ b = some e) : e.blk < w.heap.size:=by
 obtain ⟨_,o,_,ho,_⟩:=s.dom b e hb
 exact (Array.getElem?_eq_some_iff.1 ho).1
structure Ext (φ : Ren) (h : zAa) (w : World) (φ' : Ren) (h' : zAa) (w' : World) : Prop where
 hlen : h.length ≤ h'.length
 wlen : w.heap.size ≤ w'.heap.size
 os : w'.os = w.os
 tape : w'.tape = w.tape
 output : w'.output = w.output
 old : ∀ b,b < h.length → φ' b = φ b
 afr : ∀ b,b < h.length → φ b = none → h'[b]? = h[b]?
 im : ∀ r,r < w.heap.size → zUs φ' h' r → zUs φ h r
 cfr : ∀ r,r < w.heap.size → ¬ zUs φ h r → w'.heap[r]? = w.heap[r]?
 lp : ∀ (b : Nat) (L : ALoop),h[b]? = some (.loop L) → ∃ L' : ALoop,h'[b]? = some (.loop L')
theorem Ext.refl (φ : Ren) (h : zAa) (w : World) : Ext φ h w φ h w :=
 ⟨Nat.le_refl _,Nat.le_refl _,rfl,rfl,rfl,fun _ _=>rfl,fun _ _ _=>rfl,fun _ _ h=>h,fun _ _ _=>rfl,fun _ L h=>⟨L,h⟩⟩
theorem Ext.trans {φ φ' φ'' : Ren} {h h' h'' : zAa} {w w' w'' : World} (a : Ext φ h w φ' h' w') (b : Ext φ' h' w' φ'' h'' w'') : Ext φ h w φ'' h'' w'' where
 hlen:=Nat.le_trans a.hlen b.hlen
 wlen:=Nat.le_trans a.wlen b.wlen
 os:=b.os.trans a.os
 tape:=b.tape.trans a.tape
 output:=b.output.trans a.output
 old i hi:=(b.old i (Nat.lt_of_lt_of_le hi a.hlen)).trans (a.old i hi)
 afr i hi hn:=(b.afr i (Nat.lt_of_lt_of_le hi a.hlen) ((a.old i hi).trans hn)).trans (a.afr i hi hn)
 im r hr ho:=a.im r hr (b.im r (Nat.lt_of_lt_of_le hr a.wlen) ho)
 cfr r hr hn:=(b.cfr r (Nat.lt_of_lt_of_le hr a.wlen) (fun ho=>hn (a.im r hr ho))).trans (a.cfr r hr hn)
 lp i L hL:=let ⟨L1,h1⟩:=a.lp i L hL; b.lp i L1 h1
theorem Ext.sub {φ φ' : Ren} {h h' : zAa} {w w' : World} (s : St φ h w) (a : Ext φ h w φ' h' w') : ∀ b e,φ b = some e → φ' b = some e :=
 fun b _ hb=>(a.old b (s.lt hb)).trans hb
theorem VRels.ext {φ φ' : Ren} {h h' : zAa} {w w' : World} (s : St φ h w) (a : Ext φ h w φ' h' w') {x : List AV} {v : List Value} (hr : VRels φ x v) : VRels φ' x v:=hr.mono (a.sub s)
theorem Ext.drew (φ : Ren) (h : zAa) (w : World) : Ext φ h w φ h w.drew :=
 ⟨Nat.le_refl _,Nat.le_refl _,rfl,rfl,rfl,fun _ _=>rfl,fun _ _ _=>rfl,fun _ _ h=>h,fun _ _ _=>rfl,fun _ L h=>⟨L,h⟩⟩
theorem St.drew {φ : Ren} {h : zAa} {w : World} (s : St φ h w) : St φ h w.drew:=⟨s.dom,s.inj⟩
theorem St.aside {φ : Ren} {h : zAa} {w : World} (s : St φ h w) (o : Obj) : St φ h (w.alloc o) ∧ Ext φ h w φ h (w.alloc o):=by
 have hheap : ∀ r,r < w.heap.size → (w.alloc o).heap[r]? = w.heap[r]?:=fun r hr=>RowKit.Below.heap_alloc w o r hr
 refine ⟨⟨fun b e hb=>?_,s.inj⟩,⟨Nat.le_refl _,by simp,rfl,rfl,rfl,fun _ _=>rfl,fun _ _ _=>rfl,fun _ _ h=>h,fun r hr _=>hheap r hr,fun _ L h=>⟨L,h⟩⟩⟩
 obtain ⟨k,o',h1,h2,h3⟩:=s.dom b e hb
 exact ⟨k,o',h1,by rw [hheap _ (s.wlt hb)]; exact h2,h3⟩
def Ren.put (φ : Ren) (b : Nat) (e : Ent) : Ren:=fun x=>if x = b then some e else φ x
theorem Ren.put_same (φ : Ren) (b : Nat) (e : Ent) : (φ.put b e) b = some e:=by simp [Ren.put]
theorem Ren.put_other (φ : Ren) {b x : Nat} (e : Ent) (h : x ≠ b) : (φ.put b e) x = φ x:=by simp [Ren.put,h]
theorem zDq.read {φ : Ren} {cs : List AV} {e : Ent} {C : Array Value} (h : zDq φ cs e C) (off n : Nat) (hn : off + n ≤ cs.length) :
  VRels φ ((cs.drop off).take n) ((C.toList.drop (e.base + off)).take n):=by
 have hs : C.toList.length = e.size:=by simpa using h.1
 have hb:=h.2.1
 refine VRels.of_get (by simp only [List.length_take,List.length_drop]; omega) fun i a ha=>?_
 rw [List.getElem?_take] at ha ⊢
 split at ha
 ·rename_i hi
  rw [if_pos hi]
  rw [List.getElem?_drop] at ha ⊢
  obtain ⟨v,hv,hr⟩:=h.2.2 _ _ ha
  exact ⟨v,by rw [Nat.add_assoc]; simpa using hv,hr⟩
 ·cases ha
theorem St.alloc {φ : Ren} {h : zAa} {w : World} (s : St φ h w) {k : ABlk} {o : Obj} {base size : Nat}
  (hk : ∀ ψ : Ren,(∀ b e,φ b = some e → ψ b = some e) → zFj ψ k ⟨w.heap.size,base,size⟩ o) :
  St (φ.put h.length ⟨w.heap.size,base,size⟩) (h ++ [k]) (w.alloc o) ∧ Ext φ h w (φ.put h.length ⟨w.heap.size,base,size⟩) (h ++ [k]) (w.alloc o):=by
 have hsub : ∀ b e,φ b = some e → (φ.put h.length ⟨w.heap.size,base,size⟩) b = some e:=fun b e hb=>by
  rw [Ren.put_other _ _ (Nat.ne_of_lt (s.lt hb))]; exact hb
 have hnone : ∀ b,h.length ≤ b → φ b = none:=fun b hb=>by
  cases hφ : φ b with
  | none=>rfl
  | some e=>exact absurd (s.lt hφ) (by omega)
 have hheap : ∀ r,r < w.heap.size → (w.alloc o).heap[r]? = w.heap[r]?:=fun r hr=>RowKit.Below.heap_alloc w o r hr
 have hnew : (w.alloc o).heap[w.heap.size]? = some o:=by show (w.heap.push o)[w.heap.size]? = _; simp
 have hcase : ∀ b e,(φ.put h.length ⟨w.heap.size,base,size⟩) b = some e → (b = h.length ∧ e = ⟨w.heap.size,base,size⟩) ∨ (b < h.length ∧ φ b = some e):=fun b e hb=>by
  by_cases hx : b = h.length
  ·subst hx; rw [Ren.put_same] at hb; injection hb with hb; exact .inl ⟨rfl,hb.symm⟩
  ·rw [Ren.put_other _ _ hx] at hb; exact .inr ⟨s.lt hb,hb⟩
 refine ⟨⟨?_,?_⟩,?_⟩
 ·intro b e hb
  rcases hcase b e hb with ⟨rfl,rfl⟩ | ⟨hlt,hb'⟩
  ·exact ⟨k,o,by simp,hnew,hk _ hsub⟩
  ·obtain ⟨k',o',h1,h2,h3⟩:=s.dom b e hb'
   exact ⟨k',o',by rw [List.getElem?_append_left hlt]; exact h1,by rw [hheap _ (s.wlt hb')]; exact h2,h3.mono hsub⟩
 ·intro b b' e e' k1 k2 hb hb' hk1 hk2 ho ha hne
  rcases hcase b e hb with ⟨rfl,rfl⟩ | ⟨hlt,hb1⟩
  ·rcases hcase b' e' hb' with ⟨rfl,rfl⟩ | ⟨hlt',hb1'⟩
   ·exact absurd rfl hne
   ·exact fun hx=>by have:=s.wlt hb1'; simp at hx; omega
  ·rcases hcase b' e' hb' with ⟨rfl,rfl⟩ | ⟨hlt',hb1'⟩
   ·exact fun hx=>by have:=s.wlt hb1; simp at hx; omega
   ·rw [List.getElem?_append_left hlt] at hk1
    rw [List.getElem?_append_left hlt'] at hk2
    exact s.inj b b' e e' k1 k2 hb1 hb1' hk1 hk2 ho ha hne
 ·refine ⟨by simp,by simp,rfl,rfl,rfl,fun b hb=>Ren.put_other _ _ (Nat.ne_of_lt hb),fun b hb _=>List.getElem?_append_left hb,?_,fun r hr _=>hheap r hr,fun b L hL=>⟨L,by rw [List.getElem?_append_left (List.getElem?_eq_some_iff.1 hL).1]; exact hL⟩⟩
  rintro r hr ⟨b,e,k1,hb,rfl,hk1,ho⟩
  rcases hcase b e hb with ⟨rfl,rfl⟩ | ⟨hlt,hb'⟩
  ·exact absurd hr (Nat.lt_irrefl _)
  ·exact ⟨b,e,k1,hb',rfl,by rw [List.getElem?_append_left hlt] at hk1; exact hk1,ho⟩
theorem St.turn {φ : Ren} {h : zAa} {w w' : World} (s : St φ h w) {b : Nat} {e : Ent} {k k' : ABlk} {o' : Obj} (hb : φ b = some e) (hk : h[b]? = some k) (ho : k.own = true)
  (hk' : zFj φ k' e o') (hw : w' = { w with heap:=w.heap.setIfInBounds e.blk o' }) (hloop : ∀ L : ALoop,k = .loop L → ∃ L' : ALoop,k' = .loop L') :
  St φ (h.set b k') w' ∧ Ext φ h w φ (h.set b k') w':=by
 subst hw
 have hlt:=s.lt hb
 have hwlt:=s.wlt hb
 have hne : ∀ b1 e1 k1,φ b1 = some e1 → h[b1]? = some k1 → k1.alive = true → b1 ≠ b → e1.blk ≠ e.blk:=fun b1 e1 k1 h1 h2 h3 h4 hx =>
  s.inj b b1 e e1 k k1 hb h1 hk h2 ho h3 (fun q=>h4 q.symm) hx.symm
 refine ⟨⟨?_,?_⟩,?_⟩
 ·intro b1 e1 h1
  by_cases hx : b1 = b
  ·subst hx
   obtain rfl : e = e1:=Option.some.inj (hb.symm.trans h1)
   exact ⟨k',o',by simp [hlt],by simp [hwlt],hk'⟩
  ·obtain ⟨k1,o1,h2,h3,h4⟩:=s.dom b1 e1 h1
   by_cases ha : k1.alive = true
   ·exact ⟨k1,o1,by rw [List.getElem?_set_ne (fun q=>hx q.symm)]; exact h2,by
     rw [Array.getElem?_setIfInBounds_ne (fun q=>hne b1 e1 k1 h1 h2 ha hx q.symm)]; exact h3,h4⟩
   ·have hd : k1 = .dead:=by cases k1 <;> simp_all [ABlk.alive]
    subst hd
    by_cases hq : e1.blk = e.blk
    ·exact ⟨.dead,o',by rw [List.getElem?_set_ne (fun q=>hx q.symm)]; exact h2,by rw [hq]; simp [hwlt],trivial⟩
    ·exact ⟨.dead,o1,by rw [List.getElem?_set_ne (fun q=>hx q.symm)]; exact h2,by
      rw [Array.getElem?_setIfInBounds_ne (fun q=>hq q.symm)]; exact h3,trivial⟩
 ·have back : ∀ b1 k1,(h.set b k')[b1]? = some k1 → k1.alive = true → ∃ k2,h[b1]? = some k2 ∧ k2.alive = true ∧ (b1 ≠ b → k2 = k1):=fun b1 k1 h1 h2=>by
   by_cases hx : b1 = b
   ·subst hx; exact ⟨k,hk,ABlk.alive_of_own ho,fun q=>absurd rfl q⟩
   ·rw [List.getElem?_set_ne (fun q=>hx q.symm)] at h1; exact ⟨k1,h1,h2,fun _=>rfl⟩
  intro b1 b2 e1 e2 k1 k2 h1 h2 hk1 hk2 ho1 ha2 hne12
  obtain ⟨j1,hj1,_,hj1'⟩:=back b1 k1 hk1 (ABlk.alive_of_own ho1)
  obtain ⟨j2,hj2,haj2,hj2'⟩:=back b2 k2 hk2 ha2
  by_cases hx : b1 = b
  ·subst hx
   obtain rfl : k = j1:=Option.some.inj (hk.symm.trans hj1)
   exact s.inj b1 b2 e1 e2 k j2 h1 h2 hk hj2 ho haj2 hne12
  ·exact s.inj b1 b2 e1 e2 j1 j2 h1 h2 hj1 hj2 (by rw [hj1' hx]; exact ho1) haj2 hne12
 ·refine ⟨by simp,by simp,rfl,rfl,rfl,fun _ _=>rfl,fun b1 _ hn=>?_,?_,fun r hr hn=>?_,fun b1 L hL=>?_⟩
  ·by_cases hx : b1 = b
   ·subst hx; rw [hb] at hn; cases hn
   ·rw [List.getElem?_set_ne (fun q=>hx q.symm)]
  ·rintro r hr ⟨b1,e1,k1,h1,rfl,hk1,ho1⟩
   by_cases hx : b1 = b
   ·subst hx
    obtain rfl : e = e1:=Option.some.inj (hb.symm.trans h1)
    exact ⟨b1,e,k,hb,rfl,hk,ho⟩
   ·rw [List.getElem?_set_ne (fun q=>hx q.symm)] at hk1
    exact ⟨b1,e1,k1,h1,rfl,hk1,ho1⟩
  ·exact Array.getElem?_setIfInBounds_ne (fun q=>hn ⟨b,e,k,hb,q,hk,ho⟩)
  ·by_cases hx : b1 = b
   ·subst hx
    obtain ⟨L',hL'⟩:=hloop L (Option.some.inj (hk.symm.trans hL))
    exact ⟨L',by rw [List.getElem?_set_self hlt,hL']⟩
   ·exact ⟨L,by rw [List.getElem?_set_ne (fun q=>hx q.symm)]; exact hL⟩
end Go.Proofs.YtbmmnfeeapnhkaaGreat.Eng
end
section
namespace Go.Proofs.YtbmmnfeeapnhkaaGreat.Eng
open Go
structure TyD where
 size : Nat
 agg : Bool
 bytes : Nat
 zero : List AV
def zKv : Value → AV
 | .int k n=>.int k n
 | .bool b=>.bool b
 | .string s=>.str s
 | .pointer none=>.nilPtr
 | .slice none 0 0=>.nilSl
 | .nilFunc=>.nilFn
 | .tuple vs=>if vs.size = 0 then .undef else .any
 | _=>.any
def ofValue : Value → AV
 | .agg cs=>.agg (cs.toList.map zKv)
 | v=>zKv v
def zD7 : TypeDesc → Bool
 | .struct _ | .array _ _=>true
 | _=>false
def tyD (P : Program) (t : TypeId) : Option TyD :=
 match P.info? t with
 | some i =>
  match i.zero,P.underlying t with
  | some z,some d=>if z.cells.size = i.size then some ⟨i.size,zD7 d,i.bytes,z.cells.toList.map zKv⟩ else none
  | _,_=>none
 | none=>none
def AV.isCell : AV → Bool
 | .agg _ | .tup _ | .undef | .any=>false
 | _=>true
def zA7 : AV → Option (List AV)
 | .agg cs=>some cs
 | .any=>none
 | v=>some [v]
def zBp (cs : List AV) (off : Nat) : List AV → List AV
 | [v]=>cs.set off v
 | vs=>cs.take off ++ vs ++ cs.drop (off + vs.length)
def cellsOf (h : zAa) (b : Nat) : Option (List AV) :=
 match h[b]? with
 | some (.rw cs)=>some cs
 | some (.ro cs)=>some cs
 | _=>none
def zC6 (h : zAa) (b off n : Nat) : Option (List AV) :=
 (cellsOf h b).bind fun cs=>if off + n ≤ cs.length then some ((cs.drop off).take n) else none
def zLn (h : zAa) (b off : Nat) : Option AV:=(cellsOf h b).bind fun cs=>cs[off]?
def zAz (h : zAa) (b off : Nat) (vs : List AV) : Option zAa :=
 match h[b]? with
 | some (.rw cs)=>if off + vs.length ≤ cs.length ∧ vs.all AV.isCell = true then some (h.set b (.rw (zBp cs off vs))) else none
 | _=>none
def zGq (size : Nat) (agg : Bool) (a : AV) (h : zAa) : Option AV :=
 match a with
 | .ptr b off=>if agg then (zC6 h b off size).map .agg else zLn h b off
 | _=>none
def zL1 (size : Nat) (a x : AV) (h : zAa) : Option zAa :=
 match a with
 | .ptr b off=>(zA7 x).bind fun cs=>if cs.length = size then zAz h b off cs else none
 | _=>none
def zFh (cs : List AV) (h : zAa) : AV × zAa:=(.ptr h.length 0,h ++ [.rw cs])
def zLo (place : Nat → Option (Nat × Nat)) (cells : List AV) : List (Nat × AV) → Option (List AV)
 | []=>some cells
 | (i,v) :: rest =>
  (place i).bind fun p=>(zA7 v).bind fun cs =>
   if cs.length = p.2 ∧ p.1 + p.2 ≤ cells.length then zLo place (zBp cells p.1 cs) rest else none
def zHk (P : Program) (t : TypeId) (i : Nat) : Option (Nat × Nat) :=
 match P.underlying t with
 | some (.struct fs)=>(fs[i]?).bind fun f=>(P.info? f.type).map fun j=>(f.offset,j.size)
 | some (.array _ e)=>(P.info? e).map fun j=>(i * j.size,j.size)
 | _=>none
def zQ8 (P : Program) (t : TypeId) : Bool :=
 match P.underlying t with
 | some (.struct fs)=>fs.all fun f=>(P.info? f.type).isSome
 | some (.array _ e)=>(P.info? e).isSome
 | _=>false
def zFe (op : BinOp) (k : IntKind) (a : Int) (k' : IntKind) (b : Int) : Option AV :=
 match op with
 | .shl=>if b < 0 then none else some (.int k (k.wrap (a * 2 ^ min b.toNat k.bits)))
 | .shr=>if b < 0 then none else some (.int k (a.fdiv (2 ^ min b.toNat k.bits)))
 | .add=>if k = k' then some (.int k (k.wrap (a + b))) else none
 | .sub=>if k = k' then some (.int k (k.wrap (a - b))) else none
 | .mul=>if k = k' then some (.int k (k.wrap (a * b))) else none
 | .quo=>if k = k' ∧ b ≠ 0 then some (.int k (k.wrap (a.tdiv b))) else none
 | .rem=>if k = k' ∧ b ≠ 0 then some (.int k (a.tmod b)) else none
 | .and=>if k = k' then some (.int k (k.wrap (BitVec.ofInt k.bits a &&& BitVec.ofInt k.bits b).toNat)) else none
 | .or=>if k = k' then some (.int k (k.wrap (BitVec.ofInt k.bits a ||| BitVec.ofInt k.bits b).toNat)) else none
 | .xor=>if k = k' then some (.int k (k.wrap (BitVec.ofInt k.bits a ^^^ BitVec.ofInt k.bits b).toNat)) else none
 | .andNot=>if k = k' then some (.int k (k.wrap (BitVec.ofInt k.bits a &&& ~~~ BitVec.ofInt k.bits b).toNat)) else none
 | .eql=>if k = k' then some (.bool (a == b)) else none
 | .neq=>if k = k' then some (.bool (a != b)) else none
 | .lss=>if k = k' then some (.bool (decide (a < b))) else none
 | .leq=>if k = k' then some (.bool (decide (a ≤ b))) else none
 | .gtr=>if k = k' then some (.bool (decide (a > b))) else none
 | .geq=>if k = k' then some (.bool (decide (a ≥ b))) else none
def zMj : AV → AV → Option Bool
 | .int k a,.int k' b=>if k = k' then some (a == b) else none
 | _,_=>none
def zEr : List AV → List AV → Option Bool
 | [],[]=>some true
 | a :: as,b :: bs=>(zMj a b).bind fun x=>(zEr as bs).map fun y=>x && y
 | _,_=>none
def zGv (P : Program) : Nat → TypeId → Bool
 | 0,_=>false
 | n + 1,t =>
  match P.underlying t with
  | some (.int _)=>(match P.info? t with | some i=>i.size == 1 | none=>false)
  | some (.array len e) =>
   zGv P n e && (match P.info? t,P.info? e with | some i,some j=>i.size == len * j.size | _,_=>false)
  | some (.struct fs) =>
   !P.stoodInHeld t && fs.all (fun f=>f.name != "_" && zGv P n f.type) &&
   (match P.info? t with
    | some i=>(fs.foldl (fun (s : Option Nat) f=>s.bind fun k=>if f.offset = k then (P.info? f.type).map fun j=>k + j.size else none) (some 0)) == some i.size
    | none=>false)
  | _=>false
inductive EqK where
 | bool
 | flat (n : Nat)
 | ptr
 | slice
 | func
 | none
def eqK (P : Program) (t : TypeId) : EqK :=
 match P.underlying t with
 | some .bool=>.bool
 | some (.pointer _)=>.ptr
 | some (.slice _)=>.slice
 | some (.func _ _ _)=>.func
 | some (.struct _)=>if zGv P 6 t && !P.eqGuardType P.depth t then .flat (P.cellsOf t) else .none
 | some (.array _ _)=>if zGv P 6 t && !P.eqGuardType P.depth t then .flat (P.cellsOf t) else .none
 | _=>.none
def eqV (e : EqK) (x y : AV) : Option Bool :=
 match e,x,y with
 | .bool,.bool a,.bool b=>some (a == b)
 | .ptr,.nilPtr,.nilPtr=>some true
 | .ptr,.nilPtr,.ptr _ _=>some false
 | .ptr,.ptr _ _,.nilPtr=>some false
 | .slice,.nilSl,.nilSl=>some true
 | .slice,.nilSl,.sl _ _ _ _ _ _=>some false
 | .slice,.sl _ _ _ _ _ _,.nilSl=>some false
 | .func,.nilFn,.nilFn=>some true
 | .func,.nilFn,.fn _ _=>some false
 | .func,.fn _ _,.nilFn=>some false
 | .flat n,.agg xs,.agg ys=>if xs.length = n then zEr xs ys else none
 | _,_,_=>none
def binV (op : BinOp) (e : EqK) (x y : AV) : Option AV :=
 match x,y with
 | .int k a,.int k' b=>zFe op k a k' b
 | .str a,.str b =>
  match op with
  | .eql=>some (.bool (a.toList == b.toList))
  | .neq=>some (.bool (!(a.toList == b.toList)))
  | _=>none
 | x,y =>
  match op with
  | .eql=>(eqV e x y).map fun b=>.bool b
  | .neq=>(eqV e x y).map fun b=>.bool (!b)
  | _=>none
def unV (op : UnOp) (x : AV) : Option AV :=
 match op,x with
 | .not,.bool b=>some (.bool (!b))
 | .neg,.int k n=>some (.int k (k.wrap (0 - n)))
 | .xor,.int k n=>some (.int k (k.wrap (BitVec.ofInt k.bits (if k.signed then -1 else k.max) ^^^ BitVec.ofInt k.bits n).toNat))
 | _,_=>none
def zHq : List AV → Option (List UInt8)
 | []=>some []
 | .int .u8 n :: r=>(zHq r).map fun l=>UInt8.ofNat n.toNat :: l
 | _ :: _=>none
inductive ConvK where
 | int (k : IntKind)
 | str
 | bytesStr
 | same
 | none
def zTy (P : Program) (src dst : TypeId) : ConvK :=
 match P.underlying src,P.underlying dst with
 | some (.int _),some (.int k)=>.int k
 | some .string,some .string=>.str
 | some (.slice e),some .string=>(match P.underlying e with | some (.int .u8)=>.bytesStr | _=>.none)
 | some (.slice _),some (.slice e)=>(match src == dst,P.underlying e with | true,some (.int .u8)=>.same | _,_=>.none)
 | _,_=>.none
def zFq (c : ConvK) (x : AV) (h : zAa) : Option AV :=
 match c,x with
 | .int k,.int _ n=>some (.int k (k.wrap n))
 | .str,.str s=>some (.str s)
 | .bytesStr,.nilSl=>some (.str .empty)
 | .bytesStr,.sl b off sz len _ _=>if sz = 1 then (zC6 h b off len).bind fun cs=>(zHq cs).map fun l=>.str ⟨l.toArray⟩ else none
 | .same,.sl b off sz len lo ex=>if 1 ≤ len then (match h[b]? with | some (.rw _)=>some (.sl b off sz len lo ex) | _=>none) else none
 | _,_=>none
def asI : Option AV → Int → Option Int
 | none,d=>some d
 | some (.int _ n),_=>some n
 | some _,_=>none
def zDa (sz : Nat) (x : AV) (lo hi mx : Option AV) : Option AV :=
 match x with
 | .nilSl=>(asI lo 0).bind fun l=>(asI hi 0).bind fun u=>(asI mx 0).bind fun m=>if (mx.isSome → hi.isSome) ∧ l = 0 ∧ u = 0 ∧ m = 0 then some .nilSl else none
 | .sl b off sz' len cp ex =>
  if sz' ≠ sz then none else
  (asI lo 0).bind fun l=>(asI hi len).bind fun u =>
   match mx with
   | none=>if 0 ≤ l ∧ l ≤ u ∧ u ≤ cp then some (.sl b (off + l.toNat * sz) sz (u.toNat - l.toNat) (cp - l.toNat) ex) else none
   | some mv=>(asI (some mv) 0).bind fun m =>
    if hi.isSome ∧ 0 ≤ l ∧ l ≤ u ∧ u ≤ m ∧ m ≤ cp then some (.sl b (off + l.toNat * sz) sz (u.toNat - l.toNat) (m.toNat - l.toNat) true) else none
 | _=>none
def zDb (n sz : Nat) (x : AV) (lo hi mx : Option AV) (h : zAa) : Option AV :=
 match x with
 | .ptr b off =>
  (asI lo 0).bind fun l=>(asI hi n).bind fun u=>(asI mx n).bind fun m =>
   if (mx.isSome → hi.isSome) ∧ 0 ≤ l ∧ l ≤ u ∧ u ≤ m ∧ m ≤ n ∧ (zC6 h b off (n * sz)).isSome then some (.sl b (off + l.toNat * sz) sz (u.toNat - l.toNat) (m.toNat - l.toNat) true) else none
 | _=>none
def zOh (P : Program) (t : TypeId) (x : AV) (lo hi mx : Option AV) (h : zAa) : Option AV :=
 match P.underlying t with
 | some (.array n e)=>(tyD P e).bind fun d=>zDb n d.size x lo hi mx h
 | some (.slice e)=>(tyD P e).bind fun d=>zDa d.size x lo hi mx
 | _=>none
def zI1 (P : Program) (t : TypeId) (x i : AV) : Option AV :=
 match P.underlying t with
 | some (.array n e)=>(tyD P e).bind fun d =>
  match x,i with
  | .ptr b off,.int _ j=>if 0 ≤ j ∧ j < n then some (.ptr b (off + j.toNat * d.size)) else none
  | _,_=>none
 | some (.slice e)=>(tyD P e).bind fun d =>
  match x,i with
  | .sl b off sz len _ _,.int _ j=>if sz = d.size ∧ 1 ≤ sz ∧ 0 ≤ j ∧ j < len then some (.ptr b (off + j.toNat * sz)) else none
  | _,_=>none
 | _=>none
def partV (d : TyD) (cs : List AV) (off : Nat) : Option AV :=
 if d.agg then (if off + d.size ≤ cs.length then some (.agg ((cs.drop off).take d.size)) else none) else cs[off]?
def zXi (P : Program) (t : TypeId) (x i : AV) : Option AV :=
 match P.underlying t with
 | some (.array n e)=>(tyD P e).bind fun d =>
  match x,i with
  | .agg cs,.int _ j=>if 0 ≤ j ∧ j < n then partV d cs (j.toNat * d.size) else none
  | _,_=>none
 | some .string =>
  match x,i with
  | .str s,.int _ j=>if 0 ≤ j then (s.data[j.toNat]?).map fun b=>.int .u8 b.toNat else none
  | _,_=>none
 | _=>none
def zXt (P : Program) (t : TypeId) (x : AV) (f : Nat) : Option AV :=
 match P.underlying t with
 | some (.struct fs)=>(fs[f]?).bind fun fd=>(tyD P fd.type).bind fun d =>
  match x with
  | .agg cs=>partV d cs fd.offset
  | _=>none
 | _=>none
def zI5 (P : Program) (t : TypeId) (x : AV) (f : Nat) : Option AV :=
 match P.underlying t with
 | some (.struct fs)=>(fs[f]?).bind fun fd=>(tyD P fd.type).bind fun d =>
  match x with
  | .ptr b off=>if d.size ≠ 0 then some (.ptr b (off + fd.offset)) else none
  | _=>none
 | _=>none
def roomy : Nat:=140737488355328
def zCw (d : TyD) (l c : AV) (h : zAa) : Option (AV × zAa) :=
 match l,c with
 | .int _ l,.int _ c =>
  if 0 ≤ l ∧ l ≤ c ∧ 1 ≤ d.bytes ∧ c * d.bytes ≤ roomy ∧ 1 ≤ d.size then
   some (.sl h.length 0 d.size l.toNat c.toNat true,h ++ [.rw (List.replicate c.toNat d.zero).flatten])
  else none
 | _,_=>none
def zFa (d : TyD) (len : Nat) (parts : List (Nat × AV)) (h : zAa) : Option (AV × zAa) :=
 if len * d.size ≤ 16777216 ∧ 1 ≤ d.size then
  (zLo (fun i=>some (i * d.size,d.size)) (List.replicate len d.zero).flatten parts).map fun cs=>(.sl h.length 0 d.size len len true,h ++ [.rw cs])
 else none
def zDd (d : TyD) (s : AV) (k : Nat) (xs : List AV) (h : zAa) : Option (AV × zAa) :=
 match s with
 | .nilSl =>
  if k = 0 then some (.nilSl,h)
  else if 1 ≤ d.size ∧ 1 ≤ d.bytes ∧ k * d.bytes ≤ roomy then some (.sl h.length 0 d.size k k false,h ++ [.rw xs]) else none
 | .sl b off sz len cp ex =>
  if sz ≠ d.size ∨ sz = 0 then none
  else if k = 0 then some (.sl b off sz len cp ex,h)
  else if len + k ≤ cp then (zAz h b (off + len * sz) xs).map fun h'=>(.sl b off sz (len + k) cp ex,h')
  else if 1 ≤ d.bytes ∧ (len + k) * d.bytes ≤ roomy then
   (zC6 h b off (len * sz)).bind fun old =>
    if ex then some (.sl h.length 0 sz (len + k) (len + k) false,h ++ [.rw (old ++ xs)])
    else match h[b]? with
     | some (.rw cs)=>if cs.length = off + cp * sz ∧ xs.all AV.isCell = true then some (.sl h.length 0 sz (len + k) (len + k) false,h.set b .dead ++ [.rw (old ++ xs)]) else none
     | _=>none
  else none
 | _=>none
def zFm : AV → Option Nat
 | .nilSl=>some 0
 | .sl _ _ _ len _ _=>some len
 | .str s=>some s.size
 | _=>none
def zBx (sz n : Nat) (x : AV) (h : zAa) : Option (List AV) :=
 match x with
 | .nilSl=>some []
 | .sl b off sz' _ _ _=>if sz' = sz then zC6 h b off (n * sz) else none
 | .str s=>if sz = 1 then some ((s.data.toList.take n).map fun b=>.int .u8 b.toNat) else none
 | _=>none
def zJc (d : TyD) (x y : AV) (h : zAa) : Option (AV × zAa) :=
 (zFm y).bind fun m =>
  match x with
  | .nilSl=>some (.int .i64 0,h)
  | .sl b off sz len _ _ =>
   if sz ≠ d.size ∨ sz = 0 then none else
   (zBx sz (min m len) y h).bind fun cs =>
    if min m len = 0 then some (.int .i64 0,h)
    else (zAz h b off cs).map fun h'=>(.int .i64 ((min m len : Nat) : Int),h')
  | _=>none
def zPx (d : TyD) (x : AV) (h : zAa) : Option (AV × zAa) :=
 match x with
 | .nilSl=>some (.tup [],h)
 | .sl b off sz len _ _ =>
  if len = 0 then some (.tup [],h)
  else if sz ≠ d.size ∨ sz = 0 then none
  else (zAz h b off (List.replicate len d.zero).flatten).map fun h'=>(.tup [],h')
 | _=>none
def maxL (k : IntKind) : Int → List AV → Option AV
 | x,[]=>some (.int k x)
 | x,.int _ y :: r=>maxL k (if y > x then y else x) r
 | _,_ :: _=>none
def maxV : List AV → Option AV
 | .int k x :: r=>maxL k x r
 | _=>none
def minL (k : IntKind) : Int → List AV → Option AV
 | x,[]=>some (.int k x)
 | x,.int _ y :: r=>minL k (if y < x then y else x) r
 | _,_ :: _=>none
def minV : List AV → Option AV
 | .int k x :: r=>minL k x r
 | _=>none
def lenV (P : Program) (t : TypeId) (x : AV) : Option AV :=
 match P.underlying t,x with
 | some .string,.str s=>some (.int .i64 s.size)
 | some (.array n _),_=>some (.int .i64 n)
 | some (.slice _),.nilSl=>some (.int .i64 0)
 | some (.slice _),.sl _ _ _ len _ _=>some (.int .i64 len)
 | _,_=>none
def capV (P : Program) (t : TypeId) (x : AV) : Option AV :=
 match P.underlying t,x with
 | some (.slice _),.nilSl=>some (.int .i64 0)
 | some (.slice _),.sl _ _ _ _ cp true=>some (.int .i64 cp)
 | _,_=>none
def zAp (h : zAa) (v : Option AV) : Option (AV × zAa):=v.map fun v=>(v,h)
def zJ7 (P : Program) (b : Builtin) (ts : List TypeId) (xs : List AV) (h : zAa) : Option (AV × zAa) :=
 match b,ts,xs with
 | .len,[t],[x]=>zAp h (lenV P t x)
 | .cap,[t],[x]=>zAp h (capV P t x)
 | .max,_,xs=>zAp h (maxV xs)
 | .min,_,xs=>zAp h (minV xs)
 | .copy,[t,_],[x,y] =>
  (match P.underlying t with
   | some (.slice e)=>(tyD P e).bind fun d=>zJc d x y h
   | _=>none)
 | .clear,[t],[x] =>
  (match P.underlying t with
   | some (.slice e)=>(tyD P e).bind fun d=>zPx d x h
   | _=>none)
 | .append,[t,u],[x,y] =>
  (match P.underlying t,P.underlying u with
   | some (.slice e),some (.int _)=>(tyD P e).bind fun d =>
    (match y with
     | .int _ n=>if 0 ≤ n ∧ 1 ≤ d.bytes ∧ n * d.bytes ≤ roomy then zDd d x n.toNat (List.replicate n.toNat d.zero).flatten h else none
     | _=>none)
   | some (.slice e),some _=>(tyD P e).bind fun d=>(zFm y).bind fun k=>(zBx d.size k y h).bind fun cs=>zDd d x k cs h
   | _,_=>none)
 | _,_,_=>none
def getT (t : List AV) (i : Nat) : AV:=(t[i]?).getD .undef
def zBk (t : List AV) : Operand → AV
 | .tmp i=>getT t i
 | .const v=>ofValue v
 | .global _=>.any
 | .func f=>.fn f []
def zNg (c a b : AV) : Option AV :=
 match c with
 | .bool t=>some (if t then a else b)
 | _=>none
def zGo : AV → Option AV
 | .ptr b off=>some (.ptr b off)
 | .fn f c=>some (.fn f c)
 | .yld b=>some (.yld b)
 | _=>none
def zBh (P : Program) (t : List AV) (op : Op) (h : zAa) : Option (AV × zAa) :=
 match op with
 | .move x=>some (zBk t x,h)
 | .assign x=>some (zBk t x,h)
 | .pick c a b=>zAp h (zNg (zBk t c) (zBk t a) (zBk t b))
 | .alloc e=>(tyD P e).map fun d=>zFh d.zero h
 | .box _ x=>(zA7 (zBk t x)).map fun cs=>zFh cs h
 | .build e parts=>if zQ8 P e then (tyD P e).bind fun d=>zAp h ((zLo (zHk P e) d.zero (parts.toList.map fun p=>(p.1,zBk t p.2))).map .agg) else none
 | .buildSlice e len parts =>
  (match P.underlying e with
   | some (.slice el)=>(tyD P el).bind fun d=>zFa d len (parts.toList.map fun p=>(p.1,zBk t p.2)) h
   | _=>none)
 | .load e a=>(tyD P e).bind fun d=>zAp h (zGq d.size d.agg (zBk t a) h)
 | .store e a x=>(tyD P e).bind fun d=>(zL1 d.size (zBk t a) (zBk t x) h).map fun h'=>(.undef,h')
 | .nilCheck x=>zAp h (zGo (zBk t x))
 | .binOp op e x y _=>zAp h (binV op (eqK P e) (zBk t x) (zBk t y))
 | .unOp op _ x=>zAp h (unV op (zBk t x))
 | .convert s d x=>zAp h (zFq (zTy P s d) (zBk t x) h)
 | .makeFunc (.func f) fi cs=>if fi.size = 0 then some (.fn f (cs.toList.map (zBk t)),h) else none
 | .makeSlice e l c =>
  (match P.underlying e with
   | some (.slice el)=>(tyD P el).bind fun d=>zCw d (zBk t l) (zBk t c) h
   | _=>none)
 | .slice e x lo hi mx=>zAp h (zOh P e (zBk t x) (lo.map (zBk t)) (hi.map (zBk t)) (mx.map (zBk t)) h)
 | .fieldAddr e x f=>zAp h (zI5 P e (zBk t x) f)
 | .field e x f=>zAp h (zXt P e (zBk t x) f)
 | .indexAddr e x i=>zAp h (zI1 P e (zBk t x) (zBk t i))
 | .index e x i=>zAp h (zXi P e (zBk t x) (zBk t i))
 | .extract x i=>zAp h (match zBk t x with | .tup vs=>vs[i]? | _=>none)
 | .call c =>
  (match c.callee with
   | .builtin b=>zJ7 P b c.argTypes.toList (c.args.toList.map (zBk t)) h
   | _=>none)
 | _=>none
abbrev Res:=Option (Ex × List AV × zAa)
structure Env where
 call : Nat → List AV → zAa → Option (AV × zAa)
 yield : Nat → List AV → zAa → Option (AV × zAa)
 loop : (List AV → zAa → Res) → List AV → zAa → Res
def zLq (E : Env) (f : AV) (args : List AV) (h : zAa) : Option (AV × zAa) :=
 match f with
 | .fn g cap=>E.call g (args ++ cap) h
 | .yld b=>E.yield b args h
 | _=>none
def zLr (E : Env) (f : AV) (args : List AV) (h : zAa) : Option (AV × zAa) :=
 match f with
 | .fn g cap=>E.call g (args ++ cap) h
 | _=>none
def zC9 (P : Program) (E : Env) (t : List AV) (op : Op) (h : zAa) : Option (AV × zAa) :=
 match op with
 | .call ⟨.value f,args,_⟩=>zLq E (zBk t f) (args.toList.map (zBk t)) h
 | op=>zBh P t op h
def putT (t : List AV) (d : Option Tmp) (v : AV) : List AV :=
 match d with
 | some i=>t.set i v
 | none=>t
def zC5 (ops : Array Oper) (t : List AV) (o : Oper) : Option Bool :=
 match o.guard with
 | none=>some true
 | some (j,want) =>
  match (ops[j]?).bind (·.dst) with
  | none=>some false
  | some d =>
   match t[d]? with
   | some (.bool b)=>some (b == want)
   | some .any=>none
   | _=>some false
def zDu (P : Program) (E : Env) (ops : Array Oper) : List Nat → List AV → zAa → Option (List AV × zAa)
 | [],t,h=>some (t,h)
 | i :: rest,t,h =>
  match ops[i]? with
  | none=>zDu P E ops rest t h
  | some o =>
   (zC5 ops t o).bind fun w =>
    if w then (zC9 P E t o.op h).bind fun r=>zDu P E ops rest (putT t o.dst r.1) r.2
    else zDu P E ops rest (putT t o.dst .undef) h
def zIv : Op → Bool
 | .call ⟨.builtin b,_,_⟩=>(match b with | .len | .cap | .max | .min=>true | _=>false)
 | .call _ | .store ..=>false
 | _=>true
def zEq (ops : Array Oper) (i : Nat) : Bool :=
 match ops[i]? with
 | some o=>zIv o.op
 | none=>false
def zDc : Op → Bool
 | .load .. | .convert .. | .slice ..=>true
 | _=>false
def zIh (acc : List Nat) (o : Oper) : Nat :=
 o.after.toList.foldl (fun s e=>if Region.binds .any e then s ||| 2 ^ e.on ||| acc.getD e.on 0 else s) 0
def zJl : List Oper → List Nat → List Nat
 | [],acc=>acc
 | o :: r,acc=>zJl r (acc ++ [zIh acc o])
def masks (ops : Array Oper) : List Nat:=zJl ops.toList []
def zJ4 (ops : Array Oper) (M : List Nat) (j : Nat) (o : Oper) (i : Nat) : Bool :=
 i == j || (match (ops[i]?).bind (·.dst) with
  | none=>true
  | some x=>(o.dst != some x) && (!(o.looksAt ops).contains x || (M.getD j 0).testBit i || (M.getD i 0).testBit j))
def zHd (ops : Array Oper) : Bool :=
 (List.range ops.size).all fun j =>
  match ops[j]? with
  | none=>false
  | some o=>(o.after.toList.all fun e=>!Region.binds .any e || decide (e.on < j)) && (List.range ops.size).all (zJ4 ops (masks ops) j o)
structure Open where
 at_ : Nat
 again : zAa → Option (AV × zAa)
 val : AV
open Classical in
noncomputable def zFs (M : List Nat) (j : Nat) (h : zAa) : List Open → Bool
 | []=>true
 | o :: r=>((M.getD j 0).testBit o.at_ || decide (o.again h = some (o.val,h))) && zFs M j h r
noncomputable def zBv (P : Program) (E : Env) (ops : Array Oper) : Nat → Array Bool → List AV → zAa → List Open → Option (List AV × zAa)
 | 0,_,_,_,_=>none
 | n + 1,listed,t,h,opens =>
  match Region.ready .any ops listed with
  | []=>some (t,h)
  | r0 :: rest =>
   match (r0 :: rest).find? (zEq ops) with
   | some i =>
    (match ops[i]? with
     | some o=>(zC5 ops t o).bind fun w =>
      if w then (zBh P t o.op h).bind fun r =>
       zBv P E ops n (listed.setIfInBounds i true) (putT t o.dst r.1) r.2 (if zDc o.op then ⟨i,zBh P t o.op,r.1⟩ :: opens else opens)
      else zBv P E ops n (listed.setIfInBounds i true) (putT t o.dst .undef) h opens
     | none=>none)
   | none =>
    if rest.isEmpty then
     (match ops[r0]? with
      | some o=>(zC5 ops t o).bind fun w =>
       if w then (zC9 P E t o.op h).bind fun r =>
        if zFs (masks ops) r0 r.2 opens then zBv P E ops n (listed.setIfInBounds r0 true) (putT t o.dst r.1) r.2 opens else none
       else zBv P E ops n (listed.setIfInBounds r0 true) (putT t o.dst .undef) h opens
      | none=>none)
    else none
def seqR (r : Res) (k : List AV → zAa → Res) : Res :=
 match r with
 | some (.normal,t,h)=>k t h
 | r=>r
def zBr (id : Nat) (r : Res) : Res :=
 match r with
 | some (.exit j,t,h)=>if j = id then some (.normal,t,h) else some (.exit j,t,h)
 | r=>r
def zNw (c : AV) (a b : Res) : Res :=
 match c with
 | .bool true=>a
 | .bool false=>b
 | _=>none
def zNj (r : Option (List AV × zAa)) : Res:=r.map fun p=>(.normal,p.1,p.2)
def zCr (l : Nat) (t : List AV) (r : Option (AV × zAa)) : Res :=
 r.bind fun p =>
  match p.2[l]? with
  | some (.loop L)=>if L.st = .busy then none else some (L.pend,t,p.2.set l (.loop { L with st:=.exhausted }))
  | _=>none
noncomputable def zAi (P : Program) (E : Env) : Code → List AV → zAa → Res
 | .skip,t,h=>some (.normal,t,h)
 | .label _,t,h=>some (.normal,t,h)
 | .region _ ops draw,t,h =>
  zNj (if draw then (if zHd ops then zBv P E ops (ops.size + 1) (Array.replicate ops.size false) t h [] else none) else zDu P E ops (List.range ops.size) t h)
 | .seq a b,t,h=>seqR (zAi P E a t h) (zAi P E b)
 | .cond c a b,t,h=>zNw (zBk t c) (zAi P E a t h) (zAi P E b t h)
 | .block id b,t,h=>zBr id (zAi P E b t h)
 | .loop b,t,h=>E.loop (zAi P E b) t h
 | .scope b,t,h=>zAi P E b t h
 | .exit id,t,h=>some (.exit id,t,h)
 | .ret,t,h=>some (.ret,t,h)
 | .goto _,_,_=>none
 | .refuse _,_,_=>none
 | .rangeFunc f ps assign body,t,h =>
  zCr h.length t (zLr E (zBk t f) [.yld h.length] (h ++ [.loop ⟨.ready,.normal,t,ps.toList,assign,body⟩]))
def zDr (P : Program) (t : List AV) (h : zAa) : List ResultVar → Option (List AV)
 | []=>some []
 | .tmp i :: r=>(zDr P t h r).map fun vs=>getT t i :: vs
 | .cell a e :: r=>(tyD P e).bind fun d=>(zGq d.size d.agg (getT t a) h).bind fun v=>(zDr P t h r).map fun vs=>v :: vs
def zHl : List AV → AV
 | [v]=>v
 | vs=>.tup vs
def zF3 (P : Program) (fn : Func) (r : Res) : Option (AV × zAa) :=
 match r with
 | some (.normal,t,h)=>(zDr P t h fn.results.toList).map fun vs=>(zHl vs,h)
 | some (.ret,t,h)=>(zDr P t h fn.results.toList).map fun vs=>(zHl vs,h)
 | _=>none
mutual
def AV.under (n : Nat) : AV → Bool
 | .ptr b _ | .sl b _ _ _ _ _ | .yld b=>decide (b < n)
 | .agg cs | .tup cs | .fn _ cs=>zAt n cs
 | _=>true
def zAt (n : Nat) : List AV → Bool
 | []=>true
 | a :: r=>a.under n && zAt n r
end
def ABlk.vals : ABlk → List AV
 | .dead=>[]
 | .ro cs | .rw cs=>cs
 | .loop l=>l.tmps
def zCz (h : zAa) (v : AV) (h' : zAa) : Prop :=
 h.length ≤ h'.length ∧ v.under h.length = true ∧ ∀ (b : Nat) k',b < h.length → h'[b]? = some k' → ∀ a ∈ k'.vals,a.under h.length = true ∨ ∃ k,h[b]? = some k ∧ a ∈ k.vals
open Classical in
noncomputable def trim (h : zAa) (r : Option (AV × zAa)) : Option (AV × zAa) :=
 r.map fun p=>if zCz h p.1 p.2 then (p.1,p.2.take h.length) else p
noncomputable def zE9 (P : Program) (E : Env) (f : Nat) (args : List AV) (h : zAa) : Option (AV × zAa) :=
 match P.funcs[f]? with
 | some fn =>
  match fn.body with
  | some c=>zF3 P fn (zAi P E c (args ++ List.replicate (fn.ntmps - args.length) .undef) h)
  | none=>none
 | none=>none
noncomputable def zCm (P : Program) (E : Env) (f : Nat) (args : List AV) (h : zAa) : Option (AV × zAa):=trim h (zE9 P E f args h)
def zBq : List Nat → List AV → List AV → List AV
 | p :: ps,a :: as,t=>zBq ps as (t.set p a)
 | _,_,t=>t
def zEu (l : Nat) (r : Res) : Option (AV × zAa) :=
 r.bind fun p =>
  match p.2.2[l]? with
  | some (.loop L)=>some (.bool p.1.isNormal,p.2.2.set l (.loop { L with st:=if p.1.isNormal then .ready else .done,pend:=p.1 }))
  | _=>none
noncomputable def zCc (P : Program) (E : Env) (l : Nat) (c : Code) (r : Res) : Option (AV × zAa) :=
 match r with
 | some (.normal,t,h) =>
  match h[l]? with
  | some (.loop L)=>if L.st = .ready then zEu l (zAi P E c t (h.set l (.loop { L with st:=.busy }))) else none
  | _=>none
 | _=>none
noncomputable def zD0 (P : Program) (E : Env) (l : Nat) (args : List AV) (h : zAa) : Option (AV × zAa) :=
 match h[l]? with
 | some (.loop L)=>if args.length = L.params.length then zCc P E l L.body (zAi P E L.assign (zBq L.params args L.tmps) h) else none
 | _=>none
noncomputable def zDk (P : Program) (E : Env) (l : Nat) (args : List AV) (h : zAa) : Option (AV × zAa):=trim h (zD0 P E l args h)
def zFk : Nat → (List AV → zAa → Res) → List AV → zAa → Res
 | 0,_,_,_=>none
 | n + 1,b,t,h=>seqR (b t h) (zFk n b)
noncomputable def envN (P : Program) : Nat → Env
 | 0=>⟨fun _ _ _=>none,fun _ _ _=>none,zFk 0⟩
 | n + 1=>⟨zCm P (envN P n),zDk P (envN P n),zFk (n + 1)⟩
end Go.Proofs.YtbmmnfeeapnhkaaGreat.Eng
end
section
namespace Go.Proofs.YtbmmnfeeapnhkaaGreat.Eng
open Go
def Le {α : Type} (l m : Option α) : Prop:=∀ r,l = some r → m = some r
theorem Le.refl {α : Type} (l : Option α) : Le l l:=fun _ h=>h
theorem Le.none {α : Type} (m : Option α) : Le none m:=fun _ h=>by cases h
theorem Le.trans {α : Type} {a b c : Option α} (h : Le a b) (k : Le b c) : Le a c:=fun r hr=>k r (h r hr)
theorem Le.bind {α β : Type} {a b : Option α} {f g : α → Option β} (h : Le a b) (k : ∀ x,Le (f x) (g x)) : Le (a.bind f) (b.bind g):=fun r hr=>by
 obtain ⟨x,hx,hf⟩:=Option.bind_eq_some_iff.1 hr
 rw [h x hx]; exact k x r hf
theorem Le.map {α β : Type} {a b : Option α} {f : α → β} (h : Le a b) : Le (a.map f) (b.map f):=fun r hr=>by
 obtain ⟨x,hx,hf⟩:=Option.map_eq_some_iff.1 hr
 rw [h x hx]; simp [hf]
theorem Le.ite {α : Type} {c : Prop} [Decidable c] {a b a' b' : Option α} (h : Le a b) (k : Le a' b') : Le (if c then a else a') (if c then b else b'):=by
 split
 ·exact h
 ·exact k
structure Env.le (E E' : Env) : Prop where
 call : ∀ f a h,Le (E.call f a h) (E'.call f a h)
 yield : ∀ f a h,Le (E.yield f a h) (E'.yield f a h)
 loop : ∀ b b' : List AV → zAa → Res,(∀ t h,Le (b t h) (b' t h)) → ∀ t h,Le (E.loop b t h) (E'.loop b' t h)
section mono
variable {P : Program} {E E' : Env}
theorem zUg (le : E.le E') (f : AV) (a : List AV) (h : zAa) : Le (zLq E f a h) (zLq E' f a h):=by
 cases f <;> first | exact le.call _ _ _ | exact le.yield _ _ _ | exact Le.refl _
theorem zUj (le : E.le E') (f : AV) (a : List AV) (h : zAa) : Le (zLr E f a h) (zLr E' f a h):=by
 cases f <;> first | exact le.call _ _ _ | exact Le.refl _
theorem zEw (le : E.le E') (t : List AV) (op : Op) (h : zAa) : Le (zC9 P E t op h) (zC9 P E' t op h):=by
 unfold zC9
 split
 ·exact zUg le _ _ _
 ·exact Le.refl _
theorem zEn (le : E.le E') (ops : Array Oper) : ∀ (l : List Nat) (t : List AV) (h : zAa),Le (zDu P E ops l t h) (zDu P E' ops l t h)
 | [],_,_=>Le.refl _
 | i :: l,t,h=>by
  simp only [zDu]
  split
  ·exact zEn le ops l t h
  ·refine Le.bind (Le.refl _) fun w=>?_
   split
   ·exact Le.bind (zEw le _ _ _) fun r=>zEn le ops l _ _
   ·exact zEn le ops l _ _
theorem zDh (le : E.le E') (ops : Array Oper) : ∀ (n : Nat) (l : Array Bool) (t : List AV) (h : zAa) (o : List Open),Le (zBv P E ops n l t h o) (zBv P E' ops n l t h o)
 | 0,_,_,_,_=>Le.refl _
 | n + 1,l,t,h,o=>by
  simp only [zBv]
  split
  ·exact Le.refl _
  ·split
   ·split
    ·refine Le.bind (Le.refl _) fun w=>?_
     split
     ·exact Le.bind (Le.refl _) fun r=>zDh le ops n _ _ _ _
     ·exact zDh le ops n _ _ _ _
    ·exact Le.refl _
   ·split
    ·split
     ·refine Le.bind (Le.refl _) fun w=>?_
      split
      ·refine Le.bind (zEw le _ _ _) fun r=>?_
       split
       ·exact zDh le ops n _ _ _ _
       ·exact Le.refl _
      ·exact zDh le ops n _ _ _ _
     ·exact Le.refl _
    ·exact Le.refl _
theorem zKj {r r' : Res} {k k' : List AV → zAa → Res} (h : Le r r') (hk : ∀ t h,Le (k t h) (k' t h)) : Le (seqR r k) (seqR r' k'):=by
 intro x hx
 match r,h,hx with
 | none,_,hx=>simp [seqR] at hx
 | some (.normal,t,hp),h,hx=>rw [h _ rfl]; exact hk _ _ _ hx
 | some (.exit j,t,hp),h,hx=>rw [h _ rfl]; exact hx
 | some (.ret,t,hp),h,hx=>rw [h _ rfl]; exact hx
theorem zQ9 {id : Nat} {r r' : Res} (h : Le r r') : Le (zBr id r) (zBr id r'):=by
 intro x hx
 match r,h,hx with
 | none,_,hx=>simp [zBr] at hx
 | some y,h,hx=>rw [h _ rfl]; exact hx
theorem zT4 {c : AV} {a b a' b' : Res} (h : Le a a') (k : Le b b') : Le (zNw c a b) (zNw c a' b'):=by
 unfold zNw; split
 ·exact h
 ·exact k
 ·exact Le.refl _
theorem zNe {l : Nat} {t : List AV} {r r' : Option (AV × zAa)} (h : Le r r') : Le (zCr l t r) (zCr l t r'):=Le.bind h fun _=>Le.refl _
theorem zNc {l : Nat} {r r' : Res} (h : Le r r') : Le (zEu l r) (zEu l r'):=Le.bind h fun _=>Le.refl _
theorem zBg (le : E.le E') : ∀ (c : Code) (t : List AV) (h : zAa),Le (zAi P E c t h) (zAi P E' c t h)
 | .skip,_,_ | .label _,_,_ | .exit _,_,_ | .ret,_,_ | .goto _,_,_ | .refuse _,_,_=>by simp only [zAi]; exact Le.refl _
 | .region id ops draw,t,h=>by
  simp only [zAi,zNj]
  exact Le.map (Le.ite (Le.ite (zDh le ops _ _ _ _ _) (Le.refl _)) (zEn le ops _ _ _))
 | .seq a b,t,h=>by simp only [zAi]; exact zKj (zBg le a t h) (fun t h=>zBg le b t h)
 | .cond c a b,t,h=>by simp only [zAi]; exact zT4 (zBg le a t h) (zBg le b t h)
 | .block id b,t,h=>by simp only [zAi]; exact zQ9 (zBg le b t h)
 | .loop b,t,h=>by simp only [zAi]; exact le.loop _ _ (fun t h=>zBg le b t h) t h
 | .scope b,t,h=>by simp only [zAi]; exact zBg le b t h
 | .rangeFunc f ps assign body,t,h=>by simp only [zAi]; exact zNe (zUj le _ _ _)
theorem zPj {fn : Func} {r r' : Res} (h : Le r r') : Le (zF3 P fn r) (zF3 P fn r'):=by
 intro x hx
 match r,h,hx with
 | none,_,hx=>simp [zF3] at hx
 | some y,h,hx=>rw [h _ rfl]; exact hx
theorem zOf {h : zAa} {r r' : Option (AV × zAa)} (k : Le r r') : Le (trim h r) (trim h r'):=Le.map k
theorem zP2 (le : E.le E') (f : Nat) (a : List AV) (h : zAa) : Le (zE9 P E f a h) (zE9 P E' f a h):=by
 unfold zE9
 split
 ·split
  ·exact zPj (zBg le _ _ _)
  ·exact Le.refl _
 ·exact Le.refl _
theorem zIq (le : E.le E') (f : Nat) (a : List AV) (h : zAa) : Le (zCm P E f a h) (zCm P E' f a h):=zOf (zP2 le f a h)
theorem zH3 (le : E.le E') {l : Nat} {c : Code} {r r' : Res} (h : Le r r') : Le (zCc P E l c r) (zCc P E' l c r'):=by
 intro x hx
 match r,h,hx with
 | none,_,hx=>simp [zCc] at hx
 | some (.exit j,t,hp),h,hx=>simp [zCc] at hx
 | some (.ret,t,hp),h,hx=>simp [zCc] at hx
 | some (.normal,t,hp),h,hx =>
  rw [h _ rfl]
  revert hx
  simp only [zCc]
  split
  ·split
   ·exact zNc (zBg le _ _ _) x
   ·exact fun hx=>hx
  ·exact fun hx=>hx
theorem zMx (le : E.le E') (f : Nat) (a : List AV) (h : zAa) : Le (zD0 P E f a h) (zD0 P E' f a h):=by
 unfold zD0
 split
 ·split
  ·exact zH3 le (zBg le _ _ _)
  ·exact Le.refl _
 ·exact Le.refl _
theorem zG8 (le : E.le E') (f : Nat) (a : List AV) (h : zAa) : Le (zDk P E f a h) (zDk P E' f a h):=zOf (zMx le f a h)
end mono
theorem zDf : ∀ (n m : Nat),n ≤ m → ∀ (b b' : List AV → zAa → Res),(∀ t h,Le (b t h) (b' t h)) → ∀ t h,Le (zFk n b t h) (zFk m b' t h)
 | 0,_,_,_,_,_,_,_=>Le.none _
 | n + 1,0,h,_,_,_,_,_=>absurd h (by omega)
 | n + 1,m + 1,h,b,b',hb,t,hp=>zKj (hb t hp) fun t h'=>zDf n m (by omega) b b' hb t h'
theorem zK6 (P : Program) : ∀ n,(envN P n).le (envN P (n + 1))
 | 0=>⟨fun _ _ _=>Le.none _,fun _ _ _=>Le.none _,fun b b' hb t h=>zDf 0 1 (by omega) b b' hb t h⟩
 | n + 1=>⟨fun f a h=>zIq (zK6 P n) f a h,fun f a h=>zG8 (zK6 P n) f a h,fun b b' hb t h=>zDf (n + 1) (n + 2) (by omega) b b' hb t h⟩
theorem Env.le.trans {A B C : Env} (h : A.le B) (k : B.le C) : A.le C :=
 ⟨fun f a x=>(h.call f a x).trans (k.call f a x),fun f a x=>(h.yield f a x).trans (k.yield f a x),
  fun b b' hb t x=>(h.loop b b (fun _ _=>Le.refl _) t x).trans (k.loop b b' hb t x)⟩
theorem zK7 (P : Program) : ∀ n,(envN P n).loop = zFk n
 | 0=>rfl
 | _ + 1=>rfl
theorem zCp (P : Program) {n m : Nat} (h : n ≤ m) : (envN P n).le (envN P m):=by
 obtain ⟨d,rfl⟩:=Nat.le.dest h
 induction d with
 | zero=>exact ⟨fun _ _ _=>Le.refl _,fun _ _ _=>Le.refl _,fun b b' hb t x=>by rw [Nat.add_zero,zK7]; exact zDf n n (Nat.le_refl _) b b' hb t x⟩
 | succ d ih=>exact (ih (by omega)).trans (zK6 P (n + d))
open Classical in
noncomputable def lim {α : Type} (m : Nat → Option α) : Option α:=if h : ∃ r,∃ n,m n = some r then some h.choose else none
theorem zEj {α : Type} {m : Nat → Option α} {r : α} (h : lim m = some r) : ∃ n,m n = some r:=by
 unfold lim at h
 split at h
 ·rename_i hx
  injection h with h
  rw [← h]; exact hx.choose_spec
 ·cases h
theorem zJm {α : Type} {m : Nat → Option α} (hm : ∀ n k,n ≤ k → Le (m n) (m k)) {n : Nat} {r : α} (h : m n = some r) : lim m = some r:=by
 have hx : ∃ r,∃ n,m n = some r:=⟨r,n,h⟩
 unfold lim
 rw [dif_pos hx]
 obtain ⟨k,hk⟩:=hx.choose_spec
 have h1:=hm n (max n k) (Nat.le_max_left _ _) _ h
 have h2:=hm k (max n k) (Nat.le_max_right _ _) _ hk
 rw [h1] at h2; exact h2.symm
noncomputable def loopL (b : List AV → zAa → Res) (t : List AV) (h : zAa) : Res:=lim fun n=>zFk n b t h
noncomputable def envL (P : Program) : Env:=⟨fun f a h=>lim fun n=>(envN P n).call f a h,fun f a h=>lim fun n=>(envN P n).yield f a h,loopL⟩
theorem zPo (P : Program) (n : Nat) : (envN P n).le (envL P) where
 call f a h r hr:=zJm (fun _ _ hnk=>(zCp P hnk).call f a h) hr
 yield f a h r hr:=zJm (fun _ _ hnk=>(zCp P hnk).yield f a h) hr
 loop b b' hb t h r hr:=by
  rw [zK7] at hr
  exact zJm (m:=fun n=>zFk n b' t h) (fun i k hik=>zDf i k hik b' b' (fun _ _=>Le.refl _) t h) (zDf n n (Nat.le_refl _) b b' hb t h r hr)
section cont
variable {P : Program}
theorem zUh (f : AV) (a : List AV) (h : zAa) {r} (hr : zLq (envL P) f a h = some r) : ∃ n,zLq (envN P n) f a h = some r:=by
 cases f <;> first | exact zEj hr | exact ⟨0,hr⟩
theorem zUk (f : AV) (a : List AV) (h : zAa) {r} (hr : zLr (envL P) f a h = some r) : ∃ n,zLr (envN P n) f a h = some r:=by
 cases f <;> first | exact zEj hr | exact ⟨0,hr⟩
theorem zIe (t : List AV) (op : Op) (h : zAa) {r} (hr : zC9 P (envL P) t op h = some r) : ∃ n,zC9 P (envN P n) t op h = some r:=by
 revert hr
 unfold zC9
 split
 ·exact zUh _ _ _
 ·exact fun hr=>⟨0,hr⟩
theorem zFf (ops : Array Oper) : ∀ (l : List Nat) (t : List AV) (h : zAa) {r},zDu P (envL P) ops l t h = some r → ∃ n,zDu P (envN P n) ops l t h = some r
 | [],_,_,_,hr=>⟨0,hr⟩
 | i :: l,t,h,r,hr=>by
  simp only [zDu] at hr ⊢
  cases ho : ops[i]? with
  | none=>rw [ho] at hr; exact zFf ops l t h hr
  | some o =>
   rw [ho] at hr
   simp only at hr ⊢
   obtain ⟨w,hw,hr⟩:=Option.bind_eq_some_iff.1 hr
   rw [hw]; simp only [Option.bind_some]
   cases w with
   | true =>
    simp only [if_true] at hr ⊢
    obtain ⟨x,hx,hr⟩:=Option.bind_eq_some_iff.1 hr
    obtain ⟨n,hn⟩:=zIe _ _ _ hx
    obtain ⟨m,hm⟩:=zFf ops l _ _ hr
    refine ⟨max n m,?_⟩
    rw [zEw (zCp P (Nat.le_max_left n m)) _ _ _ _ hn]
    exact zEn (zCp P (Nat.le_max_right n m)) ops l _ _ _ hm
   | false=>simp only [Bool.false_eq_true,if_false] at hr ⊢; exact zFf ops l _ _ hr
theorem zD4 (ops : Array Oper) : ∀ (k : Nat) (l : Array Bool) (t : List AV) (h : zAa) (o : List Open) {r},zBv P (envL P) ops k l t h o = some r → ∃ n,zBv P (envN P n) ops k l t h o = some r
 | 0,_,_,_,_,_,hr=>⟨0,hr⟩
 | k + 1,l,t,h,o,r,hr=>by
  simp only [zBv] at hr ⊢
  cases hrs : Region.ready .any ops l with
  | nil=>rw [hrs] at hr; exact ⟨0,hr⟩
  | cons r0 rest =>
   rw [hrs] at hr
   simp only at hr ⊢
   cases hq : (r0 :: rest).find? (zEq ops) with
   | some i =>
    rw [hq] at hr
    simp only at hr ⊢
    cases ho : ops[i]? with
    | none=>rw [ho] at hr; exact ⟨0,hr⟩
    | some x =>
     rw [ho] at hr
     simp only at hr ⊢
     obtain ⟨w,hw,hr⟩:=Option.bind_eq_some_iff.1 hr
     rw [hw]; simp only [Option.bind_some]
     cases w with
     | true =>
      simp only [if_true] at hr ⊢
      obtain ⟨y,hy,hr⟩:=Option.bind_eq_some_iff.1 hr
      rw [hy]; exact zD4 ops k _ _ _ _ hr
     | false=>simp only [Bool.false_eq_true,if_false] at hr ⊢; exact zD4 ops k _ _ _ _ hr
   | none =>
    rw [hq] at hr
    simp only at hr ⊢
    split at hr
    ·rename_i hre
     simp only [hre,if_true]
     cases ho : ops[r0]? with
     | none=>rw [ho] at hr; exact ⟨0,hr⟩
     | some x =>
      rw [ho] at hr
      simp only at hr ⊢
      obtain ⟨w,hw,hr⟩:=Option.bind_eq_some_iff.1 hr
      rw [hw]; simp only [Option.bind_some]
      cases w with
      | true =>
       simp only [if_true] at hr ⊢
       obtain ⟨y,hy,hr⟩:=Option.bind_eq_some_iff.1 hr
       obtain ⟨n,hn⟩:=zIe _ _ _ hy
       split at hr
       ·rename_i hc
        obtain ⟨m,hm⟩:=zD4 ops k _ _ _ _ hr
        refine ⟨max n m,?_⟩
        rw [zEw (zCp P (Nat.le_max_left n m)) _ _ _ _ hn]
        simp only [Option.bind_some,hc,if_true]
        exact zDh (zCp P (Nat.le_max_right n m)) ops k _ _ _ _ _ hm
       ·cases hr
      | false=>simp only [Bool.false_eq_true,if_false] at hr ⊢; exact zD4 ops k _ _ _ _ hr
    ·cases hr
theorem zKi {r : Res} {k : List AV → zAa → Res} {x} (h : seqR r k = some x) : (∃ t hp,r = some (.normal,t,hp) ∧ k t hp = some x) ∨ (r = some x ∧ x.1.isNormal = false):=by
 match r,h with
 | none,h=>simp [seqR] at h
 | some (.normal,t,hp),h=>exact .inl ⟨t,hp,rfl,h⟩
 | some (.exit j,t,hp),h=>simp only [seqR,Option.some.injEq] at h; subst h; exact .inr ⟨rfl,rfl⟩
 | some (.ret,t,hp),h=>simp only [seqR,Option.some.injEq] at h; subst h; exact .inr ⟨rfl,rfl⟩
theorem zKk {x} (k : List AV → zAa → Res) (h : x.1.isNormal = false) : seqR (some x) k = some x:=by
 match x,h with
 | (.normal,t,hp),h=>cases h
 | (.exit j,t,hp),_=>rfl
 | (.ret,t,hp),_=>rfl
theorem zMb {b : List AV → zAa → Res} {m : Nat → List AV → zAa → Res} (hm : ∀ n k,n ≤ k → ∀ t h,Le (m n t h) (m k t h)) (hb : ∀ t h r,b t h = some r → ∃ n,m n t h = some r) :
  ∀ (k : Nat) (t : List AV) (h : zAa) {r},zFk k b t h = some r → ∃ n,zFk k (m n) t h = some r
 | 0,_,_,_,hr=>by cases hr
 | k + 1,t,h,r,hr=>by
  simp only [zFk] at hr ⊢
  rcases zKi hr with ⟨t',h',h1,h2⟩ | ⟨h1,h2⟩
  ·obtain ⟨n,hn⟩:=hb _ _ _ h1
   obtain ⟨j,hj⟩:=zMb hm hb k t' h' h2
   refine ⟨max n j,?_⟩
   rw [hm n _ (Nat.le_max_left n j) t h _ hn]
   exact zDf k k (Nat.le_refl _) _ _ (hm j _ (Nat.le_max_right n j)) t' h' _ hj
  ·obtain ⟨n,hn⟩:=hb _ _ _ h1
   exact ⟨n,by rw [hn]; exact zKk _ h2⟩
theorem zBy : ∀ (c : Code) (t : List AV) (h : zAa) {r},zAi P (envL P) c t h = some r → ∃ n,zAi P (envN P n) c t h = some r
 | .skip,_,_,_,hr | .label _,_,_,_,hr | .exit _,_,_,_,hr | .ret,_,_,_,hr | .goto _,_,_,_,hr | .refuse _,_,_,_,hr=>⟨0,by simpa only [zAi] using hr⟩
 | .region id ops draw,t,h,r,hr=>by
  simp only [zAi,zNj] at hr ⊢
  obtain ⟨x,hx,hr⟩:=Option.map_eq_some_iff.1 hr
  split at hx
  ·split at hx
   ·obtain ⟨n,hn⟩:=zD4 ops _ _ _ _ _ hx
    exact ⟨n,by rename_i hd hk; simp only [hd,hk,if_true,hn,Option.map_some,hr]⟩
   ·cases hx
  ·obtain ⟨n,hn⟩:=zFf ops _ _ _ hx
   exact ⟨n,by rename_i hd; simp only [hd,if_false,hn,Option.map_some,hr,Bool.false_eq_true]⟩
 | .seq a b,t,h,r,hr=>by
  simp only [zAi] at hr ⊢
  rcases zKi hr with ⟨t',h',h1,h2⟩ | ⟨h1,h2⟩
  ·obtain ⟨n,hn⟩:=zBy a t h h1
   obtain ⟨m,hm⟩:=zBy b t' h' h2
   refine ⟨max n m,?_⟩
   rw [zBg (zCp P (Nat.le_max_left n m)) a t h _ hn]
   exact zBg (zCp P (Nat.le_max_right n m)) b t' h' _ hm
  ·obtain ⟨n,hn⟩:=zBy a t h h1
   exact ⟨n,by rw [hn]; exact zKk _ h2⟩
 | .cond c a b,t,h,r,hr=>by
  simp only [zAi] at hr ⊢
  unfold zNw at hr ⊢
  split at hr
  ·exact zBy a t h hr
  ·exact zBy b t h hr
  ·cases hr
 | .block id b,t,h,r,hr=>by
  simp only [zAi] at hr ⊢
  cases hb : zAi P (envL P) b t h with
  | none=>rw [hb] at hr; cases hr
  | some x =>
   obtain ⟨n,hn⟩:=zBy b t h hb
   exact ⟨n,by rw [hn]; rw [hb] at hr; exact hr⟩
 | .loop b,t,h,r,hr=>by
  simp only [zAi] at hr ⊢
  obtain ⟨k,hk⟩:=zEj hr
  obtain ⟨n,hn⟩:=zMb (m:=fun n=>zAi P (envN P n) b) (fun i j hij t h=>zBg (zCp P hij) b t h) (fun t h r hr=>zBy b t h hr) k t h hk
  refine ⟨max n k,?_⟩
  rw [zK7]
  exact zDf k _ (Nat.le_max_right n k) _ _ (fun t h=>zBg (zCp P (Nat.le_max_left n k)) b t h) t h _ hn
 | .scope b,t,h,r,hr=>by simp only [zAi] at hr ⊢; exact zBy b t h hr
 | .rangeFunc f ps assign body,t,h,r,hr=>by
  simp only [zAi] at hr ⊢
  obtain ⟨x,hx,hr⟩:=Option.bind_eq_some_iff.1 hr
  obtain ⟨n,hn⟩:=zUk _ _ _ hx
  exact ⟨n,by unfold zCr; rw [hn]; exact hr⟩
theorem zPi {fn : Func} {r : Res} {x} (h : zF3 P fn r = some x) : ∃ y,r = some y:=by
 cases r with
 | none=>cases h
 | some y=>exact ⟨y,rfl⟩
theorem zP3 (f : Nat) (a : List AV) (h : zAa) {r} (hr : zE9 P (envL P) f a h = some r) : ∃ n,zE9 P (envN P n) f a h = some r:=by
 unfold zE9 at hr ⊢
 split at hr
 ·split at hr
  ·rename_i _ fn hf _ c hc
   obtain ⟨y,hy⟩:=zPi hr
   obtain ⟨n,hn⟩:=zBy c _ _ hy
   rw [hy] at hr
   exact ⟨n,by simp only [hn]; exact hr⟩
  ·cases hr
 ·cases hr
theorem zN0 (f : Nat) (a : List AV) (h : zAa) {r} (hr : zCm P (envL P) f a h = some r) : ∃ n,zCm P (envN P n) f a h = some r:=by
 obtain ⟨y,hy,hr⟩:=Option.map_eq_some_iff.1 hr
 obtain ⟨n,hn⟩:=zP3 f a h hy
 exact ⟨n,by unfold zCm; rw [hn]; simp only [trim,Option.map_some,hr]⟩
theorem zNb (l : Nat) (c : Code) (x : Res) {r} (hr : zCc P (envL P) l c x = some r) : ∃ n,zCc P (envN P n) l c x = some r:=by
 unfold zCc at hr ⊢
 split at hr
 ·split at hr
  ·split at hr
   ·rename_i _ _ _ _ L hL hs
    obtain ⟨y,hy,hr⟩:=Option.bind_eq_some_iff.1 hr
    obtain ⟨n,hn⟩:=zBy c _ _ hy
    exact ⟨n,by simp only [hs,if_true]; unfold zEu; rw [hn]; exact hr⟩
   ·cases hr
  ·cases hr
 ·cases hr
theorem zNa {l : Nat} {E : Env} {c : Code} {x : Res} {r} (hr : zCc P E l c x = some r) : ∃ y,x = some y:=by
 cases x with
 | none=>cases hr
 | some y=>exact ⟨y,rfl⟩
theorem zMy (f : Nat) (a : List AV) (h : zAa) {r} (hr : zD0 P (envL P) f a h = some r) : ∃ n,zD0 P (envN P n) f a h = some r:=by
 unfold zD0 at hr ⊢
 split at hr
 ·split at hr
  ·rename_i _ L hL hs
   obtain ⟨y,hy⟩:=zNa hr
   obtain ⟨n,hn⟩:=zBy L.assign _ _ hy
   rw [hy] at hr
   obtain ⟨m,hm⟩:=zNb f _ _ hr
   refine ⟨max n m,?_⟩
   simp only [hs,if_true]
   rw [zBg (zCp P (Nat.le_max_left n m)) _ _ _ _ hn]
   exact zH3 (zCp P (Nat.le_max_right n m)) (Le.refl _) _ hm
  ·cases hr
 ·cases hr
theorem zLh (f : Nat) (a : List AV) (h : zAa) {r} (hr : zDk P (envL P) f a h = some r) : ∃ n,zDk P (envN P n) f a h = some r:=by
 obtain ⟨y,hy,hr⟩:=Option.map_eq_some_iff.1 hr
 obtain ⟨n,hn⟩:=zMy f a h hy
 exact ⟨n,by unfold zDk; rw [hn]; simp only [trim,Option.map_some,hr]⟩
end cont
theorem zK3 {α : Type} {a b : Option α} (h : Le a b) (k : Le b a) : a = b:=by
 cases a with
 | some x=>exact (h x rfl).symm
 | none =>
  cases b with
  | none=>rfl
  | some y=>exact k y rfl
theorem call_eq (P : Program) (f : Nat) (a : List AV) (h : zAa) : (envL P).call f a h = zCm P (envL P) f a h:=by
 refine zK3 (fun r hr=>?_) (fun r hr=>?_)
 ·obtain ⟨n,hn⟩:=zEj hr
  cases n with
  | zero=>cases hn
  | succ n=>exact zIq (zPo P n) f a h r hn
 ·obtain ⟨n,hn⟩:=zN0 f a h hr
  exact zJm (m:=fun n=>(envN P n).call f a h) (n:=n + 1) (fun _ _ hnk=>(zCp P hnk).call f a h) hn
theorem zRi (P : Program) (f : Nat) (a : List AV) (h : zAa) : (envL P).yield f a h = zDk P (envL P) f a h:=by
 refine zK3 (fun r hr=>?_) (fun r hr=>?_)
 ·obtain ⟨n,hn⟩:=zEj hr
  cases n with
  | zero=>cases hn
  | succ n=>exact zG8 (zPo P n) f a h r hn
 ·obtain ⟨n,hn⟩:=zLh f a h hr
  exact zJm (m:=fun n=>(envN P n).yield f a h) (n:=n + 1) (fun _ _ hnk=>(zCp P hnk).yield f a h) hn
theorem loopL_eq (b : List AV → zAa → Res) (t : List AV) (h : zAa) : loopL b t h = seqR (b t h) (loopL b):=by
 have mono : ∀ t h,∀ n k,n ≤ k → Le (zFk n b t h) (zFk k b t h):=fun t h i k hik=>zDf i k hik b b (fun _ _=>Le.refl _) t h
 refine zK3 (fun r hr=>?_) (fun r hr=>?_)
 ·obtain ⟨n,hn⟩:=zEj hr
  cases n with
  | zero=>cases hn
  | succ n=>exact zKj (Le.refl _) (fun t' h' r' hr'=>zJm (mono t' h') hr') r hn
 ·rcases zKi hr with ⟨t',h',h1,h2⟩ | ⟨h1,h2⟩
  ·obtain ⟨n,hn⟩:=zEj h2
   exact zJm (m:=fun n=>zFk n b t h) (n:=n + 1) (mono t h) (by simp only [zFk]; rw [h1]; exact hn)
  ·exact zJm (m:=fun n=>zFk n b t h) (n:=1) (mono t h) (by simp only [zFk]; rw [h1]; exact zKk _ h2)
end Go.Proofs.YtbmmnfeeapnhkaaGreat.Eng
end
section
namespace Go.Proofs.YtbmmnfeeapnhkaaGreat.Eng
open Go
def zLt (φ : Ren) (h : zAa) (w : World) (r : Result Next) (v : AV) (h' : zAa) : Prop :=
 ∃ cv w' φ',(r = .ok (.value cv) w' ∨ (r = .ok .skip w' ∧ cv = undef)) ∧ VRel φ' v cv ∧ St φ' h' w' ∧ Ext φ h w φ' h' w'
theorem zLt.pure {φ : Ren} {h : zAa} {w : World} (s : St φ h w) {v : AV} {cv : Value} (hr : VRel φ v cv) : zLt φ h w (.ok (.value cv) w) v h :=
 ⟨cv,w,φ,.inl rfl,hr,s,Ext.refl _ _ _⟩
theorem zL6 (φ : Ren) (v : Value) : VRel φ (zKv v) v:=by
 unfold zKv
 split <;> first | exact .int _ _ | exact .bool _ | exact .str _ | exact .nilPtr | exact .nilSl | exact .nilFn | exact .any _ | skip
 rename_i vs
 split
 ·rename_i hs
  obtain rfl : vs = #[]:=Array.eq_empty_of_size_eq_zero hs
  exact .undef
 ·exact .any _
theorem zHn (φ : Ren) : ∀ l : List Value,VRels φ (l.map zKv) l
 | []=>.nil
 | v :: l=>.cons (zL6 φ v) (zHn φ l)
theorem zQl (φ : Ren) (v : Value) : VRel φ (ofValue v) v:=by
 unfold ofValue
 split
 ·rename_i cs
  have:=VRel.agg (zHn φ cs.toList)
  simpa using this
 ·exact zL6 φ _
theorem getT_rel {φ : Ren} {t : List AV} {a : Array Value} (ht : VRels φ t a.toList) (i : Nat) : VRel φ (getT t i) (a.getD i undef):=by
 unfold getT
 cases h : t[i]? with
 | some v =>
  obtain ⟨c,hc,hr⟩:=ht.get h
  rw [Array.getElem?_toList] at hc
  simpa [Array.getD_eq_getD_getElem?,hc] using hr
 | none =>
  have hl:=ht.length_eq
  have : a[i]? = none:=by
   rw [List.getElem?_eq_none_iff] at h
   rw [Array.getElem?_eq_none_iff]
   simp at hl; omega
  rw [Array.getD_eq_getD_getElem?,this]
  exact VRel.undef
theorem zA1 {φ : Ren} {t : List AV} {a : Act} (ht : VRels φ t a.tmps.toList) : ∀ x : Operand,VRel φ (zBk t x) (a.eval x)
 | .tmp i=>getT_rel ht i
 | .const v=>zQl φ v
 | .global _=>.any _
 | .func f=>VRel.fn (φ:=φ) (f:=f) VRels.nil
theorem zG2 {φ : Ren} {t : List AV} {a : Act} (ht : VRels φ t a.tmps.toList) : ∀ l : List Operand,VRels φ (l.map (zBk t)) (l.map a.eval)
 | []=>.nil
 | x :: l=>.cons (zA1 ht x) (zG2 ht l)
structure TyOk (P : Program) (t : TypeId) (d : TyD) (i : TypeInfo) (z : Value) (u : TypeDesc) : Prop where
 info : P.info? t = some i
 zero : i.zero = some z
 und : P.underlying t = some u
 size : d.size = i.size
 agg : d.agg = zD7 u
 bytes : d.bytes = i.bytes
 zcells : d.zero = z.cells.toList.map zKv
 zsize : z.cells.size = i.size
theorem zD6 {P : Program} {t : TypeId} {d : TyD} (h : tyD P t = some d) : ∃ i z u,TyOk P t d i z u:=by
 unfold tyD at h
 split at h
 ·rename_i i hi
  split at h
  ·rename_i z u hz hu
   split at h
   ·rename_i hs
    injection h with h
    subst h
    exact ⟨i,z,u,hi,hz,hu,rfl,rfl,rfl,rfl,hs⟩
   ·cases h
  ·cases h
 ·cases h
namespace TyOk
variable {P : Program} {t : TypeId} {d : TyD} {i : TypeInfo} {z : Value} {u : TypeDesc} (k : TyOk P t d i z u)
include k
theorem run_size (w : World) : (sizeOf t).run P w = .ok d.size w:=by simp [sizeOf,typeInfo,k.info,k.size]
theorem run_info (w : World) : (typeInfo t).run P w = .ok i w:=by simp [typeInfo,k.info]
theorem run_und (w : World) : (Go.underlying t).run P w = .ok u w:=run_underlying k.und w
theorem run_isAgg (w : World) : (isAgg t).run P w = .ok d.agg w:=by
 simp only [isAgg,Sem.run_bind,k.run_und,Result.andThen_ok,k.agg]
 cases u <;> rfl
theorem run_zero (w : World) : (zeroValue t).run P w = .ok z w:=by simp [zeroValue,typeInfo,k.info,k.zero]
theorem zrel (φ : Ren) : VRels φ d.zero z.cells.toList:=by rw [k.zcells]; exact zHn φ _
theorem zlen : d.zero.length = d.size:=by rw [k.zcells,k.size,← k.zsize]; simp
end TyOk
theorem zG5 {φ : Ren} {x : AV} {v : Value} (hr : VRel φ x v) {cs : List AV} (h : zA7 x = some cs) : VRels φ cs v.cells.toList:=by
 cases hr with
 | agg hc=>simp only [zA7,Option.some.injEq] at h; subst h; simpa [Value.cells] using hc
 | any=>cases h
 | int=>simp only [zA7,Option.some.injEq] at h; subst h; exact .cons (.int _ _) .nil
 | bool=>simp only [zA7,Option.some.injEq] at h; subst h; exact .cons (.bool _) .nil
 | str=>simp only [zA7,Option.some.injEq] at h; subst h; exact .cons (.str _) .nil
 | nilPtr=>simp only [zA7,Option.some.injEq] at h; subst h; exact .cons .nilPtr .nil
 | ptr hb=>simp only [zA7,Option.some.injEq] at h; subst h; exact .cons (.ptr hb) .nil
 | nilSl=>simp only [zA7,Option.some.injEq] at h; subst h; exact .cons .nilSl .nil
 | sl hb ha h1 h2 h3 h4=>simp only [zA7,Option.some.injEq] at h; subst h; exact .cons (.sl hb ha h1 h2 h3 h4) .nil
 | tup hc=>simp only [zA7,Option.some.injEq] at h; subst h; exact .cons (.tup hc) .nil
 | fn hc=>simp only [zA7,Option.some.injEq] at h; subst h; exact .cons (.fn hc) .nil
 | yld hb=>simp only [zA7,Option.some.injEq] at h; subst h; exact .cons (.yld hb) .nil
 | nilFn=>simp only [zA7,Option.some.injEq] at h; subst h; exact .cons .nilFn .nil
 | undef=>simp only [zA7,Option.some.injEq] at h; subst h; exact .cons .undef .nil
theorem zTp {φ : Ren} {x : AV} {v : Value} (hr : VRel φ x v) (h : x.isCell = true) : v.oneCell' = true:=by
 cases hr <;> simp_all [AV.isCell,Value.oneCell']
theorem zHm {φ : Ren} : ∀ {xs : List AV} {vs : List Value},VRels φ xs vs → xs.all AV.isCell = true → ∀ v ∈ vs,v.oneCell' = true
 | _,_,.nil,_=>fun v hv=>by cases hv
 | _,_,.cons h t,ha=>fun v hv=>by
  simp only [List.all_cons,Bool.and_eq_true] at ha
  rcases List.mem_cons.1 hv with rfl | hv
  ·exact zTp h ha.1
  ·exact zHm t ha.2 v hv
theorem zFi (b o j : Nat) : (⟨b,o,none⟩ : Addr).add j = ⟨b,o + j,none⟩:=by
 unfold Addr.add; split <;> simp_all
theorem zJf {φ : Ren} {h : zAa} {w : World} (s : St φ h w) {b : Nat} {e : Ent} (hb : φ b = some e) {cs : List AV} (hc : cellsOf h b = some cs) :
  ∃ C t fz,w.heap[e.blk]? = some (.cells C t fz) ∧ zDq φ cs e C:=by
 obtain ⟨k,o,hk,ho,hr⟩:=s.dom b e hb
 unfold cellsOf at hc
 rw [hk] at hc
 cases k with
 | rw c=>simp only [Option.some.injEq] at hc; subst hc; obtain ⟨C,t,fz,rfl,_,hcr⟩:=hr; exact ⟨C,t,fz,ho,hcr⟩
 | ro c=>simp only [Option.some.injEq] at hc; subst hc; obtain ⟨C,t,fz,rfl,hcr⟩:=hr; exact ⟨C,t,fz,ho,hcr⟩
 | dead=>cases hc
 | loop l=>cases hc
theorem zRv {P : Program} {φ : Ren} {h : zAa} {w : World} (s : St φ h w) {b off n : Nat} {e : Ent} (hb : φ b = some e) {cs : List AV} (hr : zC6 h b off n = some cs) :
  ∃ vs : List Value,(∀ w1 : World,w1.heap = w.heap → (loadCells ⟨e.blk,e.base + off,none⟩ n).run P w1 = .ok vs.toArray w1) ∧ VRels φ cs vs ∧ cs.length = n:=by
 unfold zC6 at hr
 obtain ⟨c,hc,hr⟩:=Option.bind_eq_some_iff.1 hr
 split at hr
 ·rename_i hle
  injection hr with hr
  subst hr
  obtain ⟨C,t,fz,hw,hcr⟩:=zJf s hb hc
  have hrel:=hcr.read off n hle
  have hlen : ((c.drop off).take n).length = n:=by simp only [List.length_take,List.length_drop]; omega
  have hlen2 : ((C.toList.drop (e.base + off)).take n).length = n:=by rw [← hrel.length_eq,hlen]
  refine ⟨_,?_,hrel,hlen⟩
  intro w1 hw1
  have:=run_loadCells_list (P:=P) w1 ⟨e.blk,e.base + off,none⟩ ((C.toList.drop (e.base + off)).take n) (fun j v hj=>by
   rw [zFi]
   simp only [World.cell?,hw1,hw,Option.isSome_none,Bool.false_eq_true,if_false]
   rw [List.getElem?_take] at hj
   split at hj
   ·rw [List.getElem?_drop] at hj; simpa using hj
   ·cases hj)
  rw [hlen2] at this
  exact this
 ·cases hr
theorem zVv {P : Program} {φ : Ren} {h : zAa} {w : World} (s : St φ h w) {b off : Nat} {e : Ent} (hb : φ b = some e) {v : AV} (hr : zLn h b off = some v) :
  ∃ cv,(load ⟨e.blk,e.base + off,none⟩).run P w = .ok cv w ∧ VRel φ v cv:=by
 unfold zLn at hr
 obtain ⟨c,hc,hr⟩:=Option.bind_eq_some_iff.1 hr
 obtain ⟨C,t,fz,hw,hcr⟩:=zJf s hb hc
 obtain ⟨cv,hcv,hrel⟩:=hcr.2.2 _ _ hr
 have hcell : w.cell? ⟨e.blk,e.base + off,none⟩ = some cv:=by simp [World.cell?,hw,hcv]
 exact ⟨cv,by simp [load,Sem.run,hcell],hrel⟩
theorem zKl {P : Program} {φ : Ren} {h : zAa} {w : World} (s : St φ h w) {t : TypeId} {d : TyD} (hd : tyD P t = some d) {x v : AV} {cx : Value} (hx : VRel φ x cx) (hv : zGq d.size d.agg x h = some v) :
  ∃ a cv,cx = .pointer (some a) ∧ (loadVar t a).run P w = .ok cv w ∧ VRel φ v cv:=by
 obtain ⟨i,z,u,k⟩:=zD6 hd
 unfold zGq at hv
 split at hv
 ·rename_i b off
  cases hx with
  | ptr hb =>
   rename_i e
   refine ⟨⟨e.blk,e.base + off,none⟩,?_⟩
   cases hag : d.agg with
   | true =>
    rw [hag] at hv
    simp only [if_true] at hv
    obtain ⟨cs,hcs,rfl⟩:=Option.map_eq_some_iff.1 hv
    obtain ⟨vs,hrun,hrel,_⟩:=zRv (P:=P) s hb hcs
    exact ⟨.agg vs.toArray,rfl,by simp [loadVar,k.run_isAgg,k.run_size,hag,hrun w rfl],.agg hrel⟩
   | false =>
    rw [hag] at hv
    simp only [Bool.false_eq_true,if_false] at hv
    obtain ⟨cv,hrun,hrel⟩:=zVv (P:=P) s hb hv
    exact ⟨cv,rfl,by simp only [loadVar,Sem.run_bind,k.run_isAgg,Result.andThen_ok,hag,Bool.false_eq_true,if_false]; exact hrun,hrel⟩
 ·cases hv
theorem zJh (w : World) (g : Nat) (C C' : Array Value) (t : TypeId) (fz : Nat × Nat) (hg : w.heap[g]? = some (.cells C t fz)) :
  w.setRow g C' = { w with heap:=w.heap.setIfInBounds g (.cells C' t fz) }:=by
 unfold World.setRow
 congr 1
 apply Array.ext_getElem?
 intro j
 rw [Array.getElem?_modify,Array.getElem?_setIfInBounds]
 by_cases hj : g = j
 ·subst hj
  have hlt : g < w.heap.size:=(Array.getElem?_eq_some_iff.1 hg).1
  rw [if_pos rfl,if_pos rfl,if_pos hlt,hg]
  rfl
 ·simp [hj]
theorem Lo.frozen {fz : Nat × Nat} {n : Nat} (h : Lo fz n) {w : World} {a : Addr} {C : Array Value} {t : TypeId} (hg : w.heap[a.block]? = some (.cells C t fz)) (ha : a.off < n) : w.frozen? a = false:=by
 obtain ⟨lo,hi⟩:=fz
 simp only [World.frozen?,hg,Bool.and_eq_false_iff,decide_eq_false_iff_not]
 rcases h with h | h <;> simp only at h <;> omega
theorem zEc (P : Program) (g o : Nat) (t : TypeId) (fz : Nat × Nat) {n : Nat} (hlo : Lo fz n) : ∀ (vs : List Value) (i : Nat) (cur : Array Value) (w : World),w.heap[g]? = some (.cells cur t fz) → cur.size = n → o + i + vs.length ≤ cur.size → (∀ v ∈ vs,v.oneCell' = true) →
  (storeCells ⟨g,o,none⟩ vs i).run P w = .ok () (w.setRow g (cur.toList.take (o + i) ++ vs ++ cur.toList.drop (o + i + vs.length)).toArray)
 | [],i,cur,w,hg,_,_,_=>by
  simp only [storeCells,List.append_nil,List.length_nil,Nat.add_zero,List.take_append_drop,Array.toArray_toList]
  rw [setRow_self w g cur t fz hg]
  rfl
 | v :: rest,i,cur,w,hg,hn,hl,h1=>by
  have hi : o + i < cur.size:=by simp at hl; omega
  have hadd : (⟨g,o,none⟩ : Addr).add i = ⟨g,o + i,none⟩:=by unfold Addr.add; split <;> simp_all
  have hcell : w.cell? ⟨g,o + i,none⟩ = some cur[o + i]:=by simp [World.cell?,hg,hi]
  have hfro : w.frozen? ⟨g,o + i,none⟩ = false:=hlo.frozen hg (by rw [← hn]; exact hi)
  have hst : (store ((⟨g,o,none⟩ : Addr).add i) v).run P w = .ok () (w.setRow g (cur.setIfInBounds (o + i) v)):=by
   rw [hadd,run_store P w _ v _ (h1 v (by simp)),hcell]
   simp [hfro,setCell_eq_setRow w g (o + i) cur t fz v hg]
  have ih:=zEc P g o t fz hlo rest (i + 1) (cur.setIfInBounds (o + i) v) (w.setRow g (cur.setIfInBounds (o + i) v)) (setRow_heap w g cur _ t _ hg) (by simpa using hn) (by simp at hl ⊢; omega) (fun x hx=>h1 x (by simp [hx]))
  simp only [storeCells,Sem.run_bind,hst,Result.andThen_ok,ih,setRow_setRow]
  congr 3
  have e:=list_seg_step cur.toList (o + i) v rest (by simp at hl ⊢; omega)
  simpa [Array.toList_setIfInBounds,Nat.add_assoc] using e
theorem zH0 {P : Program} {φ : Ren} {h h' : zAa} {w : World} (s : St φ h w) {b off : Nat} {e : Ent} (hb : φ b = some e) {xs : List AV} {vs : List Value} (hx : VRels φ xs vs) (hw : zAz h b off xs = some h') :
  ∃ w',(storeCells ⟨e.blk,e.base + off,none⟩ vs).run P w = .ok () w' ∧ St φ h' w' ∧ Ext φ h w φ h' w':=by
 unfold zAz at hw
 split at hw
 ·rename_i cs hk
  split at hw
  ·rename_i hc
   injection hw with hw
   subst hw
   obtain ⟨k,o,hk',ho,hr⟩:=s.dom b e hb
   obtain rfl : ABlk.rw cs = k:=Option.some.inj (hk.symm.trans hk')
   obtain ⟨C,t,fz,rfl,hlo,hcr⟩:=hr
   have hlen:=hx.length_eq
   have hfit : e.base + off + vs.length ≤ C.size:=by rw [hcr.1]; have:=hcr.2.1; omega
   have hst:=zEc P e.blk (e.base + off) t fz hlo vs 0 C w ho rfl (by simpa using hfit) (zHm hx hc.2)
   rw [Nat.add_zero] at hst
   have hset:=zJh w e.blk C (C.toList.take (e.base + off) ++ vs ++ C.toList.drop (e.base + off + vs.length)).toArray t fz ho
   rw [hset] at hst
   refine ⟨_,hst,?_⟩
   refine St.turn s hb hk rfl (k':=.rw (zBp cs off xs)) ?_ rfl (fun L hL=>by cases hL)
   refine ⟨_,t,fz,rfl,?_,?_,?_,?_⟩
   ·rw [show (C.toList.take (e.base + off) ++ vs ++ C.toList.drop (e.base + off + vs.length)).toArray.size = C.size by simp only [List.size_toArray,List.length_append,List.length_take,List.length_drop,Array.length_toList]; omega]; exact hlo
   ·have:=hcr.1; simp only [List.size_toArray,List.length_append,List.length_take,List.length_drop,Array.length_toList]; omega
   ·have hsl : (zBp cs off xs).length = cs.length:=by
     unfold zBp; split
     ·simp
     ·simp only [List.length_append,List.length_take,List.length_drop]; omega
    rw [hsl]; exact hcr.2.1
   ·have hsp : ∀ j : Nat,(zBp cs off xs)[j]? = if j < off then cs[j]? else if j < off + xs.length then xs[j - off]? else cs[j]?:=by
     intro j
     unfold zBp
     split
     ·rename_i v
      simp only [List.length_singleton] at hc ⊢
      rw [List.getElem?_set]
      by_cases h1 : off = j
      ·subst h1; simp; omega
      ·rw [if_neg h1]
       by_cases h2 : j < off
       ·simp [h2]
       ·rw [if_neg h2,if_neg (by omega)]
     ·rw [List.append_assoc,List.getElem?_append]
      simp only [List.length_take]
      have hmin : min off cs.length = off:=by omega
      rw [hmin]
      by_cases h2 : j < off
      ·rw [if_pos h2,if_pos h2,List.getElem?_take,if_pos h2]
      ·rw [if_neg h2,if_neg h2,List.getElem?_append]
       by_cases h3 : j < off + xs.length
       ·rw [if_pos (by omega),if_pos h3]
       ·rw [if_neg (by omega),if_neg h3,List.getElem?_drop]; congr 1; omega
    intro j a hj
    rw [hsp] at hj
    have hCl : C.toList.length = e.size:=by simpa using hcr.1
    have hb2:=hcr.2.1
    by_cases h2 : j < off
    ·rw [if_pos h2] at hj
     obtain ⟨v,hv,hrel⟩:=hcr.2.2 _ _ hj
     refine ⟨v,?_,hrel⟩
     rw [List.getElem?_toArray,List.append_assoc,List.getElem?_append_left (by simp only [List.length_take]; omega),List.getElem?_take,if_pos (by omega)]
     simpa using hv
    ·rw [if_neg h2] at hj
     by_cases h3 : j < off + xs.length
     ·rw [if_pos h3] at hj
      obtain ⟨v,hv,hrel⟩:=hx.get hj
      refine ⟨v,?_,hrel⟩
      rw [List.getElem?_toArray,List.append_assoc,List.getElem?_append_right (by simp only [List.length_take]; omega)]
      rw [List.getElem?_append_left (by simp only [List.length_take]; omega)]
      simp only [List.length_take]
      rw [← hv]; congr 1; omega
     ·rw [if_neg h3] at hj
      obtain ⟨v,hv,hrel⟩:=hcr.2.2 _ _ hj
      refine ⟨v,?_,hrel⟩
      rw [List.getElem?_toArray,List.append_assoc,List.getElem?_append_right (by simp only [List.length_take]; omega)]
      rw [List.getElem?_append_right (by simp only [List.length_take]; omega)]
      simp only [List.length_take]
      rw [List.getElem?_drop]
      rw [← hv]
      simp only [Array.getElem?_toList]
      congr 1; omega
  ·cases hw
 ·cases hw
theorem zOn {P : Program} {φ : Ren} {h h' : zAa} {w : World} (s : St φ h w) {t : TypeId} {d : TyD} (hd : tyD P t = some d) {x y : AV} {cx cy : Value} (hx : VRel φ x cx) (hy : VRel φ y cy) (hv : zL1 d.size x y h = some h') :
  ∃ a w',cx = .pointer (some a) ∧ (storeVar t a cy).run P w = .ok () w' ∧ St φ h' w' ∧ Ext φ h w φ h' w':=by
 obtain ⟨i,z,u,k⟩:=zD6 hd
 unfold zL1 at hv
 split at hv
 ·rename_i b off
  cases hx with
  | ptr hb =>
   rename_i e
   obtain ⟨cs,hcs,hv⟩:=Option.bind_eq_some_iff.1 hv
   split at hv
   ·rename_i hl
    have hrel:=zG5 hy hcs
    obtain ⟨w',hrun,hs,hx⟩:=zH0 (P:=P) s hb hrel hv
    refine ⟨_,w',rfl,?_,hs,hx⟩
    have hsz : cy.cells.size = d.size:=by rw [← hl,hrel.length_eq]; simp
    simp [storeVar,k.run_size,hsz,hrun]
   ·cases hv
 ·cases hv
theorem zLg {φ : Ren} {h : zAa} {w : World} (s : St φ h w) {cs : List AV} {C : Array Value} (hr : VRels φ cs (C.toList.take cs.length)) (t : TypeId) :
  St (φ.put h.length ⟨w.heap.size,0,C.size⟩) (h ++ [.rw cs]) (w.alloc (.cells C t)) ∧ Ext φ h w (φ.put h.length ⟨w.heap.size,0,C.size⟩) (h ++ [.rw cs]) (w.alloc (.cells C t)):=by
 refine St.alloc s fun ψ hψ=>⟨C,t,_,rfl,Lo.zero _,rfl,?_,?_⟩
 ·have:=hr.length_eq; simp only [List.length_take,Array.length_toList] at this; simp; omega
 ·intro i a ha
  obtain ⟨v,hv,hrel⟩:=hr.get ha
  rw [List.getElem?_take] at hv
  split at hv
  ·exact ⟨v,by simpa using hv,hrel.mono hψ⟩
  ·cases hv
theorem zFv {φ : Ren} {cs : List AV} {C : Array Value} (h : VRels φ cs C.toList) : VRels φ cs (C.toList.take cs.length):=by
 rw [h.length_eq,List.take_length]; exact h
theorem zDy {P : Program} (t : TypeId) (C : Array Value) (w : World) : (newRow t C).run P w = .ok ⟨w.heap.size,0,none⟩ (w.alloc (.cells C t)):=rfl
theorem zP9 {P : Program} {φ : Ren} {h : zAa} {w : World} (s : St φ h w) (t : TypeId) {cs : List AV} {v : Value} (hr : VRels φ cs v.cells.toList) :
  ∃ φ',(newVar t v).run P w = .ok ⟨w.heap.size,0,none⟩ (w.alloc (.cells v.cells t)) ∧ VRel φ' (zFh cs h).1 (.pointer (some ⟨w.heap.size,0,none⟩)) ∧
   St φ' (zFh cs h).2 (w.alloc (.cells v.cells t)) ∧ Ext φ h w φ' (zFh cs h).2 (w.alloc (.cells v.cells t)):=by
 have:=zLg s (zFv hr) t
 refine ⟨_,rfl,?_,this.1,this.2⟩
 exact VRel.ptr (e:=⟨w.heap.size,0,v.cells.size⟩) (Ren.put_same _ _ _)
theorem zXh {P : Program} {w : World} (op : BinOp) (t : TypeId) (k k' : IntKind) (a b : Int) {v : AV} (h : zFe op k a k' b = some v) (φ : Ren) :
  ∃ cv,(binOp op t (.int k a) (.int k' b)).run P w = .ok cv w ∧ VRel φ v cv:=by
 cases op <;> simp only [zFe] at h <;> (split at h <;> first | (cases h; done) | skip) <;> (injection h with h; subst h) <;>
  first
  | (rename_i hk; subst hk; refine ⟨_,?_,by first | exact .int _ _ | exact .bool _⟩; simp only [binOp,ne_eq,not_true_eq_false,if_false]; rfl)
  | (rename_i hk; obtain ⟨rfl,hb⟩:=hk; refine ⟨_,?_,by exact .int _ _⟩; simp only [binOp,ne_eq,not_true_eq_false,if_false,Op.intDiv,hb]; rfl)
  | (rename_i hk; refine ⟨_,?_,by exact .int _ _⟩; simp only [binOp,Op.shift,hk,if_false]; rfl)
end Go.Proofs.YtbmmnfeeapnhkaaGreat.Eng
end
section
namespace Go.Proofs.YtbmmnfeeapnhkaaGreat.Eng
open Go
inductive IntPairs : List Value → List Value → Bool → Prop
 | nil : IntPairs [] [] true
 | cons (k : IntKind) (a b : Int) {vs us : List Value} {r : Bool} (t : IntPairs vs us r) : IntPairs (.int k a :: vs) (.int k b :: us) (a == b && r)
theorem IntPairs.len : ∀ {vs us : List Value} {r : Bool},IntPairs vs us r → vs.length = us.length
 | _,_,_,.nil=>rfl
 | _,_,_,.cons _ _ _ t=>by simp [t.len]
theorem IntPairs.split : ∀ (n : Nat) {vs us : List Value} {r : Bool},IntPairs vs us r → ∃ r1 r2,IntPairs (vs.take n) (us.take n) r1 ∧ IntPairs (vs.drop n) (us.drop n) r2 ∧ r = (r1 && r2)
 | 0,vs,us,r,h=>⟨true,r,by simpa using .nil,by simpa using h,by simp⟩
 | n + 1,_,_,_,.nil=>⟨true,true,by simpa using .nil,by simpa using .nil,rfl⟩
 | n + 1,_,_,_,.cons k a b t=>by
  obtain ⟨r1,r2,h1,h2,rfl⟩:=IntPairs.split n t
  exact ⟨(a == b && r1),r2,by simpa using .cons k a b h1,by simpa using h2,by simp [Bool.and_assoc]⟩
theorem IntPairs.of {φ : Ren} : ∀ {xs ys : List AV} {vs us : List Value} {r : Bool},VRels φ xs vs → VRels φ ys us → zEr xs ys = some r → IntPairs vs us r
 | [],[],_,_,r,.nil,.nil,h=>by simp only [zEr,Option.some.injEq] at h; subst h; exact .nil
 | [],_ :: _,_,_,_,_,_,h=>by simp [zEr] at h
 | _ :: _,[],_,_,_,_,_,h=>by simp [zEr] at h
 | x :: xs,y :: ys,_,_,r,.cons hx tx,.cons hy ty,h=>by
  simp only [zEr] at h
  obtain ⟨b,hb,h⟩:=Option.bind_eq_some_iff.1 h
  obtain ⟨b2,hb2,rfl⟩:=Option.map_eq_some_iff.1 h
  unfold zMj at hb
  split at hb
  ·split at hb
   ·rename_i hk
    subst hk
    injection hb with hb
    subst hb
    cases hx; cases hy
    exact .cons _ _ _ (IntPairs.of tx ty hb2)
   ·cases hb
  ·cases hb
def zIs (agg : Bool) (vs : List Value) : Value:=if agg then .agg vs.toArray else vs.headD undef
theorem zJ0 {P : Program} {t : TypeId} {i : TypeInfo} {u : TypeDesc} (hi : P.info? t = some i) (hu : P.underlying t = some u) (w : World) (C : List Value) (off : Nat) (hs : zD7 u = false → i.size = 1) (hfit : off + i.size ≤ C.length) :
  (part t C.toArray off).run P w = .ok (zIs (zD7 u) ((C.drop off).take i.size)) w:=by
 have hag : (isAgg t).run P w = .ok (zD7 u) w:=by
  simp only [isAgg,Sem.run_bind,run_underlying hu,Result.andThen_ok]; cases u <;> rfl
 simp only [part,Sem.run_bind,hag,Result.andThen_ok]
 cases hd : zD7 u with
 | true =>
  simp only [if_true,sizeOf,typeInfo,Sem.run_bind,run_program,Result.andThen_ok,hi,Sem.run_pure,zIs]
  congr 2
  apply Array.ext'
  simp [List.extract_eq_take_drop]
 | false =>
  have h1:=hs hd
  have hlt : off < C.length:=by omega
  simp only [Bool.false_eq_true,if_false,List.getElem?_toArray,List.getElem?_eq_getElem hlt,Sem.run_pure,zIs]
  congr 1
  rw [h1]
  rw [List.drop_eq_getElem_cons hlt]
  rfl
theorem zF5 {P : Program} : ∀ (n : Nat) {t : TypeId},zGv P n t = true → ∃ i u,P.info? t = some i ∧ P.underlying t = some u ∧ (zD7 u = false → i.size = 1)
 | 0,_,h=>by cases h
 | n + 1,t,h=>by
  have hinfo : ∀ u,P.underlying t = some u → ∃ i,P.info? t = some i:=fun u hu=>by
   unfold Program.underlying at hu
   split at hu
   ·exact ⟨_,by assumption⟩
   ·exact ⟨_,by assumption⟩
   ·cases hu
  unfold zGv at h
  split at h
  ·rename_i k hu
   obtain ⟨i,hi⟩:=hinfo _ hu
   rw [hi] at h
   exact ⟨i,_,hi,hu,fun _=>by simpa using h⟩
  ·rename_i len e hu
   obtain ⟨i,hi⟩:=hinfo _ hu
   exact ⟨i,_,hi,hu,fun h=>by cases h⟩
  ·rename_i fs hu
   obtain ⟨i,hi⟩:=hinfo _ hu
   exact ⟨i,_,hi,hu,fun h=>by cases h⟩
  ·cases h
theorem zIf {P : Program} {w : World} {d n : Nat} {e : TypeId} {i : TypeInfo} {u : TypeDesc} (hi : P.info? e = some i) (hu : P.underlying e = some u) (hs : zD7 u = false → i.size = 1) (hn : n = i.size)
  (ih : ∀ (vs us : List Value) (r : Bool),vs.length = i.size → IntPairs vs us r → (Op.equalIn d e (zIs (zD7 u) vs) (zIs (zD7 u) us)).run P w = .ok r w) :
  ∀ (m s : Nat) (C1 C2 : List Value) (r : Bool),(s + m) * n ≤ C1.length → C1.length = C2.length → IntPairs ((C1.drop (s * n)).take (m * n)) ((C2.drop (s * n)).take (m * n)) r →
  (forIn (List.range' s m) ((none,()) : Option Bool × Unit) (fun k _=>do
   let a ← part e C1.toArray (k * n)
   let b ← part e C2.toArray (k * n)
   let x ← Op.equalIn d e a b
   if (!x) = true then pure (ForInStep.done (some false,())) else pure (ForInStep.yield (none,()))) : Sem (Option Bool × Unit)).run P w = .ok (if r then none else some false,()) w
 | 0,s,C1,C2,r,_,_,h=>by
  simp only [Nat.zero_mul,List.take_zero] at h
  cases h
  simp
 | m + 1,s,C1,C2,r,hl,hl2,h=>by
  subst hn
  have e1 : (s + (m + 1)) * i.size = s * i.size + i.size + m * i.size:=by rw [Nat.add_mul,Nat.add_mul,Nat.one_mul]; omega
  have e2 : (m + 1) * i.size = i.size + m * i.size:=by rw [Nat.add_mul,Nat.one_mul]; omega
  have e3 : (s + 1) * i.size = s * i.size + i.size:=by rw [Nat.add_mul,Nat.one_mul]
  have e4 : (s + 1 + m) * i.size = s * i.size + i.size + m * i.size:=by rw [Nat.add_mul,e3]
  obtain ⟨r1,r2,h1,h2,rfl⟩:=h.split i.size
  have p1:=zJ0 (P:=P) hi hu w C1 (s * i.size) hs (by omega)
  have p2:=zJ0 (P:=P) hi hu w C2 (s * i.size) hs (by omega)
  have hh1 : IntPairs ((C1.drop (s * i.size)).take i.size) ((C2.drop (s * i.size)).take i.size) r1:=by
   rw [List.take_take,List.take_take,Nat.min_eq_left (by omega)] at h1; exact h1
  have hq:=ih _ _ r1 (by simp only [List.length_take,List.length_drop]; omega) hh1
  have hh2 : IntPairs ((C1.drop ((s + 1) * i.size)).take (m * i.size)) ((C2.drop ((s + 1) * i.size)).take (m * i.size)) r2:=by
   rw [List.drop_take,List.drop_take,List.drop_drop,List.drop_drop,e2,Nat.add_sub_cancel_left] at h2
   rw [e3]; exact h2
  simp only [List.range'_succ,List.forIn_cons,Sem.run_bind,p1,p2,hq,Result.andThen_ok]
  cases r1 with
  | true =>
   simp only [Bool.not_true,Bool.false_eq_true,if_false,Sem.run_pure,Result.andThen_ok,Bool.true_and]
   exact zIf hi hu hs rfl ih m (s + 1) C1 C2 r2 (by omega) hl2 hh2
  | false=>simp
theorem zPn {P : Program} {w : World} {d n : Nat} (C1 C2 : List Value) (hl : C1.length = C2.length)
  (ih : ∀ (t : TypeId) (i : TypeInfo) (u : TypeDesc) (vs us : List Value) (r : Bool),zGv P n t = true → P.info? t = some i → P.underlying t = some u → vs.length = i.size → IntPairs vs us r → (Op.equalIn d t (zIs (zD7 u) vs) (zIs (zD7 u) us)).run P w = .ok r w) :
  ∀ (fs : List Field) (k : Nat) (r : Bool),fs.all (fun f=>f.name != "_" && zGv P n f.type) = true →
   fs.foldl (fun (s : Option Nat) f=>s.bind fun k=>if f.offset = k then (P.info? f.type).map fun j=>k + j.size else none) (some k) = some C1.length →
   IntPairs (C1.drop k) (C2.drop k) r → (Op.eqFields d C1.toArray C2.toArray fs).run P w = .ok r w
 | [],k,r,_,hk,h=>by
  simp only [List.foldl_nil,Option.some.injEq] at hk
  subst hk
  rw [List.drop_length,hl,List.drop_length] at h
  cases h
  simp [Op.eqFields]
 | f :: fs,k,r,ha,hk,h=>by
  simp only [List.all_cons,Bool.and_eq_true] at ha
  obtain ⟨⟨hname,hflat⟩,hrest⟩:=ha
  obtain ⟨i,u,hi,hu,hs⟩:=zF5 n hflat
  have hstop : ∀ l : List Field,l.foldl (fun (s : Option Nat) f=>s.bind fun k=>if f.offset = k then (P.info? f.type).map fun j=>k + j.size else none) none = none:=by
   intro l; induction l with
   | nil=>rfl
   | cons a l ihl=>simpa using ihl
  have hmono : ∀ (l : List Field) (a b : Nat),l.foldl (fun (s : Option Nat) f=>s.bind fun k=>if f.offset = k then (P.info? f.type).map fun j=>k + j.size else none) (some a) = some b → a ≤ b:=by
   intro l; induction l with
   | nil=>intro a b h; simp at h; omega
   | cons x l ihl =>
    intro a b h
    simp only [List.foldl_cons,Option.bind_some] at h
    split at h
    ·cases hx : P.info? x.type with
     | none=>rw [hx] at h; simp only [Option.map_none] at h; rw [hstop] at h; cases h
     | some j=>rw [hx] at h; simp only [Option.map_some] at h; have:=ihl _ _ h; omega
    ·rw [hstop] at h; cases h
  simp only [List.foldl_cons,Option.bind_some] at hk
  split at hk
  ·rename_i hoff
   rw [hi] at hk
   simp only [Option.map_some] at hk
   have hle:=hmono _ _ _ hk
   obtain ⟨r1,r2,h1,h2,rfl⟩:=h.split i.size
   have p1:=zJ0 (P:=P) hi hu w C1 k hs hle
   have p2:=zJ0 (P:=P) hi hu w C2 k hs (by omega)
   have hq:=ih f.type i u _ _ r1 hflat hi hu (by simp only [List.length_take,List.length_drop]; omega) h1
   have hr:=zPn C1 C2 hl ih fs (k + i.size) r2 hrest hk (by rw [List.drop_drop,List.drop_drop] at h2; exact h2)
   have hn : f.name ≠ "_":=by simpa using hname
   simp only [Op.eqFields,ne_eq,hn,not_false_eq_true,if_true,Sem.run_bind,hoff,p1,p2,hq,Result.andThen_ok]
   cases r1 with
   | true=>simp only [Bool.not_true,Bool.false_eq_true,if_false,Bool.true_and]; exact hr
   | false=>simp
  ·rw [hstop] at hk; cases hk
theorem zI6 {P : Program} {w : World} : ∀ (n d : Nat) (t : TypeId) (i : TypeInfo) (u : TypeDesc) (vs us : List Value) (r : Bool),n ≤ d → zGv P n t = true → P.info? t = some i → P.underlying t = some u →
  vs.length = i.size → IntPairs vs us r → (Op.equalIn d t (zIs (zD7 u) vs) (zIs (zD7 u) us)).run P w = .ok r w
 | 0,_,_,_,_,_,_,_,_,h,_,_,_,_=>by cases h
 | n + 1,0,_,_,_,_,_,_,hd,_,_,_,_,_=>absurd hd (by omega)
 | n + 1,d + 1,t,i,u,vs,us,r,hd,h,hi,hu,hl,hp=>by
  obtain ⟨i',u',hi',hu',hs⟩:=zF5 (n + 1) h
  obtain rfl : i = i':=Option.some.inj (hi.symm.trans hi')
  obtain rfl : u = u':=Option.some.inj (hu.symm.trans hu')
  have hll:=hp.len
  unfold zGv at h
  rw [hu] at h
  cases u with
  | int k =>
   have h1:=hs rfl
   rw [h1] at hl
   cases hp with
   | nil=>simp at hl
   | cons k' a b tl =>
    rename_i vs us r
    have hx : vs = []:=List.eq_nil_of_length_eq_zero (by simpa using hl)
    subst hx
    have hy : us = []:=List.eq_nil_of_length_eq_zero (by simpa using hll.symm)
    subst hy
    cases tl
    simp only [zIs,zD7,Bool.false_eq_true,if_false,List.headD_cons,Bool.and_true]
    exact run_equalIn_int w d t k' k a b hu
  | array len e =>
   simp only [Bool.and_eq_true] at h
   obtain ⟨hf,hsz⟩:=h
   obtain ⟨j,v,hj,hv,hjs⟩:=zF5 n hf
   rw [hi,hj] at hsz
   have hsz' : i.size = len * j.size:=by simpa using hsz
   have hloop:=zIf (P:=P) (w:=w) (d:=d) (e:=e) hj hv hjs rfl (fun vs us r h1 h2=>zI6 n d e j v vs us r (by omega) hf hj hv h1 h2) len 0 vs us r (by rw [Nat.zero_add,← hsz',hl]; exact Nat.le_refl _) hll
    (by rw [Nat.zero_mul,List.drop_zero,List.drop_zero,← hsz',← hl,List.take_length,hll,List.take_length]; exact hp)
   have hsize : (sizeOf e).run P w = .ok j.size w:=by simp [sizeOf,typeInfo,hj]
   simp only [zIs,zD7,if_true,Op.equalIn,Sem.run_bind,run_underlying hu,Result.andThen_ok,Std.Legacy.Range.forIn_eq_forIn_range',hsize]
   have hrange : List.range' (0 : Nat) ([:len] : Std.Legacy.Range).size = List.range' 0 len:=by simp [Std.Legacy.Range.size]
   simp only [hrange,hloop,Result.andThen_ok]
   cases r <;> rfl
  | struct fs =>
   simp only [Bool.and_eq_true] at h
   obtain ⟨⟨hst,hall⟩,hsum⟩:=h
   rw [hi] at hsum
   have hfo : P.fieldsOf t = fs:=by simp [Program.fieldsOf,hu]
   simp only [zIs,zD7,if_true]
   rw [run_equalIn_struct w d t vs.toArray us.toArray (by rw [hfo]; exact hu) (by simpa using hst),hfo]
   refine zPn vs us hll (fun t i u vs us r h1 h2 h3 h4 h5=>zI6 n d t i u vs us r (by omega) h1 h2 h3 h4 h5) fs.toList 0 r ?_ ?_ (by simpa using hp)
   ·rw [Array.all_toList]; exact hall
   ·rw [Array.foldl_toList,hl]; exact beq_iff_eq.1 hsum
  | _=>cases h
end Go.Proofs.YtbmmnfeeapnhkaaGreat.Eng
end
section
namespace Go.Proofs.YtbmmnfeeapnhkaaGreat.Eng
open Go
theorem zK5 {P : Program} {t : TypeId} {e : EqK} (h : eqK P t = e) : match e with
  | .bool=>P.underlying t = some .bool
  | .ptr=>∃ x,P.underlying t = some (.pointer x)
  | .slice=>∃ x,P.underlying t = some (.slice x)
  | .func=>∃ a b c,P.underlying t = some (.func a b c)
  | .flat n=>n = P.cellsOf t ∧ zGv P 6 t = true ∧ P.eqGuardType P.depth t = false ∧ ∃ u,P.underlying t = some u ∧ zD7 u = true
  | .none=>True:=by
 unfold eqK at h
 split at h
 ·subst h; assumption
 ·subst h; exact ⟨_,by assumption⟩
 ·subst h; exact ⟨_,by assumption⟩
 ·subst h; exact ⟨_,_,_,by assumption⟩
 ·rename_i hu
  split at h
  ·rename_i hc
   subst h
   simp only [Bool.and_eq_true,Bool.not_eq_true'] at hc
   exact ⟨rfl,hc.1,hc.2,_,hu,rfl⟩
  ·subst h; trivial
 ·rename_i hu
  split at h
  ·rename_i hc
   subst h
   simp only [Bool.and_eq_true,Bool.not_eq_true'] at hc
   exact ⟨rfl,hc.1,hc.2,_,hu,rfl⟩
  ·subst h; trivial
 ·subst h; trivial
def zQa (P : Program) (w : World) (t : TypeId) (cx cy : Value) (b : Bool) : Prop :=
 ∀ ox oy,(do eqGuard .eql t ox oy cx cy; binOp .eql t cx cy : Sem Value).run P w = .ok (.bool b) w ∧ (do eqGuard .neq t ox oy cx cy; binOp .neq t cx cy : Sem Value).run P w = .ok (.bool (!b)) w
theorem zQa.of {P : Program} {w : World} {t : TypeId} {cx cy : Value} {b : Bool} (he : (Op.equal t cx cy).run P w = .ok b w)
  (hg : ∀ op ox oy,(eqGuard op t ox oy cx cy).run P w = .ok () w) (h1 : binOp .eql t cx cy = (do pure (.bool (← Op.equal t cx cy)) : Sem Value)) (h2 : binOp .neq t cx cy = (do pure (.bool (!(← Op.equal t cx cy))) : Sem Value)) :
  zQa P w t cx cy b:=fun ox oy=>⟨by simp only [Sem.run_bind,hg,Result.andThen_ok,h1,he,Sem.run_pure],by simp only [Sem.run_bind,hg,Result.andThen_ok,h2,he,Sem.run_pure]⟩
theorem zIg {P : Program} {w : World} {t u : TypeId} (hu : P.underlying t = some (.pointer u)) (d : Nat) :
  (Op.equalIn (d + 1) t (.pointer none) (.pointer none)).run P w = .ok true w ∧ (∀ a,(Op.equalIn (d + 1) t (.pointer none) (.pointer (some a))).run P w = .ok false w) ∧ (∀ a,(Op.equalIn (d + 1) t (.pointer (some a)) (.pointer none)).run P w = .ok false w) :=
 ⟨by simp [Op.equalIn,run_underlying hu],fun a=>by simp [Op.equalIn,run_underlying hu],fun a=>by simp [Op.equalIn,run_underlying hu]⟩
theorem zFo {P : Program} {w : World} {t u : TypeId} (hu : P.underlying t = some (.slice u)) (d : Nat) :
  (Op.equalIn (d + 1) t (.slice none 0 0) (.slice none 0 0)).run P w = .ok true w ∧ (∀ a n c,(Op.equalIn (d + 1) t (.slice none 0 0) (.slice (some a) n c)).run P w = .ok false w) ∧ (∀ a n c,(Op.equalIn (d + 1) t (.slice (some a) n c) (.slice none 0 0)).run P w = .ok false w) :=
 ⟨by simp [Op.equalIn,run_underlying hu],fun a n c=>by simp [Op.equalIn,run_underlying hu],fun a n c=>by simp [Op.equalIn,run_underlying hu]⟩
theorem zGu {P : Program} {w : World} {t : TypeId} {u1 u2 u3} (hu : P.underlying t = some (.func u1 u2 u3)) (d : Nat) :
  (Op.equalIn (d + 1) t .nilFunc .nilFunc).run P w = .ok true w ∧ (∀ a n c,(Op.equalIn (d + 1) t .nilFunc (.func a n c)).run P w = .ok false w) ∧ (∀ a n c,(Op.equalIn (d + 1) t (.func a n c) .nilFunc).run P w = .ok false w) :=
 ⟨by simp [Op.equalIn,run_underlying hu],fun a n c=>by simp [Op.equalIn,run_underlying hu],fun a n c=>by simp [Op.equalIn,run_underlying hu]⟩
theorem zSh {P : Program} {φ : Ren} {w : World} {t : TypeId} {x y : AV} {cx cy : Value} (hx : VRel φ x cx) (hy : VRel φ y cy) {b : Bool} (h : eqV (eqK P t) x y = some b) : zQa P w t cx cy b:=by
 have hg0 : ∀ op ox oy,(op ≠ .eql ∧ op ≠ .neq) → (eqGuard op t ox oy cx cy).run P w = .ok () w:=by
  intro op ox oy hop
  unfold eqGuard
  cases op <;> first | rfl | (exact absurd rfl hop.1) | (exact absurd rfl hop.2)
 cases hk : eqK P t with
 | bool =>
  have hu : P.underlying t = some .bool:=zK5 hk
  rw [hk] at h
  unfold eqV at h; split at h <;> first | contradiction | (cases h; done) | skip
  injection h with h; subst h; cases hx; cases hy
  exact zQa.of (run_equalIn_bool' w 9999 t _ _ hu) (fun op ox oy=>by cases op <;> rfl) rfl rfl
 | ptr =>
  obtain ⟨u,hu⟩:=zK5 hk
  rw [hk] at h
  unfold eqV at h; split at h <;> first | contradiction | (cases h; done) | skip
  all_goals injection h with h; subst h; cases hx; cases hy
  all_goals exact zQa.of (by first | exact (zIg hu 9999).1 | exact (zIg hu 9999).2.1 _ | exact (zIg hu 9999).2.2 _ | exact (zIg hu 9999).2.1 _ _ _ | exact (zIg hu 9999).2.2 _ _ _) (fun op ox oy=>by cases op <;> rfl) rfl rfl
 | slice =>
  obtain ⟨u,hu⟩:=zK5 hk
  rw [hk] at h
  unfold eqV at h; split at h <;> first | contradiction | (cases h; done) | skip
  all_goals injection h with h; subst h; cases hx; cases hy
  all_goals exact zQa.of (by first | exact (zFo hu 9999).1 | exact (zFo hu 9999).2.1 _ | exact (zFo hu 9999).2.2 _ | exact (zFo hu 9999).2.1 _ _ _ | exact (zFo hu 9999).2.2 _ _ _) (fun op ox oy=>by cases op <;> rfl) rfl rfl
 | func =>
  obtain ⟨u1,u2,u3,hu⟩:=zK5 hk
  rw [hk] at h
  unfold eqV at h; split at h <;> first | contradiction | (cases h; done) | skip
  all_goals injection h with h; subst h; cases hx; cases hy
  all_goals exact zQa.of (by first | exact (zGu hu 9999).1 | exact (zGu hu 9999).2.1 _ | exact (zGu hu 9999).2.2 _ | exact (zGu hu 9999).2.1 _ _ _ | exact (zGu hu 9999).2.2 _ _ _) (fun op ox oy=>by cases op <;> rfl) rfl rfl
 | flat n =>
  obtain ⟨hn,hf,hgt,u,hu,hag⟩:=zK5 hk
  rw [hk] at h
  unfold eqV at h; split at h <;> first | contradiction | (cases h; done) | skip
  rename_i heq; injection heq with heq; subst heq
  split at h
  ·rename_i hl
   cases hx with
   | agg h1 =>
    cases hy with
    | agg h2 =>
     obtain ⟨j,v,hj,hv,hjs⟩:=zF5 6 hf
     obtain rfl : u = v:=Option.some.inj (hu.symm.trans hv)
     have hip:=IntPairs.of h1 h2 h
     have hrun:=zI6 (P:=P) (w:=w) 6 10000 t j u _ _ b (by omega) hf hj hu (by rw [← h1.length_eq]; rw [hl,hn]; simp [Program.cellsOf,hj]) hip
     simp only [hag,zIs,if_true] at hrun
     exact zQa.of hrun (fun op ox oy=>run_eqGuard_agg w op t ox oy _ _ hgt) rfl rfl
  ·cases h
 | none=>rw [hk] at h; unfold eqV at h; split at h <;> first | contradiction | cases h
theorem binV_ok {P : Program} {φ : Ren} {w : World} (op : BinOp) {t : TypeId} {x y v : AV} {cx cy : Value} (hx : VRel φ x cx) (hy : VRel φ y cy) (h : binV op (eqK P t) x y = some v) (ox oy : Operand) :
  ∃ cv,(do eqGuard op t ox oy cx cy; binOp op t cx cy : Sem Value).run P w = .ok cv w ∧ VRel φ v cv:=by
 unfold binV at h
 split at h
 ·cases hx; cases hy
  obtain ⟨cv,hrun,hrel⟩:=zXh (P:=P) (w:=w) op t _ _ _ _ h φ
  refine ⟨cv,?_,hrel⟩
  rw [Sem.run_bind,show (eqGuard op t ox oy _ _).run P w = .ok () w from by cases op <;> rfl]
  exact hrun
 ·cases hx; cases hy
  cases op <;> simp only at h <;> first | (cases h; done) | skip
  ·injection h with h; subst h
   exact ⟨_,rfl,.bool _⟩
  ·injection h with h; subst h
   exact ⟨_,rfl,.bool _⟩
 ·cases op <;> simp only at h <;> first | (cases h; done) | skip
  ·obtain ⟨b,hb,rfl⟩:=Option.map_eq_some_iff.1 h
   exact ⟨_,(zSh hx hy hb ox oy).1,.bool _⟩
  ·obtain ⟨b,hb,rfl⟩:=Option.map_eq_some_iff.1 h
   exact ⟨_,(zSh hx hy hb ox oy).2,.bool _⟩
theorem unV_ok {P : Program} {φ : Ren} {w : World} (op : UnOp) {x v : AV} {cx : Value} (hx : VRel φ x cx) (h : unV op x = some v) : ∃ cv,(Op.unary op cx).run P w = .ok cv w ∧ VRel φ v cv:=by
 unfold unV at h
 split at h <;> first | (cases h; done) | skip
 all_goals injection h with h; subst h; cases hx
 ·exact ⟨_,rfl,.bool _⟩
 ·exact ⟨_,rfl,.int _ _⟩
 ·exact ⟨_,rfl,.int _ _⟩
theorem VRel.sl_inv {φ : Ren} {b off sz len lo : Nat} {ex : Bool} {v : Value} (h : VRel φ (.sl b off sz len lo ex) v) :
  ∃ e a cap,v = .slice (some a) len cap ∧ φ b = some e ∧ (a = ⟨e.blk,e.base + off,none⟩ ∨ cap = 0) ∧ len ≤ lo ∧ lo ≤ cap ∧ (ex = true → cap = lo) ∧ e.base + off + cap * sz ≤ e.size:=by
 cases h with
 | sl h ha h1 h2 h3 h4=>exact ⟨_,_,_,rfl,h,ha,h1,h2,h3,h4⟩
theorem zE4 {P : Program} {φ : Ren} {h : zAa} {w : World} (s : St φ h w) {b off sz len lo : Nat} {ex : Bool} {v : Value} (hv : VRel φ (.sl b off sz len lo ex) v) {n : Nat} (hn : n ≤ len) {cs : List AV} (hr : zC6 h b off (n * sz) = some cs) :
  ∃ a cap,∃ vs : List Value,v = .slice (some a) len cap ∧ (∀ w1 : World,w1.heap = w.heap → (loadCells a (n * sz)).run P w1 = .ok vs.toArray w1) ∧ VRels φ cs vs ∧ cs.length = n * sz:=by
 obtain ⟨e,a,cap,rfl,hb,ha,h1,h2,h3,h4⟩:=hv.sl_inv
 obtain ⟨vs,r1,r2,r3⟩:=zRv (P:=P) s hb hr
 rcases ha with rfl | hc
 ·exact ⟨_,_,vs,rfl,r1,r2,r3⟩
 ·have hn0 : n = 0:=by omega
  subst hn0
  rw [Nat.zero_mul] at r3
  have : cs = []:=List.eq_nil_of_length_eq_zero r3
  subst this
  cases r2
  exact ⟨a,cap,[],rfl,fun w1 _=>by rw [Nat.zero_mul]; rfl,.nil,by rw [Nat.zero_mul]; rfl⟩
theorem zIl {P : Program} {s d : TypeId} {c : ConvK} (h : zTy P s d = c) : match c with
  | .int k=>(∃ j,P.underlying s = some (.int j)) ∧ P.underlying d = some (.int k)
  | .str=>P.underlying s = some .string ∧ P.underlying d = some .string
  | .bytesStr=>∃ e,P.underlying s = some (.slice e) ∧ P.underlying d = some .string ∧ P.underlying e = some (.int .u8)
  | .same=>s = d ∧ ∃ e,P.underlying d = some (.slice e) ∧ P.underlying e = some (.int .u8)
  | .none=>True:=by
 unfold zTy at h
 split at h
 ·subst h; exact ⟨⟨_,by assumption⟩,by assumption⟩
 ·subst h; exact ⟨by assumption,by assumption⟩
 ·split at h
  ·subst h; exact ⟨_,by assumption,by assumption,by assumption⟩
  ·subst h; trivial
 ·split at h
  ·rename_i hq _; subst h; exact ⟨eq_of_beq hq,_,by assumption,by assumption⟩
  ·subst h; trivial
 ·subst h; trivial
theorem zMs {P : Program} {φ : Ren} {w : World} {f : Value → ByteArray → Sem (ForInStep ByteArray)} (hf : ∀ n s,f (.int .u8 n) s = pure (ForInStep.yield (s.push (UInt8.ofNat n.toNat)))) :
  ∀ {cs : List AV} {vs : List Value} {l : List UInt8} (s0 : ByteArray),VRels φ cs vs → zHq cs = some l → (forIn vs s0 f : Sem ByteArray).run P w = .ok ⟨s0.data ++ l.toArray⟩ w
 | [],_,l,s0,.nil,h=>by simp only [zHq,Option.some.injEq] at h; subst h; simp
 | c :: cs,_,l,s0,.cons hc tc,h=>by
  unfold zHq at h
  split at h
  ·contradiction
  ·rename_i n r heq
   injection heq with h1 h2
   subst h1; subst h2
   obtain ⟨l',hl',rfl⟩:=Option.map_eq_some_iff.1 h
   cases hc
   simp only [List.forIn_cons,Sem.run_bind,hf,Sem.run_pure,Result.andThen_ok]
   rw [zMs hf _ tc hl']
   congr 2
   simp [ByteArray.push]
  ·cases h
theorem zXp {w : World} {g : Nat} {C : Array Value} {t : TypeId} {fz : Nat × Nat} (hg : w.heap[g]? = some (.cells C t fz)) (hl : Lo fz C.size) : ∃ fz',Lo fz' C.size ∧ w.freeze ⟨g,C.size,none⟩ 1 = { w with heap:=w.heap.setIfInBounds g (.cells C t fz') }:=by
 obtain ⟨lo,hi⟩:=fz
 refine ⟨if lo == hi then (C.size,C.size + 1) else (min lo C.size,max hi (C.size + 1)),?_,?_⟩
 ·cases hq : lo == hi with
  | true=>exact .inr (Nat.le_refl _)
  | false =>
   refine .inr ?_
   rcases hl with h | h
   ·simp only at h; subst h; simp at hq
   ·simp only at h
    show C.size ≤ min lo C.size
    omega
 ·unfold World.freeze
  rw [if_neg (by decide)]
  congr 1
  apply Array.ext_getElem?
  intro j
  rw [Array.getElem?_modify,Array.getElem?_setIfInBounds]
  by_cases hj : g = j
  ·subst hj
   have hlt : g < w.heap.size:=(Array.getElem?_eq_some_iff.1 hg).1
   rw [if_pos rfl,if_pos rfl,if_pos hlt,hg]
   rfl
  ·simp [hj]
theorem convV_ok {P : Program} {φ : Ren} {h : zAa} {w : World} (st : St φ h w) {s d : TypeId} {x v : AV} {cx : Value} (hx : VRel φ x cx) (hv : zFq (zTy P s d) x h = some v) :
  ∃ cv w',(convert s d cx).run P w = .ok cv w' ∧ VRel φ v cv ∧ St φ h w' ∧ Ext φ h w φ h w':=by
 have old : (∃ cv,(convert s d cx).run P w = .ok cv w ∧ VRel φ v cv) → ∃ cv w',(convert s d cx).run P w = .ok cv w' ∧ VRel φ v cv ∧ St φ h w' ∧ Ext φ h w φ h w':=fun ⟨cv,h1,h2⟩=>⟨cv,w,h1,h2,st,Ext.refl _ _ _⟩
 cases hk : zTy P s d with
 | int k =>
  obtain ⟨⟨j,hs⟩,hd⟩:=zIl hk
  rw [hk] at hv
  unfold zFq at hv; split at hv <;> first | contradiction | (cases hv; done) | skip
  rename_i heq; injection heq with heq; subst heq
  injection hv with hv; subst hv; cases hx
  exact old ⟨_,by simp [convert,run_underlying hs,run_underlying hd,Conv.intToInt],.int _ _⟩
 | str =>
  obtain ⟨hs,hd⟩:=zIl hk
  rw [hk] at hv
  unfold zFq at hv; split at hv <;> first | contradiction | (cases hv; done) | skip
  injection hv with hv; subst hv; cases hx
  exact old ⟨_,by simp [convert,run_underlying hs,run_underlying hd],.str _⟩
 | bytesStr =>
  obtain ⟨e,hs,hd,he⟩:=zIl hk
  rw [hk] at hv
  unfold zFq at hv; split at hv <;> first | contradiction | (cases hv; done) | skip
  ·injection hv with hv; subst hv; cases hx
   exact old ⟨_,by simp [convert,run_underlying hs,run_underlying hd,run_underlying he,Conv.bytesToString],.str _⟩
  ·split at hv
   ·rename_i hsz
    subst hsz
    obtain ⟨cs,hcs,hv⟩:=Option.bind_eq_some_iff.1 hv
    obtain ⟨l,hl,rfl⟩:=Option.map_eq_some_iff.1 hv
    obtain ⟨a,cap,vs,rfl,hrun,hrel,_⟩:=zE4 (P:=P) st hx (Nat.le_refl _) (cs:=cs) (by rw [Nat.mul_one]; exact hcs)
    refine old ⟨_,?_,.str _⟩
    replace hrun:=hrun w rfl
    rw [Nat.mul_one] at hrun
    simp only [convert,Sem.run_bind,run_underlying hs,run_underlying hd,run_underlying he,Result.andThen_ok,Conv.bytesToString,hrun,← Array.forIn_toList]
    rw [show (∀ f,forIn vs.toArray.toList ByteArray.empty f = (forIn vs ByteArray.empty f : Sem ByteArray)) from fun _=>rfl]
    rw [zMs (P:=P) (w:=w) (fun n s=>rfl) ByteArray.empty hrel hl]
    simp
   ·cases hv
 | same =>
  obtain ⟨hsd,e,hd,he⟩:=zIl hk
  subst hsd
  rw [hk] at hv
  unfold zFq at hv; split at hv <;> first | contradiction | (cases hv; done) | skip
  rename_i b off sz len lo ex _
  split at hv
  ·rename_i h1
   split at hv
   ·rename_i cs hb
    injection hv with hv; subst hv
    cases hx with
    | sl hφ ha q1 q2 q3 q4 =>
     rename_i en a cap
     have ha:=ha.resolve_right (by omega)
     subst ha
     obtain ⟨k,o,hk1,ho,hr⟩:=st.dom _ _ hφ
     obtain rfl : ABlk.rw cs = k:=Option.some.inj (hb.symm.trans hk1)
     obtain ⟨C,t,fz,rfl,hlo,hcr⟩:=hr
     obtain ⟨fz',l2,hf⟩:=zXp ho hlo
     obtain ⟨t1,t2⟩:=St.turn st (k':=.rw cs) (o':=.cells C t fz') hφ hk1 rfl ⟨C,t,fz',rfl,l2,hcr⟩ rfl (fun L hL=>by cases hL)
     have hset : h.set b (.rw cs) = h:=by
      apply List.ext_getElem?
      intro i
      rw [List.getElem?_set]
      split
      ·rename_i e1; subst e1; rw [if_pos (st.lt hφ)]; exact hb.symm
      ·rfl
     rw [hset] at t1 t2
     have hsh : w.shape? en.blk = some (t,C.size):=by unfold World.shape?; rw [ho]
     refine ⟨_,_,?_,.sl hφ (.inl rfl) q1 q2 q3 q4,t1,t2⟩
     rw [← hf]
     simp [convert,run_underlying hd,run_underlying he,markStringish,hsh]
   ·cases hv
  ·cases hv
 | none=>rw [hk] at hv; unfold zFq at hv; split at hv <;> first | contradiction | cases hv
end Go.Proofs.YtbmmnfeeapnhkaaGreat.Eng
end
section
namespace Go.Proofs.YtbmmnfeeapnhkaaGreat.Eng
open Go
theorem zOg (cs : List AV) (off : Nat) (vs : List AV) (h : off + vs.length ≤ cs.length) : zBp cs off vs = cs.take off ++ vs ++ cs.drop (off + vs.length):=by
 unfold zBp
 split
 ·rename_i v
  simp only [List.length_singleton] at h ⊢
  rw [List.set_eq_take_append_cons_drop,if_pos (by omega)]
  simp
 ·rfl
theorem zSd : ∀ (vs : List Value) (k off : Nat) (C : Array Value),off + k + vs.length ≤ C.size →
  ((vs.zipIdx k).foldl (fun cs (p : Value × Nat)=>cs.setIfInBounds (off + p.2) p.1) C).toList = C.toList.take (off + k) ++ vs ++ C.toList.drop (off + k + vs.length)
 | [],k,off,C,_=>by simp
 | v :: vs,k,off,C,h=>by
  simp only [List.length_cons] at h
  simp only [List.zipIdx_cons,List.foldl_cons]
  rw [zSd vs (k + 1) off (C.setIfInBounds (off + k) v) (by simp; omega)]
  simp only [Array.toList_setIfInBounds,List.length_cons]
  have hl : off + k < C.toList.length:=by simp; omega
  have e:=list_seg_step C.toList (off + k) v vs (by simp only [Array.length_toList]; omega)
  rw [show off + (k + 1) = off + k + 1 from by omega]
  simpa [Nat.add_assoc,Nat.add_comm,Nat.add_left_comm] using e
theorem zNt {φ : Ren} {place : Nat → Option (Nat × Nat)} : ∀ {parts : List (Nat × AV)} {cparts : List (Nat × Value)} {cells out : List AV} {C : Array Value},parts.length = cparts.length →
  (∀ (i : Nat) (p : Nat × AV) (q : Nat × Value),parts[i]? = some p → cparts[i]? = some q → p.1 = q.1 ∧ VRel φ p.2 q.2) → VRels φ cells C.toList → zLo place cells parts = some out →
  ∃ D,Instr.fill place C cparts = some D ∧ VRels φ out D.toList
 | [],[],cells,out,C,_,_,hc,h=>by simp only [zLo,Option.some.injEq] at h; subst h; exact ⟨C,rfl,hc⟩
 | (i,v) :: parts,(j,u) :: cparts,cells,out,C,hl,hp,hc,h=>by
  obtain ⟨rfl,hvu⟩:=hp 0 _ _ rfl rfl
  simp only [zLo] at h
  obtain ⟨⟨off,size⟩,hpl,h⟩:=Option.bind_eq_some_iff.1 h
  obtain ⟨cs,hcs,h⟩:=Option.bind_eq_some_iff.1 h
  split at h
  ·rename_i hf
   obtain ⟨h1,h2⟩:=hf
   simp only at h1 h2
   have hrel:=zG5 hvu hcs
   have hlen:=hrel.length_eq
   have hclen:=hc.length_eq
   simp only [Array.length_toList] at hlen hclen
   have hfold:=zSd u.cells.toList 0 off C (by simp; omega)
   have hnew : VRels φ (zBp cells off cs) ((u.cells.zipIdx.foldl (fun cs (p : Value × Nat)=>cs.setIfInBounds (off + p.2) p.1) C)).toList:=by
    rw [zOg _ _ _ (by omega)]
    rw [← Array.foldl_toList,Array.toList_zipIdx,hfold]
    have e : off + 0 = off:=rfl
    rw [Nat.add_zero,← hrel.length_eq]
    exact ((hc.take off).append hrel).append (hc.drop _)
   obtain ⟨D,hD,hDr⟩:=zNt (by simpa using hl) (fun i p q h1 h2=>hp (i + 1) p q (by simpa using h1) (by simpa using h2)) hnew h
   refine ⟨D,?_,hDr⟩
   simp only [Instr.fill,hpl]
   rw [if_neg (by simp; omega)]
   exact hD
  ·cases h
theorem zDg {φ : Ren} {zs : List AV} {z : Array Value} (h : VRels φ zs z.toList) (n : Nat) :
  VRels φ (List.replicate n zs).flatten ((Array.range (n * z.size)).map (fun i=>z[i % z.size]!)).toList:=by
 have hl:=h.length_eq
 simp only [Array.length_toList] at hl
 refine VRels.of_get (by simp [hl]) fun i a ha=>?_
 have hi : i < n * z.size:=by
  have:=(List.getElem?_eq_some_iff.1 ha).1
  simpa [hl] using this
 have hz : 0 < z.size:=Nat.pos_of_ne_zero fun h0=>by rw [h0] at hi; omega
 have hmod : i % z.size < z.size:=Nat.mod_lt _ hz
 have hflat : ∀ (n i : Nat),i < n * z.size → (List.replicate n zs).flatten[i]? = zs[i % z.size]?:=by
  intro n
  induction n with
  | zero=>intro i hi; omega
  | succ n ih =>
   intro i hi
   rw [List.replicate_succ,List.flatten_cons]
   by_cases hlt : i < z.size
   ·rw [List.getElem?_append_left (by omega),Nat.mod_eq_of_lt hlt]
   ·rw [List.getElem?_append_right (by omega),hl,ih (i - z.size) (by rw [Nat.add_mul,Nat.one_mul] at hi; omega)]
    have e:=Nat.mod_eq_sub_mod (a:=i) (b:=z.size) (by omega)
    rw [e]
 rw [hflat n i hi] at ha
 obtain ⟨v,hv,hr⟩:=h.get ha
 refine ⟨v,?_,hr⟩
 simp only [Array.toList_map,Array.toList_range,List.getElem?_map,List.getElem?_range hi,Option.map_some]
 rw [Array.getElem?_toList] at hv
 simp [getElem!_def,hv]
theorem zRw {P : Program} {w : World} {α β : Type} {f : α → Sem β} {g : α → β} : ∀ (l : List α),(∀ x ∈ l,(f x).run P w = .ok (g x) w) → (l.mapM f).run P w = .ok (l.map g) w
 | [],_=>by simp
 | x :: l,h=>by
  rw [List.mapM_cons]
  simp only [Sem.run_bind,h x (by simp),Result.andThen_ok,zRw l (fun y hy=>h y (by simp [hy])),Sem.run_pure,List.map_cons]
theorem zOo {P : Program} {w : World} {α β : Type} {f : α → Sem β} {g : α → β} (l : Array α) (h : ∀ x ∈ l,(f x).run P w = .ok (g x) w) : (l.mapM f).run P w = .ok (l.map g) w:=by
 rw [Array.mapM_eq_mapM_toList]
 simp only [← bind_pure_comp,Sem.run_bind,zRw l.toList (fun x hx=>h x (by simpa using hx)),Result.andThen_ok,Sem.run_pure]
 congr 1
 apply Array.ext'
 simp
theorem build_ok {P : Program} {φ : Ren} {w : World} {t : TypeId} {d : TyD} (hd : tyD P t = some d) (hb : zQ8 P t = true) {parts : List (Nat × AV)} {cparts : Array (Nat × Value)} (hl : parts.length = cparts.size)
  (hp : ∀ (i : Nat) (p : Nat × AV) (q : Nat × Value),parts[i]? = some p → cparts[i]? = some q → p.1 = q.1 ∧ VRel φ p.2 q.2) {out : List AV} (h : zLo (zHk P t) d.zero parts = some out) :
  ∃ cv,(Instr.build t cparts).run P w = .ok cv w ∧ VRel φ (.agg out) cv:=by
 obtain ⟨i,z,u,k⟩:=zD6 hd
 unfold zQ8 at hb
 rw [k.und] at hb
 cases u with
 | struct fs =>
  simp only at hb
  have hplace : ∀ j,(fs.map fun f=>(f.offset,P.cellsOf f.type))[j]? = zHk P t j:=by
   intro j
   unfold zHk
   rw [k.und]
   simp only [Array.getElem?_map]
   cases hf : fs[j]? with
   | none=>rfl
   | some f =>
    have hmem : f ∈ fs:=Array.mem_of_getElem? hf
    obtain ⟨i2,hi2⟩:=Option.isSome_iff_exists.1 (Array.all_eq_true_iff_forall_mem.1 hb f hmem)
    simp [hi2,Program.cellsOf]
  obtain ⟨D,hD,hDr⟩:=zNt (cparts:=cparts.toList) (by simpa using hl) (fun i p q h1 h2=>hp i p q h1 (by simpa using h2)) (k.zrel φ) h
  have hm:=zOo (P:=P) (w:=w) (f:=fun f : Field=>(do pure (f.offset,← sizeOf f.type) : Sem (Nat × Nat))) (g:=fun f=>(f.offset,P.cellsOf f.type)) fs (fun f hf=>by
   obtain ⟨i2,hi2⟩:=Option.isSome_iff_exists.1 (Array.all_eq_true_iff_forall_mem.1 hb f hf)
   simp [sizeOf,typeInfo,hi2,Program.cellsOf])
  refine ⟨.agg D,?_,by have:=VRel.agg hDr; simpa using this⟩
  simp only [Instr.build,Sem.run_bind,k.run_zero,k.run_und,Result.andThen_ok,hm]
  have hfun : (fun j=>(fs.map fun f=>(f.offset,P.cellsOf f.type))[j]?) = zHk P t:=funext hplace
  simp only [hfun,hD,Sem.run_pure]
 | array n e =>
  simp only at hb
  obtain ⟨j,hj⟩:=Option.isSome_iff_exists.1 hb
  obtain ⟨D,hD,hDr⟩:=zNt (cparts:=cparts.toList) (by simpa using hl) (fun i p q h1 h2=>hp i p q h1 (by simpa using h2)) (k.zrel φ) h
  have hs : (sizeOf e).run P w = .ok j.size w:=by simp [sizeOf,typeInfo,hj]
  have hfun : (fun i=>some (i * j.size,j.size)) = zHk P t:=funext fun i=>by simp [zHk,k.und,hj]
  refine ⟨.agg D,?_,by have:=VRel.agg hDr; simpa using this⟩
  simp only [Instr.build,Sem.run_bind,k.run_zero,k.run_und,Result.andThen_ok,hs,hfun,hD,Sem.run_pure]
 | _=>cases hb
theorem zH9 {φ : Ren} {h : zAa} {w : World} (s : St φ h w) {cs : List AV} {C : Array Value} (hr : VRels φ cs (C.toList.take cs.length)) (t : TypeId) (sz len lo : Nat) (ex : Bool) (cap : Nat) (h1 : len ≤ lo) (h2 : lo ≤ cap) (h3 : ex = true → cap = lo) (h4 : cap * sz ≤ C.size) :
  ∃ φ',VRel φ' (.sl h.length 0 sz len lo ex) (.slice (some ⟨w.heap.size,0,none⟩) len cap) ∧ St φ' (h ++ [.rw cs]) (w.alloc (.cells C t)) ∧ Ext φ h w φ' (h ++ [.rw cs]) (w.alloc (.cells C t)):=by
 have:=zLg s hr t
 refine ⟨_,?_,this.1,this.2⟩
 exact VRel.sl (e:=⟨w.heap.size,0,C.size⟩) (Ren.put_same _ _ _) (.inl rfl) h1 h2 h3 (by simpa using h4)
theorem zHf {P : Program} {φ : Ren} {h h' : zAa} {w : World} {t e : TypeId} {d : TyD} (ht : P.underlying t = some (.slice e)) (hd : tyD P e = some d) {len : Nat} {parts : List (Nat × AV)} {cparts : Array (Nat × Value)}
  (hl : parts.length = cparts.size) (hp : ∀ (i : Nat) (p : Nat × AV) (q : Nat × Value),parts[i]? = some p → cparts[i]? = some q → p.1 = q.1 ∧ VRel φ p.2 q.2) {v : AV} (hv : zFa d len parts h = some (v,h')) :
  ∃ cs D,v = .sl h.length 0 d.size len len true ∧ h' = h ++ [.rw cs] ∧ (Instr.buildSlice t len cparts).run P w = .ok (.slice (some ⟨w.heap.size,0,none⟩) len len) (w.alloc (.cells D e)) ∧ VRels φ cs D.toList ∧ D.size = len * d.size:=by
 obtain ⟨i,z,u,k⟩:=zD6 hd
 unfold zFa at hv
 split at hv
 ·rename_i hc
  obtain ⟨cs,hcs,heq⟩:=Option.map_eq_some_iff.1 hv
  injection heq with h1 h2
  subst h1; subst h2
  have hzs : z.cells.size = d.size:=by rw [k.size,k.zsize]
  have hz:=zDg (k.zrel φ) len
  rw [hzs] at hz
  obtain ⟨D,hD,hDr⟩:=zNt (cparts:=cparts.toList) (by simpa using hl) (fun i p q h1 h2=>hp i p q h1 (by simpa using h2)) hz hcs
  have hDs : D.size = len * d.size:=by
   have h1:=hDr.length_eq
   have h2 : ∀ (parts : List (Nat × AV)) (place : Nat → Option (Nat × Nat)) (a b : List AV),zLo place a parts = some b → b.length = a.length:=by
    intro parts place
    induction parts with
    | nil=>intro a b h; simp only [zLo,Option.some.injEq] at h; rw [h]
    | cons x r ih =>
     intro a b h
     obtain ⟨i,v⟩:=x
     simp only [zLo] at h
     obtain ⟨p,hp,h⟩:=Option.bind_eq_some_iff.1 h
     obtain ⟨c,hc,h⟩:=Option.bind_eq_some_iff.1 h
     split at h
     ·rename_i hq
      rw [ih _ _ h,zOg _ _ _ (by omega)]
      simp only [List.length_append,List.length_take,List.length_drop]; omega
     ·cases h
   have h3:=h2 _ _ _ _ hcs
   simp only [Array.length_toList] at h1
   rw [← h1,h3]; simp [k.zlen]
  refine ⟨cs,D,rfl,rfl,?_,hDr,hDs⟩
  simp only [Instr.buildSlice,Sem.run_bind,run_underlying ht,Result.andThen_ok,k.run_size]
  rw [if_neg (by omega)]
  by_cases h0 : len * d.size = 0
  ·have e0 : ∀ f : Nat → Value,(Array.range 0).map f = #[]:=fun f=>by simp
   rw [h0,e0] at hD
   rw [if_pos h0,h0]
   simp only [Sem.run_bind,Sem.run_pure,Result.andThen_ok,e0,hD,zDy]
  ·rw [if_neg h0]
   simp only [Sem.run_bind,k.run_zero,Sem.run_pure,Result.andThen_ok,hzs,hD,zDy]
 ·cases hv
theorem zN1 {P : Program} {φ : Ren} {h h' : zAa} {w : World} (s : St φ h w) {t e : TypeId} {d : TyD} (ht : P.underlying t = some (.slice e)) (hd : tyD P e = some d) {len : Nat} {parts : List (Nat × AV)} {cparts : Array (Nat × Value)}
  (hl : parts.length = cparts.size) (hp : ∀ (i : Nat) (p : Nat × AV) (q : Nat × Value),parts[i]? = some p → cparts[i]? = some q → p.1 = q.1 ∧ VRel φ p.2 q.2) {v : AV} (hv : zFa d len parts h = some (v,h')) :
  ∃ cv w' φ',(Instr.buildSlice t len cparts).run P w = .ok cv w' ∧ VRel φ' v cv ∧ St φ' h' w' ∧ Ext φ h w φ' h' w':=by
 obtain ⟨cs,D,rfl,rfl,hrun,hr,hs⟩:=zHf (w:=w) ht hd hl hp hv
 obtain ⟨φ',r1,r2,r3⟩:=zH9 s (zFv hr) e d.size len len true len (Nat.le_refl _) (Nat.le_refl _) (fun _=>rfl) (by omega)
 exact ⟨_,_,φ',hrun,r1,r2,r3⟩
theorem zIa {P : Program} {φ : Ren} {h h' : zAa} {w : World} {t e : TypeId} {d : TyD} (ht : P.underlying t = some (.slice e)) (hd : tyD P e = some d) {l c v : AV} {cl cc : Value} (hl : VRel φ l cl) (hc : VRel φ c cc)
  (hv : zCw d l c h = some (v,h')) : ∃ (cs : List AV) (D : Array Value) (len cap : Nat),v = .sl h.length 0 d.size len cap true ∧ len ≤ cap ∧ h' = h ++ [.rw cs] ∧ (Instr.makeSlice t cl cc).run P w = .ok (.slice (some ⟨w.heap.size,0,none⟩) len cap) (w.alloc (.cells D e)) ∧ VRels φ cs D.toList ∧ D.size = cap * d.size:=by
 obtain ⟨i,z,u,k⟩:=zD6 hd
 unfold zCw at hv
 split at hv
 ·rename_i k1 l k2 c
  split at hv
  ·rename_i hcond
   obtain ⟨h0,hlc,hby,hroom,hsz⟩:=hcond
   injection hv with heq
   injection heq with h1 h2
   subst h1; subst h2
   cases hl; cases hc
   have hzs : z.cells.size = d.size:=by rw [k.size,k.zsize]
   have hz:=zDg (k.zrel φ) c.toNat
   rw [hzs] at hz
   have hcb : c ≤ 140737488355328:=by
    have : (1 : Int) ≤ d.bytes:=by omega
    have h2 : c * 1 ≤ c * d.bytes:=Int.mul_le_mul_of_nonneg_left this (by omega)
    simp only [roomy] at hroom
    omega
   have hwc : IntKind.i64.wrap c = c:=by simp [IntKind.wrap,IntKind.bits,IntKind.signed]; omega
   have hwl : IntKind.i64.wrap l = l:=by simp [IntKind.wrap,IntKind.bits,IntKind.signed]; omega
   refine ⟨_,_,l.toNat,c.toNat,rfl,by omega,rfl,?_,hz,by simp⟩
   have hb2 : (i.bytes : Int) * c ≤ 140737488355328:=by rw [← k.bytes,Int.mul_comm]; exact hroom
   have htl : ¬ ((i.bytes : Int) * c > 2 ^ 48):=by omega
   have hasi : ∀ q n,(asInt (.int q n)).run P w = .ok n w:=fun q n=>rfl
   have hask : (askRoom (c.toNat * i.bytes)).run P w = .ok () w:=by
    unfold askRoom; split <;> rfl
   simp only [Instr.makeSlice,Sem.run_bind,run_underlying ht,Result.andThen_ok,hasi,k.run_info,hwc,hwl]
   rw [if_neg (by simp; omega)]
   simp only [Sem.run_bind,hask,Result.andThen_ok,k.run_size]
   by_cases h0 : c.toNat * d.size = 0
   ·have e0 : ∀ f : Nat → Value,(Array.range 0).map f = #[]:=fun f=>by simp
    rw [if_pos h0,h0]
    simp only [Sem.run_bind,Sem.run_pure,Result.andThen_ok,e0,zDy]
   ·rw [if_neg h0]
    simp only [Sem.run_bind,k.run_zero,Sem.run_pure,Result.andThen_ok,hzs,zDy]
  ·cases hv
 ·cases hv
theorem zO8 {P : Program} {φ : Ren} {h h' : zAa} {w : World} (s : St φ h w) {t e : TypeId} {d : TyD} (ht : P.underlying t = some (.slice e)) (hd : tyD P e = some d) {l c v : AV} {cl cc : Value} (hl : VRel φ l cl) (hc : VRel φ c cc)
  (hv : zCw d l c h = some (v,h')) : ∃ cv w' φ',(Instr.makeSlice t cl cc).run P w = .ok cv w' ∧ VRel φ' v cv ∧ St φ' h' w' ∧ Ext φ h w φ' h' w':=by
 obtain ⟨cs,D,len,cap,rfl,hle,rfl,hrun,hr,hs⟩:=zIa (w:=w) ht hd hl hc hv
 obtain ⟨φ',r1,r2,r3⟩:=zH9 s (zFv hr) e d.size len cap true cap hle (Nat.le_refl _) (fun _=>rfl) (by omega)
 exact ⟨_,_,φ',hrun,r1,r2,r3⟩
end Go.Proofs.YtbmmnfeeapnhkaaGreat.Eng
end
section
namespace Go.Proofs.YtbmmnfeeapnhkaaGreat.Eng
open Go
theorem zWl {P : Program} {φ : Ren} {w : World} {t : TypeId} {d : TyD} (hd : tyD P t = some d) {cs : List AV} {C : List Value} (hc : VRels φ cs C) {off : Nat} {v : AV} (h : partV d cs off = some v) :
  ∃ cv,(part t C.toArray off).run P w = .ok cv w ∧ VRel φ v cv:=by
 obtain ⟨i,z,u,k⟩:=zD6 hd
 have hlen:=hc.length_eq
 unfold partV at h
 cases hag : d.agg with
 | true =>
  rw [hag] at h
  simp only [if_true] at h
  split at h
  ·rename_i hle
   injection h with h; subst h
   refine ⟨.agg ((C.drop off).take d.size).toArray,?_,.agg ((hc.drop off).take _)⟩
   simp only [part,Sem.run_bind,k.run_isAgg,hag,Result.andThen_ok,if_true,k.run_size,Sem.run_pure]
   congr 2
   apply Array.ext'
   simp [List.extract_eq_take_drop]
  ·cases h
 | false =>
  rw [hag] at h
  simp only [Bool.false_eq_true,if_false] at h
  obtain ⟨cv,hcv,hr⟩:=hc.get h
  exact ⟨cv,by simp only [part,Sem.run_bind,k.run_isAgg,hag,Result.andThen_ok,Bool.false_eq_true,if_false,List.getElem?_toArray,hcv,Sem.run_pure],hr⟩
theorem field_ok {P : Program} {φ : Ren} {w : World} {t : TypeId} {x v : AV} {f : Nat} {cx : Value} (hx : VRel φ x cx) (h : zXt P t x f = some v) : ∃ cv,(Instr.field t cx f).run P w = .ok cv w ∧ VRel φ v cv:=by
 unfold zXt at h
 split at h
 ·rename_i fs hu
  obtain ⟨fd,hfd,h⟩:=Option.bind_eq_some_iff.1 h
  obtain ⟨d,hd,h⟩:=Option.bind_eq_some_iff.1 h
  split at h
  ·cases hx with
   | agg hc =>
    obtain ⟨cv,h1,h2⟩:=zWl (P:=P) (w:=w) hd hc h
    exact ⟨cv,by simp only [Instr.field,Sem.run_bind,run_underlying hu,Result.andThen_ok,hfd,asAgg,Sem.run_pure,h1],h2⟩
  ·cases h
 ·cases h
theorem index_ok {P : Program} {φ : Ren} {w : World} {t : TypeId} {x i v : AV} {cx ci : Value} (hx : VRel φ x cx) (hi : VRel φ i ci) (h : zXi P t x i = some v) : ∃ cv,(Instr.index t cx ci).run P w = .ok cv w ∧ VRel φ v cv:=by
 unfold zXi at h
 split at h
 ·rename_i n e hu
  obtain ⟨d,hd,h⟩:=Option.bind_eq_some_iff.1 h
  obtain ⟨i',z,u,k⟩:=zD6 hd
  split at h
  ·split at h
   ·rename_i hlt
    cases hi
    cases hx with
    | agg hc =>
     obtain ⟨cv,h1,h2⟩:=zWl (P:=P) (w:=w) hd hc h
     exact ⟨cv,by simp only [Instr.index,asIntOf,Sem.run_bind,Sem.run_pure,run_underlying hu,Result.andThen_ok,hlt,and_self,if_true,k.run_size,h1],h2⟩
   ·cases h
  ·cases h
 ·rename_i hu
  split at h
  ·split at h
   ·rename_i h0
    obtain ⟨b,hb,rfl⟩:=Option.map_eq_some_iff.1 h
    cases hx; cases hi
    rename_i s k j
    refine ⟨.int .u8 b.toNat,?_,.int _ _⟩
    have hb' : s[j.toNat]? = some b:=hb
    simp only [Instr.index,asIntOf,Sem.run_bind,Sem.run_pure,run_underlying hu,Result.andThen_ok,h0,if_true,hb']
   ·cases h
  ·cases h
 ·cases h
theorem zPk {P : Program} {φ : Ren} {w : World} {t : TypeId} {x v : AV} {f : Nat} {cx : Value} (hx : VRel φ x cx) (h : zI5 P t x f = some v) : ∃ cv,(Instr.fieldAt t cx f).run P w = .ok cv w ∧ VRel φ v cv:=by
 unfold zI5 at h
 split at h
 ·rename_i fs hu
  obtain ⟨fd,hfd,h⟩:=Option.bind_eq_some_iff.1 h
  obtain ⟨d,hd,h⟩:=Option.bind_eq_some_iff.1 h
  obtain ⟨i',z,u,k⟩:=zD6 hd
  split at h
  ·split at h
   ·rename_i hsz
    injection h with h; subst h
    cases hx with
    | ptr hb =>
     refine ⟨_,?_,.ptr hb⟩
     simp only [Instr.fieldAt,Sem.run_bind,run_underlying hu,Result.andThen_ok,hfd,Instr.sureAddr,Sem.run_pure,fieldPlace,k.run_size,hsz,if_false,zFi,Nat.add_assoc]
   ·cases h
  ·cases h
 ·cases h
theorem zPc {P : Program} {φ : Ren} {w : World} {t : TypeId} {x i v : AV} {cx ci : Value} (hx : VRel φ x cx) (hi : VRel φ i ci) (h : zI1 P t x i = some v) : ∃ cv,(Instr.indexAt t cx ci).run P w = .ok cv w ∧ VRel φ v cv:=by
 unfold zI1 at h
 split at h
 ·rename_i n e hu
  obtain ⟨d,hd,h⟩:=Option.bind_eq_some_iff.1 h
  obtain ⟨i',z,u,k⟩:=zD6 hd
  split at h
  ·split at h
   ·rename_i hlt
    injection h with h; subst h
    cases hi
    cases hx with
    | ptr hb =>
     refine ⟨_,?_,.ptr hb⟩
     simp only [Instr.indexAt,asIntOf,Sem.run_bind,Sem.run_pure,run_underlying hu,Result.andThen_ok,Instr.sureAddr,hlt,and_self,if_true,k.run_size,zFi,Nat.add_assoc]
   ·cases h
  ·cases h
 ·rename_i e hu
  obtain ⟨d,hd,h⟩:=Option.bind_eq_some_iff.1 h
  obtain ⟨i',z,u,k⟩:=zD6 hd
  split at h
  ·split at h
   ·rename_i hlt
    obtain ⟨rfl,hsz,h0,hj⟩:=hlt
    injection h with h; subst h
    cases hi
    cases hx with
    | sl hb ha h1 h2 h3 h4 =>
     rcases ha with rfl | hc
     ·refine ⟨_,?_,.ptr hb⟩
      simp only [Instr.indexAt,asIntOf,Sem.run_bind,Sem.run_pure,run_underlying hu,Result.andThen_ok,h0,hj,and_self,if_true,k.run_size,zFi,Nat.add_assoc]
     ·omega
   ·cases h
  ·cases h
 ·cases h
inductive ORel (φ : Ren) : Option AV → Option Value → Prop
 | none : ORel φ none none
 | some {a : AV} {v : Value} (h : VRel φ a v) : ORel φ (some a) (some v)
theorem zHr {φ : Ren} {o : Option AV} {c : Option Value} (hr : ORel φ o c) {d n : Int} (h : asI o d = some n) : (o = none ∧ c = none ∧ n = d) ∨ ∃ k,o = some (.int k n) ∧ c = some (.int k n):=by
 cases hr with
 | none=>simp only [asI,Option.some.injEq] at h; exact .inl ⟨rfl,rfl,h.symm⟩
 | some hv =>
  unfold asI at h
  split at h
  ·contradiction
  ·rename_i heq
   injection heq with heq; subst heq
   injection h with h; subst h
   cases hv
   exact .inr ⟨_,rfl,rfl⟩
  ·cases h
theorem zVw {P : Program} {w : World} (k : IntKind) (n : Int) (y : Nat) (c : BoundsCode) (h0 : 0 ≤ n) (h1 : n ≤ y) : (Instr.sliceBound (.int k n) y c).run P w = .ok n.toNat w:=by
 simp only [Instr.sliceBound,asIntOf,Sem.run_bind,Sem.run_pure,Result.andThen_ok,h0,h1,and_self,if_true]
theorem zGy {P : Program} {φ : Ren} {w : World} (isS : Bool) (len cap : Nat) {lo hi mx : Option AV} {clo chi cmx : Option Value} (rl : ORel φ lo clo) (rh : ORel φ hi chi) (rm : ORel φ mx cmx) {l u m : Int}
  (hl : asI lo 0 = some l) (hu : asI hi len = some u) (hm : asI mx cap = some m) (hx : mx.isSome → hi.isSome) (h0 : 0 ≤ l) (h1 : l ≤ u) (h2 : u ≤ m) (h3 : m ≤ cap) :
  (Instr.sliceBounds isS len cap clo chi cmx).run P w = .ok (l.toNat,u.toNat,m.toNat) w:=by
 have b:=fun (k : IntKind) (n : Int) (y : Nat) (c : BoundsCode) (h0 : 0 ≤ n) (h1 : n ≤ y)=>zVw (P:=P) (w:=w) k n y c h0 h1
 rcases zHr rm hm with ⟨rfl,rfl,rfl⟩ | ⟨km,rfl,rfl⟩
 ·rcases zHr rh hu with ⟨rfl,rfl,rfl⟩ | ⟨kh,rfl,rfl⟩
  ·rcases zHr rl hl with ⟨rfl,rfl,rfl⟩ | ⟨kl,rfl,rfl⟩
   ·simp only [Instr.sliceBounds,Sem.run_bind,Sem.run_pure,Result.andThen_ok,Int.toNat_natCast,Int.toNat_zero]
   ·simp only [Instr.sliceBounds,Sem.run_bind,Sem.run_pure,Result.andThen_ok,b kl l len _ h0 h1,Int.toNat_natCast]
  ·rcases zHr rl hl with ⟨rfl,rfl,rfl⟩ | ⟨kl,rfl,rfl⟩
   ·simp only [Instr.sliceBounds,Sem.run_bind,Sem.run_pure,Result.andThen_ok,b kh u cap _ (by omega) h2,Int.toNat_natCast,Int.toNat_zero]
   ·simp only [Instr.sliceBounds,Sem.run_bind,Sem.run_pure,Result.andThen_ok,b kh u cap _ (by omega) h2,b kl l u.toNat _ h0 (by omega),Int.toNat_natCast]
 ·rcases zHr rh hu with ⟨rfl,rfl,rfl⟩ | ⟨kh,rfl,rfl⟩
  ·exact absurd (hx rfl) (by simp)
  ·rcases zHr rl hl with ⟨rfl,rfl,rfl⟩ | ⟨kl,rfl,rfl⟩
   ·simp only [Instr.sliceBounds,Sem.run_bind,Sem.run_pure,Result.andThen_ok,b km m cap _ (by omega) h3,b kh u m.toNat _ (by omega) (by omega),Int.toNat_zero]
   ·simp only [Instr.sliceBounds,Sem.run_bind,Sem.run_pure,Result.andThen_ok,b km m cap _ (by omega) h3,b kh u m.toNat _ (by omega) (by omega),b kl l u.toNat _ h0 (by omega)]
theorem zM6 (a b c : Nat) (h : b ≤ a) : b * c + (a - b) * c = a * c:=by rw [← Nat.add_mul]; congr 1; omega
theorem slice_ok {P : Program} {φ : Ren} {h : zAa} {w : World} (st : St φ h w) {t : TypeId} {x v : AV} {cx : Value} (hx : VRel φ x cx) {lo hi mx : Option AV} {clo chi cmx : Option Value} (rl : ORel φ lo clo) (rh : ORel φ hi chi) (rm : ORel φ mx cmx)
  (hv : zOh P t x lo hi mx h = some v) : ∃ cv,(Instr.sliceAt t cx clo chi cmx).run P w = .ok cv w ∧ VRel φ v cv:=by
 unfold zOh at hv
 split at hv
 ·rename_i n e hu
  replace hv:=Option.bind_eq_some_iff.1 hv; obtain ⟨d,hd,hv⟩:=hv
  obtain ⟨i',z,ud,k⟩:=zD6 hd
  unfold zDb at hv
  split at hv
  ·replace hv:=Option.bind_eq_some_iff.1 hv; obtain ⟨l,hl,hv⟩:=hv
   replace hv:=Option.bind_eq_some_iff.1 hv; obtain ⟨u,hu',hv⟩:=hv
   replace hv:=Option.bind_eq_some_iff.1 hv; obtain ⟨m,hm,hv⟩:=hv
   split at hv
   ·rename_i hc
    obtain ⟨c1,c2,c3,c4,c5,c6⟩:=hc
    injection hv with hv; subst hv
    cases hx with
    | ptr hb =>
     rename_i b off ent
     have hb':=zGy (P:=P) (w:=w) false n n rl rh rm hl hu' hm c1 c2 c3 c4 c5
     obtain ⟨cs,hcs⟩:=Option.isSome_iff_exists.1 c6
     unfold zC6 at hcs
     obtain ⟨cc,hcc,hcs⟩:=Option.bind_eq_some_iff.1 hcs
     split at hcs
     ·rename_i hle
      obtain ⟨C,t',fz,hw,hcr⟩:=zJf st hb hcc
      have hsz:=hcr.2.1
      have e1:=zM6 m.toNat l.toNat d.size (by omega)
      have e2 : m.toNat * d.size ≤ n * d.size:=Nat.mul_le_mul_right _ (by omega)
      refine ⟨_,?_,.sl (a:=if m.toNat = l.toNat then ⟨ent.blk,ent.base + off,none⟩ else ⟨ent.blk,ent.base + (off + l.toNat * d.size),none⟩) (cap:=m.toNat - l.toNat) hb ?_ (by omega) (Nat.le_refl _) (fun _=>rfl) (by omega)⟩
      ·simp only [Instr.sliceAt,Sem.run_bind,run_underlying hu,Result.andThen_ok,Instr.sureAddr,Sem.run_pure,hb',k.run_size,zFi,Nat.add_assoc]
      ·by_cases hq : m.toNat = l.toNat
       ·exact .inr (by omega)
       ·rw [if_neg hq]; exact .inl rfl
     ·cases hcs
   ·cases hv
  ·cases hv
 ·rename_i e hu
  replace hv:=Option.bind_eq_some_iff.1 hv; obtain ⟨d,hd,hv⟩:=hv
  obtain ⟨i',z,ud,k⟩:=zD6 hd
  unfold zDa at hv
  split at hv
  ·replace hv:=Option.bind_eq_some_iff.1 hv; obtain ⟨l,hl,hv⟩:=hv
   replace hv:=Option.bind_eq_some_iff.1 hv; obtain ⟨u,hu',hv⟩:=hv
   replace hv:=Option.bind_eq_some_iff.1 hv; obtain ⟨m,hm,hv⟩:=hv
   split at hv
   ·rename_i hc
    obtain ⟨hmh,rfl,rfl,rfl⟩:=hc
    injection hv with hv; subst hv
    cases hx
    have hb':=zGy (P:=P) (w:=w) true 0 0 rl rh rm hl hu' hm hmh (by omega) (by omega) (by omega) (by omega)
    refine ⟨.slice none 0 0,?_,.nilSl⟩
    simp only [Instr.sliceAt,Instr.slice,Sem.run_bind,run_underlying hu,Result.andThen_ok,hb',k.run_size,Sem.run_pure,Int.toNat_zero,Option.map_none,if_true,Nat.sub_self]
   ·cases hv
  ·rename_i b off sz len cp ex
   split at hv
   ·cases hv
   ·rename_i hsz
    have hsz : sz = d.size:=by omega
    subst hsz
    replace hv:=Option.bind_eq_some_iff.1 hv; obtain ⟨l,hl,hv⟩:=hv
    replace hv:=Option.bind_eq_some_iff.1 hv; obtain ⟨u,hu',hv⟩:=hv
    obtain ⟨ent,a,cap,rfl,hb,ha,g1,g2,g3,g4⟩:=hx.sl_inv
    have key : ∀ (m : Nat),l.toNat ≤ m → m ≤ cap → ((if m = l.toNat then a else a.add (l.toNat * d.size)) = ⟨ent.blk,ent.base + (off + l.toNat * d.size),none⟩ ∨ m - l.toNat = 0) ∧ ent.base + (off + l.toNat * d.size) + (m - l.toNat) * d.size ≤ ent.size:=by
     intro m h1 h2
     have e1:=zM6 m l.toNat d.size h1
     have e2 : m * d.size ≤ cap * d.size:=Nat.mul_le_mul_right _ h2
     refine ⟨?_,by omega⟩
     by_cases hq : m = l.toNat
     ·exact .inr (by omega)
     ·rcases ha with rfl | hc
      ·rw [if_neg hq,zFi,Nat.add_assoc]; exact .inl rfl
      ·omega
    split at hv
    ·split at hv
     ·rename_i hc
      obtain ⟨c1,c2,c3⟩:=hc
      injection hv with hv; subst hv
      cases rm
      have hb':=zGy (P:=P) (w:=w) true len cap rl rh ORel.none hl hu' (m:=cap) rfl (by simp) c1 c2 (by omega) (by omega)
      obtain ⟨k1,k2⟩:=key cap (by omega) (Nat.le_refl _)
      refine ⟨_,?_,.sl (a:=if cap = l.toNat then a else a.add (l.toNat * d.size)) (cap:=cap - l.toNat) hb k1 (by omega) (by omega) (fun hq=>by have:=g3 hq; omega) k2⟩
      simp only [Instr.sliceAt,Instr.slice,Sem.run_bind,run_underlying hu,Result.andThen_ok,hb',k.run_size,Sem.run_pure,Int.toNat_natCast]
      congr 2
      split <;> rfl
     ·cases hv
    ·rename_i mv
     replace hv:=Option.bind_eq_some_iff.1 hv; obtain ⟨m,hm,hv⟩:=hv
     split at hv
     ·rename_i hc
      obtain ⟨c0,c1,c2,c3,c4⟩:=hc
      injection hv with hv; subst hv
      have hm' : asI (some mv) cap = some m:=by
       rcases zHr rm hm with ⟨h,_,_⟩ | ⟨km,h,_⟩
       ·cases h
       ·rw [h]; rfl
      have hb':=zGy (P:=P) (w:=w) true len cap rl rh rm hl hu' hm' (fun _=>c0) c1 c2 c3 (by omega)
      obtain ⟨k1,k2⟩:=key m.toNat (by omega) (by omega)
      refine ⟨_,?_,.sl (a:=if m.toNat = l.toNat then a else a.add (l.toNat * d.size)) (cap:=m.toNat - l.toNat) hb k1 (by omega) (by omega) (fun _=>rfl) k2⟩
      simp only [Instr.sliceAt,Instr.slice,Sem.run_bind,run_underlying hu,Result.andThen_ok,hb',k.run_size,Sem.run_pure]
      congr 2
      split <;> rfl
     ·cases hv
  ·cases hv
 ·cases hv
end Go.Proofs.YtbmmnfeeapnhkaaGreat.Eng
end
section
namespace Go.Proofs.YtbmmnfeeapnhkaaGreat.Eng
open Go
theorem St.regrow {φ : Ren} {h : zAa} {w : World} (s : St φ h w) {b : Nat} {e : Ent} {bs : List AV} (hb : φ b = some e) (hk : h[b]? = some (.rw bs)) {cs : List AV} {base : Nat} {C : Array Value} {t : TypeId} {fz : Nat × Nat} (hlo : Lo fz C.size)
  (hr : ∀ ψ : Ren,(∀ b e,φ b = some e → ψ b = some e) → zDq ψ cs ⟨e.blk,base,e.size⟩ C) :
  St (φ.put h.length ⟨e.blk,base,e.size⟩) (h.set b .dead ++ [.rw cs]) { w with heap:=w.heap.setIfInBounds e.blk (.cells C t fz) } ∧
  Ext φ h w (φ.put h.length ⟨e.blk,base,e.size⟩) (h.set b .dead ++ [.rw cs]) { w with heap:=w.heap.setIfInBounds e.blk (.cells C t fz) }:=by
 obtain ⟨s1,x1⟩:=St.turn s hb hk rfl (k':=.dead) (o':=.cells C t fz) trivial rfl (fun L hL=>by cases hL)
 have hlen : (h.set b .dead).length = h.length:=by simp
 have hwlt:=s.wlt hb
 have hblt:=s.lt hb
 have hsub : ∀ c f,φ c = some f → (φ.put h.length ⟨e.blk,base,e.size⟩) c = some f:=fun c f hc=>by
  rw [Ren.put_other _ _ (Nat.ne_of_lt (s.lt hc))]; exact hc
 have hcase : ∀ c f,(φ.put h.length ⟨e.blk,base,e.size⟩) c = some f → (c = h.length ∧ f = ⟨e.blk,base,e.size⟩) ∨ (c < h.length ∧ φ c = some f):=fun c f hc=>by
  by_cases hx : c = h.length
  ·subst hx; rw [Ren.put_same] at hc; injection hc with hc; exact .inl ⟨rfl,hc.symm⟩
  ·rw [Ren.put_other _ _ hx] at hc; exact .inr ⟨s.lt hc,hc⟩
 have hget : ∀ c,c < h.length → (h.set b .dead ++ [.rw cs])[c]? = (h.set b .dead)[c]?:=fun c hc=>List.getElem?_append_left (by rw [hlen]; exact hc)
 have hfree : ∀ c f k,φ c = some f → (h.set b .dead)[c]? = some k → k.alive = true → f.blk ≠ e.blk:=by
  intro c f k hc hk' ha
  by_cases hx : c = b
  ·subst hx; rw [List.getElem?_set_self hblt] at hk'; injection hk' with hk'; subst hk'; cases ha
  ·rw [List.getElem?_set_ne (fun q=>hx q.symm)] at hk'
   exact fun hq=>s.inj b c e f _ _ hb hc hk hk' rfl ha (fun q=>hx q.symm) hq.symm
 refine ⟨⟨?_,?_⟩,?_⟩
 ·intro c f hc
  rcases hcase c f hc with ⟨rfl,rfl⟩ | ⟨hlt,hc'⟩
  ·exact ⟨.rw cs,.cells C t fz,by rw [← hlen]; simp,by simp [hwlt],C,t,fz,rfl,hlo,hr _ hsub⟩
  ·obtain ⟨k',o',h1,h2,h3⟩:=s1.dom c f hc'
   exact ⟨k',o',by rw [hget c hlt]; exact h1,h2,h3.mono hsub⟩
 ·intro c c' f f' k1 k2 hc hc' hk1 hk2 ho ha hne
  rcases hcase c f hc with ⟨rfl,rfl⟩ | ⟨hlt,hc1⟩
  ·rcases hcase c' f' hc' with ⟨rfl,rfl⟩ | ⟨hlt',hc1'⟩
   ·exact absurd rfl hne
   ·rw [hget c' hlt'] at hk2
    exact fun hq=>hfree c' f' k2 hc1' hk2 ha hq.symm
  ·rw [hget c hlt] at hk1
   rcases hcase c' f' hc' with ⟨rfl,rfl⟩ | ⟨hlt',hc1'⟩
   ·exact fun hq=>hfree c f k1 hc1 hk1 (ABlk.alive_of_own ho) hq
   ·rw [hget c' hlt'] at hk2
    exact s1.inj c c' f f' k1 k2 hc1 hc1' hk1 hk2 ho ha hne
 ·refine ⟨by simp,by simp,rfl,rfl,rfl,fun c hc=>Ren.put_other _ _ (Nat.ne_of_lt hc),fun c hc hn=>?_,?_,fun r hr hn=>?_,fun c L hL=>?_⟩
  ·rw [hget c hc]; exact x1.afr c hc hn
  ·rintro r hr' ⟨c,f,k1,hc,rfl,hk1,ho⟩
   rcases hcase c f hc with ⟨rfl,rfl⟩ | ⟨hlt,hc'⟩
   ·exact ⟨b,e,_,hb,rfl,hk,rfl⟩
   ·rw [hget c hlt] at hk1
    exact x1.im f.blk hr' ⟨c,f,k1,hc',rfl,hk1,ho⟩
  ·exact x1.cfr r hr hn
  ·obtain ⟨L',hL'⟩:=x1.lp c L hL
   exact ⟨L',by rw [hget c (List.getElem?_eq_some_iff.1 hL).1]; exact hL'⟩
theorem src_ok {P : Program} {φ : Ren} {h : zAa} {w : World} (s : St φ h w) {y : AV} {cy : Value} (hy : VRel φ y cy) {m n sz : Nat} (hm : zFm y = some m) (hn : n ≤ m) {cs : List AV} (hc : zBx sz n y h = some cs) :
  (∀ w1 : World,(Builtin.lenOf cy).run P w1 = .ok m w1) ∧ ∃ vs : List Value,(∀ w1 : World,w1.heap = w.heap → (Builtin.firstCells sz n cy).run P w1 = .ok vs.toArray w1) ∧ VRels φ cs vs ∧ cs.length = n * sz:=by
 unfold zFm at hm
 split at hm
 ·injection hm with hm; subst hm
  cases hy
  simp only [zBx,Option.some.injEq] at hc
  subst hc
  have : n = 0:=by omega
  subst this
  exact ⟨fun w1=>rfl,[],fun w1 _=>rfl,.nil,by simp⟩
 ·rename_i b off sz' len cp ex
  injection hm with hm; subst hm
  simp only [zBx] at hc
  split at hc
  ·rename_i hsz; subst hsz
   obtain ⟨a,cap,vs,rfl,r1,r2,r3⟩:=zE4 (P:=P) s hy hn hc
   exact ⟨fun w1=>rfl,vs,r1,r2,r3⟩
  ·cases hc
 ·rename_i st
  injection hm with hm; subst hm
  cases hy
  simp only [zBx] at hc
  split at hc
  ·rename_i hsz; subst hsz
   injection hc with hc; subst hc
   refine ⟨fun w1=>rfl,(st.data.toList.take n).map fun b=>.int .u8 b.toNat,fun w1 _=>?_,?_,?_⟩
   ·simp only [Builtin.firstCells,Sem.run_pure]
    congr 1
    apply Array.ext'
    have e : (st.extract 0 n).data.toList = st.data.toList.take n:=by
     simp [ByteArray.data_extract,List.extract_eq_take_drop]
    simp only [Array.toList_map,e]
   ·refine VRels.of_get (by simp) fun i a ha=>?_
    rw [List.getElem?_map] at ha ⊢
    obtain ⟨x,hx,rfl⟩:=Option.map_eq_some_iff.1 ha
    exact ⟨_,by rw [hx]; rfl,.int _ _⟩
   ·simp only [List.length_map,List.length_take,Array.length_toList,Nat.mul_one]
    have : st.size = st.data.size:=rfl
    omega
  ·cases hc
 ·cases hm
theorem zJr {P : Program} {φ : Ren} {h h' : zAa} {w : World} (s : St φ h w) {d : TyD} {x v : AV} {cx : Value} (hx : VRel φ x cx) {k : Nat} {cs : List AV} {vs : List Value} (hcs : VRels φ cs vs) (hlen : cs.length = k * d.size)
  (hv : zDd d x k cs h = some (v,h')) : ∃ base len cap,cx = .slice base len cap ∧
  ((k = 0 ∧ len ≤ cap ∧ v = x ∧ h' = h) ∨
   (len + k ≤ cap ∧ ∃ a w' φ',base = some a ∧ (storeCells (a.add (len * d.size)) vs).run P w = .ok () w' ∧ VRel φ' v (.slice base (len + k) cap) ∧ St φ' h' w' ∧ Ext φ h w φ' h' w') ∨
   (cap < len + k ∧ (len + k) * d.bytes ≤ roomy ∧ 1 ≤ d.bytes ∧ ∃ old : List Value,(∀ w1 : World,w1.heap = w.heap → (Builtin.firstCells d.size len cx).run P w1 = .ok old.toArray w1) ∧
    ∀ (newCap : Nat) (rest : Array Value) (t : TypeId),len + k ≤ newCap → rest.size = (newCap - (len + k)) * d.size →
     ∃ φ',VRel φ' v (.slice (some ⟨w.heap.size,0,none⟩) (len + k) newCap) ∧ St φ' h' (w.drew.alloc (.cells (old.toArray ++ vs.toArray ++ rest) t)) ∧ Ext φ h w φ' h' (w.drew.alloc (.cells (old.toArray ++ vs.toArray ++ rest) t)))):=by
 have hvl:=hcs.length_eq
 unfold zDd at hv
 split at hv
 ·cases hx
  refine ⟨none,0,0,rfl,?_⟩
  split at hv
  ·rename_i hk
   injection hv with hv; injection hv with h1 h2; subst h1; subst h2
   exact .inl ⟨hk,Nat.le_refl _,rfl,rfl⟩
  ·rename_i hk
   split at hv
   ·rename_i hc
    injection hv with hv; injection hv with h1 h2; subst h1; subst h2
    refine .inr (.inr ⟨by omega,by rw [Nat.zero_add]; exact hc.2.2,hc.2.1,[],fun w1 _=>rfl,?_⟩)
    intro newCap rest t hn hr
    rw [Nat.zero_add] at hn hr ⊢
    have e1:=zM6 newCap k d.size hn
    have hrel : VRels φ cs ((([] : List Value).toArray ++ vs.toArray ++ rest).toList.take cs.length):=by
     have : (([] : List Value).toArray ++ vs.toArray ++ rest).toList = vs ++ rest.toList:=by simp
     rw [this,hvl,List.take_left]; exact hcs
    obtain ⟨φ',r1,r2,r3⟩:=zH9 s.drew hrel t d.size k k false newCap (Nat.le_refl _) hn (fun h=>by cases h) (by simp only [Array.size_append,List.size_toArray,List.length_nil]; omega)
    exact ⟨φ',r1,r2,(Ext.drew φ h w).trans r3⟩
   ·cases hv
 ·rename_i b off sz len cp ex
  split at hv
  ·cases hv
  ·rename_i hsz
   have hsz1 : sz = d.size:=by omega
   have hsz0 : sz ≠ 0:=by omega
   clear hsz
   obtain ⟨e,a,cap,rfl,hb,ha,g1,g2,g3,g4⟩:=hx.sl_inv
   refine ⟨some a,len,cap,rfl,?_⟩
   split at hv
   ·rename_i hk
    injection hv with hv; injection hv with h1 h2; subst h1; subst h2
    exact .inl ⟨hk,by omega,rfl,rfl⟩
   ·rename_i hk
    split at hv
    ·rename_i hroom
     obtain ⟨h2,hw2,heq⟩:=Option.map_eq_some_iff.1 hv
     injection heq with h1 h3; subst h1; subst h3
     have hcap : cap ≠ 0:=by omega
     have ha' : a = ⟨e.blk,e.base + off,none⟩:=ha.resolve_right hcap
     subst ha'
     obtain ⟨w',r1,r2,r3⟩:=zH0 (P:=P) s hb hcs hw2
     refine .inr (.inl ⟨by omega,_,w',φ,rfl,?_,.sl hb (.inl rfl) hroom g2 g3 g4,r2,r3⟩)
     rw [zFi,Nat.add_assoc,← hsz1]; exact r1
    ·rename_i hnr
     split at hv
     ·rename_i hby
      replace hv:=Option.bind_eq_some_iff.1 hv
      obtain ⟨old,hold,hv⟩:=hv
      obtain ⟨a2,cap2,ov,heq,q1,q2,q3⟩:=zE4 (P:=P) s hx (Nat.le_refl _) hold
      injection heq with heq1 heq2 heq3
      injection heq1 with heq1
      subst heq1; subst heq3
      have hol:=q2.length_eq
      have hfirst : ∀ w1 : World,w1.heap = w.heap → (Builtin.firstCells d.size len (.slice (some a) len cap)).run P w1 = .ok ov.toArray w1:=fun w1 hw1=>by rw [← hsz1]; exact q1 w1 hw1
      have hon : VRels φ (old ++ cs) (ov ++ vs):=q2.append hcs
      have grow : ∀ (φ1 : Ren) (h1 : zAa) (w1 : World),St φ1 h1 w1 → VRels φ1 (old ++ cs) (ov ++ vs) → ∀ (newCap : Nat) (rest : Array Value) (t : TypeId),len + k ≤ newCap → rest.size = (newCap - (len + k)) * d.size →
        ∃ φ',VRel φ' (.sl h1.length 0 sz (len + k) (len + k) false) (.slice (some ⟨w1.heap.size,0,none⟩) (len + k) newCap) ∧ St φ' (h1 ++ [.rw (old ++ cs)]) (w1.drew.alloc (.cells (ov.toArray ++ vs.toArray ++ rest) t)) ∧
         Ext φ1 h1 w1 φ' (h1 ++ [.rw (old ++ cs)]) (w1.drew.alloc (.cells (ov.toArray ++ vs.toArray ++ rest) t)):=by
       intro φ1 h1 w1 s1 hon1 newCap rest t hn hr
       have e1:=zM6 newCap (len + k) d.size hn
       have e2 : (len + k) * d.size = len * d.size + k * d.size:=Nat.add_mul _ _ _
       have hrel : VRels φ1 (old ++ cs) ((ov.toArray ++ vs.toArray ++ rest).toList.take (old ++ cs).length):=by
        have : (ov.toArray ++ vs.toArray ++ rest).toList = (ov ++ vs) ++ rest.toList:=by simp
        rw [this,hon1.length_eq,List.take_left]; exact hon1
       obtain ⟨φ',r1,r2,r3⟩:=zH9 s1.drew hrel t sz (len + k) (len + k) false newCap (Nat.le_refl _) hn (fun h=>by cases h) (by
        simp only [Array.size_append,List.size_toArray]; rw [hsz1] at q3 ⊢; omega)
       exact ⟨φ',r1,r2,(Ext.drew φ1 h1 w1).trans r3⟩
      split at hv
      ·rename_i hex
       injection hv with hv; injection hv with h1 h2; subst h1; subst h2
       have:=g3 hex
       exact .inr (.inr ⟨by omega,hby.2,hby.1,ov,hfirst,fun newCap rest t hn hr=>grow φ h w s hon newCap rest t hn hr⟩)
      ·split at hv
       ·rename_i bs hbk
        split at hv
        ·rename_i hbl
         injection hv with hv; injection hv with h1 h2; subst h1; subst h2
         by_cases hfit : len + k ≤ cap
         ·refine .inr (.inl ⟨hfit,?_⟩)
          have hcap : cap ≠ 0:=by omega
          have ha' : a = ⟨e.blk,e.base + off,none⟩:=ha.resolve_right hcap
          subst ha'
          obtain ⟨kk,o,hk1,ho,hr⟩:=s.dom b e hb
          obtain rfl : ABlk.rw bs = kk:=Option.some.inj (hbk.symm.trans hk1)
          obtain ⟨C,t,fz,rfl,hlo,hcr⟩:=hr
          have e2 : (len + k) * sz = len * sz + k * sz:=Nat.add_mul _ _ _
          have e3 : (len + k) * sz ≤ cap * sz:=Nat.mul_le_mul_right _ hfit
          have hvk : vs.length = k * sz:=by rw [← hvl,hlen,hsz1]
          have hsize:=hcr.1
          have hst:=zEc P e.blk (e.base + off + len * sz) t fz hlo vs 0 C w ho rfl (by rw [Nat.add_zero,hsize]; omega) (zHm hcs hbl.2)
          rw [Nat.add_zero,zJh w e.blk C _ t fz ho] at hst
          have hold2 : old = (bs.drop off).take (len * sz) ∧ off + len * sz ≤ bs.length:=by
           unfold zC6 cellsOf at hold
           rw [hbk] at hold
           simp only [Option.bind_some] at hold
           split at hold
           ·rename_i hle; injection hold with hold; exact ⟨hold.symm,hle⟩
           ·cases hold
          obtain ⟨t1,t2⟩:=St.regrow s hb hbk (cs:=old ++ cs) (base:=e.base + off) (t:=t) (fz:=fz) (C:=(C.toList.take (e.base + off + len * sz) ++ vs ++ C.toList.drop (e.base + off + len * sz + vs.length)).toArray) (by
           rw [show (C.toList.take (e.base + off + len * sz) ++ vs ++ C.toList.drop (e.base + off + len * sz + vs.length)).toArray.size = C.size by simp only [List.size_toArray,List.length_append,List.length_take,List.length_drop,Array.length_toList]; omega]
           exact hlo) (fun ψ hψ=>by
           refine ⟨?_,?_,?_⟩
           ·simp only [List.size_toArray,List.length_append,List.length_take,List.length_drop,Array.length_toList]; omega
           ·simp only [List.length_append]; rw [q3,hlen,← hsz1]; omega
           ·intro i c hi
            rw [List.getElem?_append] at hi
            split at hi
            ·rename_i hlt
             rw [q3] at hlt
             rw [hold2.1,List.getElem?_take,if_pos hlt,List.getElem?_drop] at hi
             obtain ⟨u,hu,hur⟩:=hcr.2.2 _ _ hi
             refine ⟨u,?_,hur.mono hψ⟩
             rw [List.getElem?_toArray,List.append_assoc,List.getElem?_append_left (by simp only [List.length_take,Array.length_toList]; omega),List.getElem?_take,if_pos (by simp only; omega),Array.getElem?_toList]
             rw [← hu]; congr 1; simp only; omega
            ·rename_i hlt
             rw [q3] at hlt hi
             obtain ⟨u,hu,hur⟩:=hcs.get hi
             have hil:=(List.getElem?_eq_some_iff.1 hu).1
             refine ⟨u,?_,hur.mono hψ⟩
             rw [List.getElem?_toArray,List.append_assoc,List.getElem?_append_right (by simp only [List.length_take,Array.length_toList]; omega),List.getElem?_append_left (by simp only [List.length_take,Array.length_toList]; omega)]
             rw [← hu]; congr 1; simp only [List.length_take,Array.length_toList]; omega)
          refine ⟨_,_,_,rfl,by rw [zFi,← hsz1]; exact hst,?_,t1,t2⟩
          refine .sl (e:=⟨e.blk,e.base + off,e.size⟩) (Ren.put_same _ _ _) (.inl rfl) (Nat.le_refl _) hfit (fun h=>by cases h) ?_
          simp only [Nat.add_zero]; omega
         ·obtain ⟨kk,o,hk1,ho,hr⟩:=s.dom b e hb
          have hw0 : w = { w with heap:=w.heap.setIfInBounds e.blk o }:=by
           have : w.heap.setIfInBounds e.blk o = w.heap:=by
            apply Array.ext_getElem?
            intro j
            rw [Array.getElem?_setIfInBounds]
            by_cases hj : e.blk = j
            ·subst hj
             have hlt:=(Array.getElem?_eq_some_iff.1 ho).1
             rw [if_pos rfl,if_pos hlt,ho]
            ·rw [if_neg hj]
           rw [this]
          obtain ⟨s2,x2⟩:=St.turn s hb hbk rfl (k':=.dead) (o':=o) trivial hw0 (fun L hL=>by cases hL)
          refine .inr (.inr ⟨by omega,hby.2,hby.1,ov,hfirst,fun newCap rest t hn hr=>?_⟩)
          obtain ⟨φ',r1,r2,r3⟩:=grow φ (h.set b .dead) w s2 hon newCap rest t hn hr
          rw [List.length_set] at r1
          exact ⟨φ',r1,r2,x2.trans r3⟩
        ·cases hv
       ·cases hv
     ·cases hv
 ·cases hv
end Go.Proofs.YtbmmnfeeapnhkaaGreat.Eng
end
