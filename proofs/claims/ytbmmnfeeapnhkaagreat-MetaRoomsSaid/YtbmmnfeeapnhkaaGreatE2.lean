/- An evaluator over abstract values, proved sound against the machine: what it says of a call, the call does. No condition. -/
import Derived.Test.YtbmmnfeeapnhkaaGreatE1
import Derived.LoopNIn
import Derived.RangeFuncNested
section
namespace Go.Proofs.YtbmmnfeeapnhkaaGreat.Eng
open Go
def BRes (P : Program) (φ : Ren) (h : zAa) (w : World) (s : Sem Value) (v : AV) (h' : zAa) : Prop :=
 ∃ cv w' φ',s.run P w = .ok cv w' ∧ VRel φ' v cv ∧ St φ' h' w' ∧ Ext φ h w φ' h' w'
theorem zHa {P : Program} {w : World} (need old : Nat) (e : TypeId) : (choose (.appendCap need old e)).run P w = .ok (grownCap w need old e) w.drew:=by
 simp only [choose,Sem.run,Question.forced,Bool.false_eq_true,if_false,grownCap,World.drew]
theorem zKm {P : Program} {w : World} (n : Nat) : (askRoom n).run P w = .ok () w:=by unfold askRoom; split <;> rfl
theorem zG7 (z : Array Value) (n : Nat) : (Builtin.zeroCells z n).size = n * z.size:=by simp [Builtin.zeroCells]
theorem zUq {P : Program} {φ : Ren} {h h' : zAa} {w : World} (s : St φ h w) {t u e ty : TypeId} {d : TyD} {du : TypeDesc} (ht : P.underlying t = some (.slice e)) (hu : P.underlying u = some du) (hdu : ∀ k,du ≠ .int k) (hd : tyD P e = some d)
  {x y v : AV} {cx cy : Value} (hx : VRel φ x cx) (hy : VRel φ y cy) {k : Nat} {cs : List AV} (hk : zFm y = some k) (hc : zBx d.size k y h = some cs) (hv : zDd d x k cs h = some (v,h')) :
  BRes P φ h w (Builtin.append_ #[t,u] ty #[cx,cy]) v h':=by
 obtain ⟨i,z,ud,K⟩:=zD6 hd
 obtain ⟨hlen,vs,hvs,hrel,hcl⟩:=src_ok (P:=P) s hy hk (Nat.le_refl _) hc
 have hzs : z.cells.size = d.size:=by rw [K.size,K.zsize]
 have hflag : (match du with | .int _=>true | _=>false) = false:=by
  cases du <;> first | rfl | exact absurd rfl (hdu _)
 obtain ⟨base,len,cap,rfl,hcase⟩:=zJr (P:=P) s hx hrel hcl hv
 have head : ∀ w1 : World,(sizeOf e).run P w1 = .ok d.size w1:=fun w1=>K.run_size w1
 rcases hcase with ⟨rfl,hle,rfl,rfl⟩ | ⟨hle,a,w',φ',rfl,hst,r1,r2,r3⟩ | ⟨hlt,hby,hb1,old,hold,hgrow⟩
 ·have hv0 : vs = []:=List.eq_nil_of_length_eq_zero (by rw [← hrel.length_eq,hcl,Nat.zero_mul])
  subst hv0
  refine ⟨.slice base len cap,w,φ,?_,hx,s,Ext.refl _ _ _⟩
  unfold Builtin.append_
  simp only [List.getElem?_toArray,List.getElem?_cons_zero,List.getElem?_cons_succ,Sem.run_bind,run_underlying ht,Result.andThen_ok,head,run_underlying hu,Sem.run_pure,Bool.false_eq_true,if_false,hlen,Nat.add_zero]
  rw [if_pos hle]
  simp only [Bool.not_false,if_true,Sem.run_bind,hvs w rfl,Result.andThen_ok]
  cases base with
  | none=>rfl
  | some a=>rfl
 ·refine ⟨_,w',φ',?_,r1,r2,r3⟩
  unfold Builtin.append_
  simp only [List.getElem?_toArray,List.getElem?_cons_zero,List.getElem?_cons_succ,Sem.run_bind,run_underlying ht,Result.andThen_ok,head,run_underlying hu,Sem.run_pure,Bool.false_eq_true,if_false,hlen]
  rw [if_pos hle]
  simp only [Bool.not_false,if_true,Sem.run_bind,hvs w rfl,Result.andThen_ok,hst,Sem.run_pure]
 ·have hbi : d.bytes = i.bytes:=K.bytes
  have hge:=grownCap_ge w (len + k) cap e
  have hfit:=growslice_fits (old:=cap) (need:=len + k) (bytes:=i.bytes) hlt (by rw [← hbi]; exact hby)
  obtain ⟨φ',r1,r2,r3⟩:=hgrow (grownCap w (len + k) cap e) (Builtin.zeroCells z.cells (grownCap w (len + k) cap e - (len + k))) e hge (by rw [zG7,hzs])
  refine ⟨_,_,φ',?_,r1,r2,r3⟩
  unfold Builtin.append_
  simp only [List.getElem?_toArray,List.getElem?_cons_zero,List.getElem?_cons_succ,Sem.run_bind,run_underlying ht,Result.andThen_ok,head,run_underlying hu,Sem.run_pure,Bool.false_eq_true,if_false,hlen]
  rw [if_neg (by omega)]
  simp only [Sem.run_bind,K.run_info,Result.andThen_ok]
  rw [if_neg (by simp; omega)]
  simp only [Sem.run_bind,K.run_info,Result.andThen_ok]
  rw [if_neg (by omega)]
  simp only [Sem.run_bind,zHa,Result.andThen_ok,K.run_info,zKm,hold w.drew rfl,Bool.not_false,if_true,hvs w.drew rfl,K.run_zero,zDy,Sem.run_pure]
  rfl
theorem zRe {P : Program} {φ : Ren} {h h' : zAa} {w : World} (s : St φ h w) {t u e ty : TypeId} {d : TyD} {uk : IntKind} (ht : P.underlying t = some (.slice e)) (hu : P.underlying u = some (.int uk)) (hd : tyD P e = some d)
  {x v : AV} {cx : Value} (hx : VRel φ x cx) {yk : IntKind} {n : Int} (h0 : 0 ≤ n) (hb1 : 1 ≤ d.bytes) (hroom : n * d.bytes ≤ roomy) (hv : zDd d x n.toNat (List.replicate n.toNat d.zero).flatten h = some (v,h')) :
  BRes P φ h w (Builtin.append_ #[t,u] ty #[cx,.int yk n]) v h':=by
 obtain ⟨i,z,ud,K⟩:=zD6 hd
 have hzs : z.cells.size = d.size:=by rw [K.size,K.zsize]
 have hbi : d.bytes = i.bytes:=K.bytes
 have hrel:=zDg (K.zrel φ) n.toNat
 have hcl : (List.replicate n.toNat d.zero).flatten.length = n.toNat * d.size:=by simp [K.zlen]
 have hnb : n ≤ 140737488355328:=by
  have h1 : (1 : Int) ≤ d.bytes:=by omega
  have h2 : n * 1 ≤ n * d.bytes:=Int.mul_le_mul_of_nonneg_left h1 h0
  simp only [roomy] at hroom
  omega
 have hwn : IntKind.i64.wrap n = n:=by simp [IntKind.wrap,IntKind.bits,IntKind.signed]; omega
 have hzeros : ∀ w1 : World,(if n.toNat * d.size = 0 then (pure #[] : Sem (Array Value)) else do pure (Builtin.zeroCells (← zeroValue e).cells n.toNat)).run P w1 = .ok ((Array.range (n.toNat * z.cells.size)).map (fun i=>z.cells[i % z.cells.size]!)) w1:=by
  intro w1
  by_cases hq : n.toNat * d.size = 0
  ·rw [if_pos hq,hzs,hq]; simp
  ·rw [if_neg hq]; simp only [Sem.run_bind,K.run_zero,Result.andThen_ok,Sem.run_pure]; rfl
 have hbn : ¬ (n * (i.bytes : Int) > 2 ^ 48):=by rw [← hbi]; simp only [roomy] at hroom; omega
 obtain ⟨base,len,cap,rfl,hcase⟩:=zJr (P:=P) s hx hrel hcl hv
 have head : ∀ w1 : World,(sizeOf e).run P w1 = .ok d.size w1:=fun w1=>K.run_size w1
 have hasi : ∀ w1 : World,(asInt (.int yk n)).run P w1 = .ok n w1:=fun w1=>rfl
 rcases hcase with ⟨hn0,hle,rfl,rfl⟩ | ⟨hle,a,w',φ',rfl,hst,r1,r2,r3⟩ | ⟨hlt,hby,hb1,old,hold,hgrow⟩
 ·refine ⟨.slice base len cap,w,φ,?_,hx,s,Ext.refl _ _ _⟩
  unfold Builtin.append_
  simp only [List.getElem?_toArray,List.getElem?_cons_zero,List.getElem?_cons_succ,Sem.run_bind,run_underlying ht,Result.andThen_ok,head,run_underlying hu,Sem.run_pure,if_true,hasi,hwn]
  rw [if_neg (by omega)]
  simp only [Sem.run_bind,K.run_info,Result.andThen_ok]
  rw [if_neg hbn]
  simp only [Sem.run_bind,Sem.run_pure,Result.andThen_ok,hn0,Nat.add_zero]
  rw [if_pos hle]
  simp only [Bool.not_true,Bool.false_eq_true,if_false,Nat.zero_mul,if_true,Sem.run_bind,Sem.run_pure,Result.andThen_ok]
  cases base with
  | none=>rfl
  | some a=>rfl
 ·refine ⟨_,w',φ',?_,r1,r2,r3⟩
  unfold Builtin.append_
  simp only [List.getElem?_toArray,List.getElem?_cons_zero,List.getElem?_cons_succ,Sem.run_bind,run_underlying ht,Result.andThen_ok,head,run_underlying hu,Sem.run_pure,if_true,hasi,hwn]
  rw [if_neg (by omega)]
  simp only [Sem.run_bind,K.run_info,Result.andThen_ok]
  rw [if_neg hbn]
  simp only [Sem.run_bind,Sem.run_pure,Result.andThen_ok]
  rw [if_pos hle]
  simp only [Bool.not_true,Bool.false_eq_true,if_false,Sem.run_bind,hzeros,Result.andThen_ok,hst,Sem.run_pure]
 ·have hge:=grownCap_ge w (len + n.toNat) cap e
  have hfit:=growslice_fits (old:=cap) (need:=len + n.toNat) (bytes:=i.bytes) hlt (by rw [← hbi]; exact hby)
  obtain ⟨φ',r1,r2,r3⟩:=hgrow (grownCap w (len + n.toNat) cap e) (Builtin.zeroCells z.cells (grownCap w (len + n.toNat) cap e - (len + n.toNat))) e hge (by rw [zG7,hzs])
  refine ⟨_,_,φ',?_,r1,r2,r3⟩
  have hbig : ¬ (((len + n.toNat : Nat) : Int) > IntKind.i64.max):=by
   have h1 : (len + n.toNat) * 1 ≤ (len + n.toNat) * d.bytes:=Nat.mul_le_mul_left _ hb1
   simp only [roomy] at hby
   simp only [IntKind.max,IntKind.signed,IntKind.bits,if_true]
   omega
  unfold Builtin.append_
  simp only [List.getElem?_toArray,List.getElem?_cons_zero,List.getElem?_cons_succ,Sem.run_bind,run_underlying ht,Result.andThen_ok,head,run_underlying hu,Sem.run_pure,if_true,hasi,hwn]
  rw [if_neg (by omega)]
  simp only [Sem.run_bind,K.run_info,Result.andThen_ok]
  rw [if_neg hbn]
  simp only [Sem.run_bind,Sem.run_pure,Result.andThen_ok]
  rw [if_neg (by omega)]
  simp only [Sem.run_bind,K.run_info,Result.andThen_ok]
  rw [if_neg (fun hq=>hbig hq.1)]
  simp only [Sem.run_bind,K.run_info,Result.andThen_ok]
  rw [if_neg (by omega)]
  simp only [Sem.run_bind,zHa,Result.andThen_ok,K.run_info,zKm,hold w.drew rfl,Bool.not_true,Bool.false_eq_true,if_false,hzeros,K.run_zero,zDy,Sem.run_pure]
  rfl
end Go.Proofs.YtbmmnfeeapnhkaaGreat.Eng
end
section
namespace Go.Proofs.YtbmmnfeeapnhkaaGreat.Eng
open Go
theorem copy_ok {P : Program} {φ : Ren} {h h' : zAa} {w : World} (s : St φ h w) {t e ty u : TypeId} {d : TyD} (ht : P.underlying t = some (.slice e)) (hd : tyD P e = some d)
  {x y v : AV} {cx cy : Value} (hx : VRel φ x cx) (hy : VRel φ y cy) (hv : zJc d x y h = some (v,h')) : BRes P φ h w (Builtin.copy_ #[t,u] ty #[cx,cy]) v h':=by
 obtain ⟨i,z,ud,K⟩:=zD6 hd
 unfold zJc at hv
 replace hv:=Option.bind_eq_some_iff.1 hv
 obtain ⟨m,hm,hv⟩:=hv
 have hl0 : ∀ w1 : World,(Builtin.lenOf cy).run P w1 = .ok m w1:=by
  intro w1
  unfold zFm at hm
  split at hm <;> first | (cases hm; done) | skip
  all_goals injection hm with hm; subst hm; cases hy; rfl
 split at hv
 ·injection hv with hv; injection hv with h1 h2; subst h1; subst h2
  cases hx
  have hf : (Builtin.firstCells d.size 0 cy).run P w = .ok #[] w:=by
   unfold zFm at hm
   split at hm <;> first | (cases hm; done) | skip
   ·cases hy; rfl
   ·cases hy; simp [Builtin.firstCells,loadCells,loadCellsFrom]
   ·cases hy
    simp only [Builtin.firstCells,Sem.run_pure]
    congr 1
    simp
  refine ⟨.int .i64 0,w,φ,?_,.int _ _,s,Ext.refl _ _ _⟩
  simp only [Builtin.copy_,List.getElem?_toArray,List.getElem?_cons_zero,List.getElem?_cons_succ,Sem.run_bind,run_underlying ht,Result.andThen_ok,hl0,K.run_size]
  rw [show Nat.min m 0 = 0 from by simp]
  simp only [hf,Result.andThen_ok]
  rfl
 ·rename_i b off sz len lo ex
  split at hv
  ·cases hv
  ·rename_i hsz
   replace hv:=Option.bind_eq_some_iff.1 hv
   obtain ⟨cs,hcs,hv⟩:=hv
   have hsz1 : sz = d.size:=by omega
   subst hsz1
   obtain ⟨hl,vs,hvs,hrel,hcl⟩:=src_ok (P:=P) s hy hm (Nat.min_le_left m len) hcs
   obtain ⟨ent,a,cap,rfl,hb,ha,g1,g2,g3,g4⟩:=hx.sl_inv
   have hmin : Nat.min m len = min m len:=rfl
   split at hv
   ·rename_i h0
    injection hv with hv; injection hv with h1 h2; subst h1; subst h2
    have hv0 : vs = []:=List.eq_nil_of_length_eq_zero (by rw [← hrel.length_eq,hcl,h0,Nat.zero_mul])
    subst hv0
    refine ⟨.int .i64 0,w,φ,?_,.int _ _,s,Ext.refl _ _ _⟩
    simp only [Builtin.copy_,List.getElem?_toArray,List.getElem?_cons_zero,List.getElem?_cons_succ,Sem.run_bind,run_underlying ht,Result.andThen_ok,hl0,K.run_size,hmin,hvs w rfl]
    rw [h0]
    rfl
   ·rename_i h0
    obtain ⟨h2,hw2,heq⟩:=Option.map_eq_some_iff.1 hv
    injection heq with h1 h3; subst h1; subst h3
    have hcap : cap ≠ 0:=by omega
    have ha' : a = ⟨ent.blk,ent.base + off,none⟩:=ha.resolve_right hcap
    subst ha'
    obtain ⟨w',r1,r2,r3⟩:=zH0 (P:=P) s hb hrel hw2
    refine ⟨.int .i64 (min m len : Nat),w',φ,?_,.int _ _,r2,r3⟩
    simp only [Builtin.copy_,List.getElem?_toArray,List.getElem?_cons_zero,List.getElem?_cons_succ,Sem.run_bind,run_underlying ht,Result.andThen_ok,hl0,K.run_size,hmin,hvs w rfl,r1,Sem.run_pure]
    rfl
 ·cases hv
theorem clear_ok {P : Program} {φ : Ren} {h h' : zAa} {w : World} (s : St φ h w) {t e ty : TypeId} {d : TyD} (ht : P.underlying t = some (.slice e)) (hd : tyD P e = some d)
  {x v : AV} {cx : Value} (hx : VRel φ x cx) (hv : zPx d x h = some (v,h')) : BRes P φ h w (Builtin.clear_ #[t] ty #[cx]) v h':=by
 obtain ⟨i,z,ud,K⟩:=zD6 hd
 unfold zPx at hv
 split at hv
 ·injection hv with hv; injection hv with h1 h2; subst h1; subst h2
  cases hx
  refine ⟨.tuple #[],w,φ,?_,.tup .nil,s,Ext.refl _ _ _⟩
  simp only [Builtin.clear_,List.getElem?_toArray,List.getElem?_cons_zero,Sem.run_bind,run_underlying ht,Result.andThen_ok]
  rfl
 ·rename_i b off sz len lo ex
  obtain ⟨ent,a,cap,rfl,hb,ha,g1,g2,g3,g4⟩:=hx.sl_inv
  split at hv
  ·rename_i h0
   injection hv with hv; injection hv with h1 h2; subst h1; subst h2
   subst h0
   refine ⟨.tuple #[],w,φ,?_,.tup .nil,s,Ext.refl _ _ _⟩
   simp only [Builtin.clear_,List.getElem?_toArray,List.getElem?_cons_zero,Sem.run_bind,run_underlying ht,Result.andThen_ok]
   rfl
  ·rename_i h0
   split at hv
   ·cases hv
   ·rename_i hsz
    have hsz1 : sz = d.size:=by omega
    subst hsz1
    obtain ⟨h2,hw2,heq⟩:=Option.map_eq_some_iff.1 hv
    injection heq with h1 h3; subst h1; subst h3
    have hcap : cap ≠ 0:=by omega
    have ha' : a = ⟨ent.blk,ent.base + off,none⟩:=ha.resolve_right hcap
    subst ha'
    have hrel:=zDg (K.zrel φ) len
    obtain ⟨w',r1,r2,r3⟩:=zH0 (P:=P) s hb hrel hw2
    obtain ⟨n,rfl⟩ : ∃ n,len = n + 1:=⟨len - 1,by omega⟩
    refine ⟨.tuple #[],w',φ,?_,.tup .nil,r2,r3⟩
    have hz : (Builtin.zeroCells z.cells (n + 1)).toList = ((Array.range ((n + 1) * z.cells.size)).map (fun i=>z.cells[i % z.cells.size]!)).toList:=rfl
    simp only [Builtin.clear_,List.getElem?_toArray,List.getElem?_cons_zero,Sem.run_bind,run_underlying ht,Result.andThen_ok,K.run_zero,hz,r1,Sem.run_pure]
 ·cases hv
theorem zW7 {P : Program} {φ : Ren} {w : World} (k : IntKind) : ∀ {l : List AV} {vs : List Value} (x : Int) {v : AV},VRels φ l vs → maxL k x l = some v → ∃ cv,(vs.foldlM Builtin.max2 (.int k x) : Sem Value).run P w = .ok cv w ∧ VRel φ v cv
 | [],_,x,v,.nil,h=>by simp only [maxL,Option.some.injEq] at h; subst h; exact ⟨_,rfl,.int _ _⟩
 | a :: l,_,x,v,.cons ha ht,h=>by
  unfold maxL at h
  split at h
  ·contradiction
  ·rename_i k2 y r heq
   injection heq with e1 e2; subst e1; subst e2
   cases ha
   obtain ⟨cv,h1,h2⟩:=zW7 k _ ht h
   exact ⟨cv,by simp only [List.foldlM_cons,Builtin.max2,Sem.run_bind,Sem.run_pure,Result.andThen_ok]; exact h1,h2⟩
  ·cases h
theorem zW1 {P : Program} {φ : Ren} {w : World} (k : IntKind) : ∀ {l : List AV} {vs : List Value} (x : Int) {v : AV},VRels φ l vs → minL k x l = some v → ∃ cv,(vs.foldlM Builtin.min2 (.int k x) : Sem Value).run P w = .ok cv w ∧ VRel φ v cv
 | [],_,x,v,.nil,h=>by simp only [minL,Option.some.injEq] at h; subst h; exact ⟨_,rfl,.int _ _⟩
 | a :: l,_,x,v,.cons ha ht,h=>by
  unfold minL at h
  split at h
  ·contradiction
  ·rename_i k2 y r heq
   injection heq with e1 e2; subst e1; subst e2
   cases ha
   obtain ⟨cv,h1,h2⟩:=zW1 k _ ht h
   exact ⟨cv,by simp only [List.foldlM_cons,Builtin.min2,Sem.run_bind,Sem.run_pure,Result.andThen_ok]; exact h1,h2⟩
  ·cases h
theorem arr1 {α : Type} {l : Array α} {x : α} (h : l.toList = [x]) : l = #[x]:=Array.ext' h
theorem arr2 {α : Type} {l : Array α} {x y : α} (h : l.toList = [x,y]) : l = #[x,y]:=Array.ext' h
theorem VRels.one {φ : Ren} {x : AV} {vs : List Value} (h : VRels φ [x] vs) : ∃ v,vs = [v] ∧ VRel φ x v:=by
 cases h with
 | cons h t=>cases t; exact ⟨_,rfl,h⟩
theorem VRels.two {φ : Ren} {x y : AV} {vs : List Value} (h : VRels φ [x,y] vs) : ∃ v u,vs = [v,u] ∧ VRel φ x v ∧ VRel φ y u:=by
 cases h with
 | cons h t=>obtain ⟨u,rfl,hu⟩:=t.one; exact ⟨_,_,rfl,h,hu⟩
theorem len_ok {P : Program} {w : World} {φ : Ren} {t ty : TypeId} {x : AV} {cx : Value} (hx : VRel φ x cx) :
  (∀ s,P.underlying t = some .string → x = .str s → (Builtin.len_ #[t] ty #[cx]).run P w = .ok (.int .i64 s.size) w) ∧
  (∀ n e,P.underlying t = some (.array n e) → (Builtin.len_ #[t] ty #[cx]).run P w = .ok (.int .i64 n) w) ∧
  (∀ e,P.underlying t = some (.slice e) → x = .nilSl → (Builtin.len_ #[t] ty #[cx]).run P w = .ok (.int .i64 0) w) ∧
  (∀ e b o z l c ex,P.underlying t = some (.slice e) → x = .sl b o z l c ex → (Builtin.len_ #[t] ty #[cx]).run P w = .ok (.int .i64 l) w):=by
 refine ⟨?_,?_,?_,?_⟩
 ·intro s hu he; subst he; cases hx; simp [Builtin.len_,run_underlying hu,goInt]
 ·intro n e hu; simp [Builtin.len_,run_underlying hu,goInt]
 ·intro e hu he; subst he; cases hx; simp [Builtin.len_,run_underlying hu,goInt]
 ·intro e b o z l c ex hu he; subst he; cases hx; simp [Builtin.len_,run_underlying hu,goInt]
theorem zUl {P : Program} {φ : Ren} {h h' : zAa} {w : World} (s : St φ h w) {b : Builtin} {ts : Array TypeId} {ty : TypeId} {consts : Array Bool} {xs : List AV} {cxs : Array Value} (hxs : VRels φ xs cxs.toList) {v : AV}
  (hv : zJ7 P b ts.toList xs h = some (v,h')) : zLt φ h w ((builtin b ts ty consts cxs).run P w) v h':=by
 have fin : ∀ {sm : Sem Value},BRes P φ h w sm v h' → zLt φ h w ((do pure (Next.value (← sm)) : Sem Next).run P w) v h':=fun {sm} hb=>by
  obtain ⟨cv,w',φ',r1,r2,r3,r4⟩:=hb
  exact ⟨cv,w',φ',.inl (by simp only [Sem.run_bind,r1,Result.andThen_ok,Sem.run_pure]),r2,r3,r4⟩
 have pureR : ∀ {sm : Sem Value} {cv},sm.run P w = .ok cv w → VRel φ v cv → h' = h → BRes P φ h w sm v h':=fun {sm cv} h1 h2 h3=>⟨cv,w,φ,h1,h2,by rw [h3]; exact s,by rw [h3]; exact Ext.refl _ _ _⟩
 unfold zJ7 at hv
 split at hv
 ·rename_i t x hts
  obtain ⟨cx,hc,hx⟩:=hxs.one
  have e1:=arr1 hts; have e2:=arr1 hc
  subst e1; subst e2
  obtain ⟨l1,l2,l3,l4⟩:=len_ok (P:=P) (w:=w) (t:=t) (ty:=ty) hx
  refine fin ?_
  obtain ⟨y,hy,he⟩:=Option.map_eq_some_iff.1 hv
  injection he with e1 h2; subst e1
  unfold lenV at hy
  split at hy <;> first | (cases hy; done) | skip
  ·rename_i hu; injection hy with hy; subst hy; exact pureR (l1 _ hu rfl) (.int _ _) h2.symm
  ·rename_i hu; injection hy with hy; subst hy; exact pureR (l2 _ _ hu) (.int _ _) h2.symm
  ·rename_i hu; injection hy with hy; subst hy; exact pureR (l3 _ hu rfl) (.int _ _) h2.symm
  ·rename_i hu; injection hy with hy; subst hy; exact pureR (l4 _ _ _ _ _ _ _ hu rfl) (.int _ _) h2.symm
 ·rename_i t x hts
  obtain ⟨cx,hc,hx⟩:=hxs.one
  have e1:=arr1 hts; have e2:=arr1 hc
  subst e1; subst e2
  refine fin ?_
  obtain ⟨y,hy,he⟩:=Option.map_eq_some_iff.1 hv
  injection he with e1 h2; subst e1
  unfold capV at hy
  split at hy <;> first | (cases hy; done) | skip
  ·rename_i hu; injection hy with hy; subst hy; cases hx
   exact pureR (by simp [Builtin.cap_,run_underlying hu,goInt]) (.int _ _) h2.symm
  ·rename_i hu; injection hy with hy; subst hy
   obtain ⟨e,a,cap,rfl,_,_,_,_,g3,_⟩:=hx.sl_inv
   have hcap:=g3 rfl
   subst hcap
   exact pureR (by simp [Builtin.cap_,run_underlying hu,goInt]) (.int _ _) h2.symm
 ·obtain ⟨v',hm,heq⟩:=Option.map_eq_some_iff.1 hv
  injection heq with h1 h2; subst h1
  refine fin ?_
  unfold maxV at hm
  split at hm
  ·cases hl : cxs.toList with
   | nil=>rw [hl] at hxs; cases hxs
   | cons c r =>
    rw [hl] at hxs
    cases hxs with
    | cons ha ht =>
     cases ha
     obtain ⟨cv,r1,r2⟩:=zW7 (P:=P) (w:=w) _ _ ht hm
     exact pureR (by simp only [Builtin.max_,hl]; exact r1) r2 h2.symm
  ·cases hm
 ·obtain ⟨v',hm,heq⟩:=Option.map_eq_some_iff.1 hv
  injection heq with h1 h2; subst h1
  refine fin ?_
  unfold minV at hm
  split at hm
  ·cases hl : cxs.toList with
   | nil=>rw [hl] at hxs; cases hxs
   | cons c r =>
    rw [hl] at hxs
    cases hxs with
    | cons ha ht =>
     cases ha
     obtain ⟨cv,r1,r2⟩:=zW1 (P:=P) (w:=w) _ _ ht hm
     exact pureR (by simp only [Builtin.min_,hl]; exact r1) r2 h2.symm
  ·cases hm
 ·rename_i t u x y hts
  obtain ⟨cx,cy,hc,hx,hy⟩:=hxs.two
  have e1:=arr2 hts; have e2:=arr2 hc
  subst e1; subst e2
  refine fin ?_
  split at hv
  ·rename_i e hu
   obtain ⟨d,hd,hv⟩:=Option.bind_eq_some_iff.1 hv
   exact copy_ok s hu hd hx hy hv
  ·cases hv
 ·rename_i t x hts
  obtain ⟨cx,hc,hx⟩:=hxs.one
  have e1:=arr1 hts; have e2:=arr1 hc
  subst e1; subst e2
  refine fin ?_
  split at hv
  ·rename_i e hu
   obtain ⟨d,hd,hv⟩:=Option.bind_eq_some_iff.1 hv
   exact clear_ok s hu hd hx hv
  ·cases hv
 ·rename_i t u x y hts
  obtain ⟨cx,cy,hc,hx,hy⟩:=hxs.two
  have e1:=arr2 hts; have e2:=arr2 hc
  subst e1; subst e2
  refine fin ?_
  split at hv
  ·rename_i e uk hu hu2
   obtain ⟨d,hd,hv⟩:=Option.bind_eq_some_iff.1 hv
   split at hv
   ·split at hv
    ·rename_i hcond
     cases hy
     exact zRe s hu hu2 hd hx hcond.1 hcond.2.1 hcond.2.2 hv
    ·cases hv
   ·cases hv
  ·rename_i e du hnot hu hu2
   replace hv:=Option.bind_eq_some_iff.1 hv
   obtain ⟨d,hd,hv⟩:=hv
   replace hv:=Option.bind_eq_some_iff.1 hv
   obtain ⟨k,hk,hv⟩:=hv
   replace hv:=Option.bind_eq_some_iff.1 hv
   obtain ⟨cs,hcs,hv⟩:=hv
   exact zUq s hu hu2 (fun k hk=>by subst hk; exact hnot _ rfl) hd hx hy hk hcs hv
  ·cases hv
 ·cases hv
theorem ORel.map {φ : Ren} {t : List AV} {a : Act} (ht : VRels φ t a.tmps.toList) : ∀ o : Option Operand,ORel φ (o.map (zBk t)) (o.map a.eval)
 | Option.none=>.none
 | Option.some x=>.some (zA1 ht x)
theorem zKt {φ : Ren} {t : List AV} {a : Act} (ht : VRels φ t a.tmps.toList) (ps : Array (Nat × Operand)) :
  (ps.toList.map fun p=>(p.1,zBk t p.2)).length = (ps.map fun (i,x)=>(i,a.eval x)).size ∧
  ∀ (i : Nat) (p : Nat × AV) (q : Nat × Value),(ps.toList.map fun p=>(p.1,zBk t p.2))[i]? = some p → (ps.map fun (i,x)=>(i,a.eval x))[i]? = some q → p.1 = q.1 ∧ VRel φ p.2 q.2:=by
 refine ⟨by simp,fun i p q hp hq=>?_⟩
 simp only [List.getElem?_map,Array.getElem?_toList,Array.getElem?_map] at hp hq
 cases hx : ps[i]? with
 | none=>rw [hx] at hp; cases hp
 | some y =>
  rw [hx] at hp hq
  simp only [Option.map_some,Option.some.injEq] at hp hq
  subst hp; subst hq
  exact ⟨rfl,zA1 ht _⟩
theorem zPm {P : Program} {φ : Ren} {h h' : zAa} {w : World} (s : St φ h w) {t : List AV} {a : Act} (ht : VRels φ t a.tmps.toList) {o : Oper} {v : AV} (hv : zBh P t o.op h = some (v,h')) :
  zLt φ h w ((execOp a.eval o).run P w) v h':=by
 obtain ⟨dst,op,ty,pos,aft,grd⟩:=o
 simp only at hv
 have fin : ∀ {sm : Sem Value},BRes P φ h w sm v h' → zLt φ h w ((do pure (Next.value (← sm)) : Sem Next).run P w) v h':=fun {sm} hb=>by
  obtain ⟨cv,w',φ',r1,r2,r3,r4⟩:=hb
  exact ⟨cv,w',φ',.inl (by simp only [Sem.run_bind,r1,Result.andThen_ok,Sem.run_pure]),r2,r3,r4⟩
 have pureR : ∀ {sm : Sem Value} {x : AV},(∃ cv,sm.run P w = .ok cv w ∧ VRel φ x cv) → some (x,h) = some (v,h') → BRes P φ h w sm v h':=fun {sm x} h1 h2=>by
  injection h2 with h2; injection h2 with h2 h3; subst h2; subst h3
  obtain ⟨cv,r1,r2⟩:=h1
  exact ⟨cv,w,φ,r1,r2,s,Ext.refl _ _ _⟩
 have keep : ∀ {x : Option AV},zAp h x = some (v,h') → ∃ y,x = some y ∧ some (y,h) = some (v,h'):=fun {x} hx=>by
  obtain ⟨y,hy,he⟩:=Option.map_eq_some_iff.1 hx
  exact ⟨y,hy,by rw [he]⟩
 cases op <;> simp only [zBh] at hv <;> first | (cases hv; done) | skip
 case move x =>
  injection hv with hv; injection hv with h1 h2; subst h1; subst h2
  exact zLt.pure s (zA1 ht x)
 case assign x =>
  injection hv with hv; injection hv with h1 h2; subst h1; subst h2
  exact zLt.pure s (zA1 ht x)
 case pick c x y =>
  obtain ⟨z,hz,he⟩:=keep hv
  unfold zNg at hz
  split at hz
  ·rename_i b hb
   injection hz with hz; subst hz
   have hc:=zA1 ht c
   rw [hb] at hc
   injection he with he; injection he with h1 h2; subst h1; subst h2
   generalize hcv : a.eval c = cv at hc
   cases hc
   refine ⟨if b = true then a.eval x else a.eval y,w,φ,.inl ?_,?_,s,Ext.refl _ _ _⟩
   ·simp only [execOp,hcv,asBool,Sem.run_bind,Sem.run_pure,Result.andThen_ok]
   ·cases b
    ·exact zA1 ht y
    ·exact zA1 ht x
  ·cases hz
 case alloc e =>
  obtain ⟨d,hd,he⟩:=Option.map_eq_some_iff.1 hv
  obtain ⟨i,z,ud,K⟩:=zD6 hd
  obtain ⟨φ',r1,r2,r3,r4⟩:=zP9 (P:=P) s e (K.zrel φ)
  rw [he] at r2 r3 r4
  exact fin ⟨_,_,φ',by simp only [Instr.alloc,Sem.run_bind,K.run_zero,Result.andThen_ok,r1,Sem.run_pure],r2,r3,r4⟩
 case box e x =>
  obtain ⟨cs,hcs,he⟩:=Option.map_eq_some_iff.1 hv
  obtain ⟨φ',r1,r2,r3,r4⟩:=zP9 (P:=P) s e (zG5 (zA1 ht x) hcs)
  rw [he] at r2 r3 r4
  exact fin ⟨_,_,φ',by simp only [Instr.box,Sem.run_bind,r1,Result.andThen_ok,Sem.run_pure],r2,r3,r4⟩
 case build e ps =>
  split at hv
  ·rename_i hb
   replace hv:=Option.bind_eq_some_iff.1 hv
   obtain ⟨d,hd,hv⟩:=hv
   obtain ⟨y,hy,he⟩:=keep hv
   obtain ⟨out,hout,rfl⟩:=Option.map_eq_some_iff.1 hy
   obtain ⟨p1,p2⟩:=zKt ht ps
   exact fin (pureR (build_ok hd hb p1 p2 hout) he)
  ·cases hv
 case buildSlice e len ps =>
  split at hv
  ·rename_i el hu
   replace hv:=Option.bind_eq_some_iff.1 hv
   obtain ⟨d,hd,hv⟩:=hv
   obtain ⟨p1,p2⟩:=zKt ht ps
   exact fin (zN1 s hu hd p1 p2 hv)
  ·cases hv
 case load e x =>
  replace hv:=Option.bind_eq_some_iff.1 hv
  obtain ⟨d,hd,hv⟩:=hv
  obtain ⟨y,hy,he⟩:=keep hv
  obtain ⟨ad,cv,h1,h2,h3⟩:=zKl (P:=P) s hd (zA1 ht x) hy
  exact fin (pureR ⟨cv,by simp only [Instr.loadAt,h1,Instr.sureAddr,Sem.run_bind,Sem.run_pure,Result.andThen_ok,h2],h3⟩ he)
 case store e x y =>
  replace hv:=Option.bind_eq_some_iff.1 hv
  obtain ⟨d,hd,hv⟩:=hv
  obtain ⟨h2,hst,he⟩:=Option.map_eq_some_iff.1 hv
  injection he with h3 h4; subst h3; subst h4
  obtain ⟨ad,w',q1,q2,q3,q4⟩:=zOn (P:=P) s hd (zA1 ht x) (zA1 ht y) hst
  exact ⟨undef,w',φ,.inr ⟨by simp only [execOp,Instr.storeAt,q1,Instr.sureAddr,Sem.run_bind,Sem.run_pure,Result.andThen_ok,q2],rfl⟩,.undef,q3,q4⟩
 case nilCheck x =>
  obtain ⟨y,hy,he⟩:=keep hv
  injection he with he; injection he with h1 h2; subst h1; subst h2
  have hx:=zA1 ht x
  unfold zGo at hy
  split at hy <;> first | (cases hy; done) | skip
  all_goals
   rename_i hb
   injection hy with hy; subst hy
   rw [hb] at hx
   refine ⟨a.eval x,w,φ,.inl ?_,hx,s,Ext.refl _ _ _⟩
   simp only [execOp]
   generalize a.eval x = cv at hx
   cases hx
   rfl
 case binOp op e x y e2 =>
  obtain ⟨z,hz,he⟩:=keep hv
  exact fin (pureR (binV_ok op (zA1 ht x) (zA1 ht y) hz x y) he)
 case unOp op e x =>
  obtain ⟨z,hz,he⟩:=keep hv
  exact fin (pureR (unV_ok op (zA1 ht x) hz) he)
 case convert s' d' x =>
  obtain ⟨z,hz,he⟩:=keep hv
  injection he with he; injection he with he1 he2; subst he1; subst he2
  obtain ⟨cv,w',r1,r2,r3,r4⟩:=convV_ok s (zA1 ht x) hz
  exact fin ⟨cv,w',φ,r1,r2,r3,r4⟩
 case makeFunc f fi cs =>
  cases f <;> simp only at hv <;> first | (cases hv; done) | skip
  split at hv
  ·rename_i h0
   injection hv with hv; injection hv with h1 h2; subst h1; subst h2
   obtain rfl : fi = #[]:=Array.eq_empty_of_size_eq_zero h0
   have:=VRel.fn (φ:=φ) (f:=‹Nat›) (zG2 ht cs.toList)
   refine fin ⟨_,w,φ,rfl,?_,s,Ext.refl _ _ _⟩
   have e : (List.map a.eval cs.toList).toArray = cs.map a.eval:=by apply Array.ext'; simp
   rw [e] at this
   have e2 : (#[] : Array Operand).map a.eval = #[]:=by simp
   rw [e2]
   exact this
  ·cases hv
 case makeSlice e l c =>
  split at hv
  ·rename_i el hu
   replace hv:=Option.bind_eq_some_iff.1 hv
   obtain ⟨d,hd,hv⟩:=hv
   exact fin (zO8 s hu hd (zA1 ht l) (zA1 ht c) hv)
  ·cases hv
 case slice e x lo hi mx =>
  obtain ⟨z,hz,he⟩:=keep hv
  exact fin (pureR (slice_ok s (zA1 ht x) (ORel.map ht lo) (ORel.map ht hi) (ORel.map ht mx) hz) he)
 case fieldAddr e x f =>
  obtain ⟨z,hz,he⟩:=keep hv
  exact fin (pureR (zPk (zA1 ht x) hz) he)
 case field e x f =>
  obtain ⟨z,hz,he⟩:=keep hv
  exact fin (pureR (field_ok (zA1 ht x) hz) he)
 case indexAddr e x i =>
  obtain ⟨z,hz,he⟩:=keep hv
  exact fin (pureR (zPc (zA1 ht x) (zA1 ht i) hz) he)
 case index e x i =>
  obtain ⟨z,hz,he⟩:=keep hv
  exact fin (pureR (index_ok (zA1 ht x) (zA1 ht i) hz) he)
 case extract x i =>
  obtain ⟨z,hz,he⟩:=keep hv
  have hx:=zA1 ht x
  split at hz
  ·rename_i vs hb
   rw [hb] at hx
   generalize hcx : a.eval x = cx at hx
   cases hx with
   | tup hc =>
    obtain ⟨cv,h1,h2⟩:=hc.get hz
    exact fin (pureR ⟨cv,by simp only [hcx,Instr.extract,List.getElem?_toArray,h1,Sem.run_pure],h2⟩ he)
  ·cases hz
 case call c =>
  split at hv
  ·rename_i b hb
   have hxs:=zG2 ht c.args.toList
   show zLt φ h w ((do let d ← resolve a.eval c ty; invoke d.target d.args : Sem Next).run P w) v h'
   simp only [resolve,hb,Sem.run_bind,Sem.run_pure,Result.andThen_ok,invoke]
   exact zUl s (by simpa using hxs) hv
  ·cases hv
end Go.Proofs.YtbmmnfeeapnhkaaGreat.Eng
end
section
namespace Go.Proofs.YtbmmnfeeapnhkaaGreat.Eng
open Go
def W (r : Option Nat) : Fence:={ Fence.wide with round:=r }
structure Good (P : Program) : Prop where
 mixed : P.follows .mixedOrders = true
 noNG : ∀ (f : Nat) fn,P.funcs[f]? = some fn → (fn.name == "runtime.NumGoroutine") = false
def Post (φ : Ren) (h : zAa) (w : World) (v : AV) (h' : zAa) : Ending → World → Prop :=
 fun e w'=>∃ cv φ',e = .returned cv ∧ VRel φ' v cv ∧ St φ' h' w' ∧ Ext φ h w φ' h' w'
structure SoundE (P : Program) (E : Env) : Prop where
 call : ∀ f args h v h',E.call f args h = some (v,h') → ((∃ fn,P.funcs[f]? = some fn ∧ fn.body.isSome = true) ∧ ∀ φ w (cargs : Array Value) n,St φ h w → VRels φ args cargs.toList → CallsIn Fence.wide n P f cargs w (Post φ h w v h')) ∨
  ((∀ b l,args ≠ .yld b :: l) ∧ ∀ φ w (cargs : Array Value),St φ h w → VRels φ args cargs.toList → ∃ cv w' φ',(callFunc f cargs).run P w = .ok (.value cv) w' ∧ VRel φ' v cv ∧ St φ' h' w' ∧ Ext φ h w φ' h' w')
 yield : ∀ b args h v h',E.yield b args h = some (v,h') → ∀ φ w (cargs : Array Value) e n,St φ h w → VRels φ args cargs.toList → φ b = some e →
  ∃ fn tmps assign body,(Instr.yield e.blk cargs).run P w = .ok (.round e.blk fn tmps assign body) w ∧ RoundIn Fence.wide n P e.blk fn tmps assign body w (Post φ h w v h')
 loop : ∀ b t h r,E.loop b t h = some r → ∃ k,zFk k b t h = some r
theorem zHj {φ : Ren} {t : List AV} {a : Act} (ht : VRels φ t a.tmps.toList) (d : Option Tmp) {v : AV} {cv : Value} (hr : VRel φ v cv) : VRels φ (putT t d v) (a.put d cv).tmps.toList:=by
 cases d with
 | none=>exact ht
 | some i=>simp only [putT,Act.put,Array.toList_setIfInBounds]; exact ht.set i hr
theorem zEd (a : Act) (d : Option Tmp) (v : Value) : (a.put d v).defers = a.defers:=by cases d <;> rfl
theorem zJ9 {φ : Ren} {t : List AV} {a : Act} (ht : VRels φ t a.tmps.toList) {ops : Array Oper} {o : Oper} {b : Bool} (h : zC5 ops t o = some b) : Region.wanted o (yielded ops a.tmps) = b:=by
 unfold zC5 at h
 unfold Region.wanted
 split at h
 ·rename_i hg
  injection h with h
  simp only [hg,h]
 ·rename_i j want hg
  rw [hg]
  simp only
  unfold yielded
  split at h
  ·rename_i hd
   injection h with h
   simp only [hd,Option.bind_none]
   rw [← h]; rfl
  ·rename_i d hd
   have hlen:=ht.length_eq
   simp only [hd,Option.bind_some]
   split at h
   ·rename_i b' htd
    injection h with h
    obtain ⟨c,hc,hr⟩:=ht.get htd
    rw [Array.getElem?_toList] at hc
    cases hr
    rw [hc]
    simp only
    rw [← h]; rfl
   ·cases h
   ·rename_i hnb hna
    injection h with h
    cases htd : t[d]? with
    | none =>
     have : a.tmps[d]? = none:=by
      rw [List.getElem?_eq_none_iff] at htd
      rw [Array.getElem?_eq_none_iff]
      simp at hlen; omega
     rw [this]
     simp only
     rw [← h]; rfl
    | some x =>
     obtain ⟨c,hc,hr⟩:=ht.get htd
     rw [Array.getElem?_toList] at hc
     rw [hc]
     have hq : ∀ b',c ≠ .bool b':=by
      intro b' hcb
      subst hcb
      cases hr with
      | bool=>exact hnb _ htd
      | any=>exact hna htd
     cases c <;> first | (rw [← h]; rfl) | (exact absurd rfl (hq _))
theorem zG9 {F : Fence} {n : Nat} {P : Program} {o : Oper} {a : Act} {next : Act → World → Prop} {Q : Exit → Act → World → Prop} {φ : Ren} {h h' : zAa} {w : World} {v : AV} {r : Result Next} (hr : zLt φ h w r v h')
  (hnext : ∀ cv φ' w',VRel φ' v cv → St φ' h' w' → Ext φ h w φ' h' w' → next (a.put o.dst cv) w') : o.uponIn F n P a next Q r:=by
 obtain ⟨cv,w',φ',h1 | ⟨h1,h2⟩,r2,r3,r4⟩:=hr
 ·rw [h1]; exact hnext cv φ' w' r2 r3 r4
 ·rw [h1]; subst h2; exact hnext undef φ' w' r2 r3 r4
theorem zJi {P : Program} (g : Good P) {w : World} {f : Nat} {args : Array Value} (hf : ∃ fn,P.funcs[f]? = some fn ∧ fn.body.isSome = true) : (callFunc f args).run P w = .ok (.enter f args) w:=by
 obtain ⟨fn,h1,h2⟩:=hf
 have h3:=g.noNG f fn h1
 have h4 : fn.body.isNone = false:=by cases hb : fn.body <;> simp_all
 simp only [callFunc,Sem.run_bind,run_program,Result.andThen_ok,h1,h3,h4,Bool.false_eq_true,if_false,Sem.run_pure]
theorem zWo {P : Program} (g : Good P) {E : Env} (se : SoundE P E) {r : Option Nat} {n : Nat} {o : Oper} {a : Act} {w : World} {t : List AV} {h h' : zAa} {φ : Ren} {v : AV} (s : St φ h w) (ht : VRels φ t a.tmps.toList)
  (hv : zC9 P E t o.op h = some (v,h')) {next : Act → World → Prop} {Q : Exit → Act → World → Prop} (hnext : ∀ cv φ' w',VRel φ' v cv → St φ' h' w' → Ext φ h w φ' h' w' → next (a.put o.dst cv) w') :
  o.wpIn (W r) n P a w next Q:=by
 refine ⟨fun _ _=>trivial,?_⟩
 unfold zC9 at hv
 split at hv
 ·rename_i f args ats hop
  have hsem : o.semAt (W r).round a.eval = (do let d ← resolve a.eval ⟨.value f,args,ats⟩ o.type; invoke d.target d.args : Sem Next):=by
   rw [Oper.semAt_eq _ _ _ (fun c hc=>by rw [hop] at hc; cases hc)]
   unfold execOp; rw [hop]
  rw [hsem]
  have hf:=zA1 ht f
  have hargs:=zG2 ht args.toList
  unfold zLq at hv
  split at hv
  ·rename_i gf cap hfv
   rw [hfv] at hf
   have hse:=se.call _ _ _ _ _ hv
   generalize hcf : a.eval f = cf at hf
   cases hf with
   | fn hc =>
    rename_i caps
    refine hse.elim (fun hse=>?_) (fun hse=>?_)
    case refine_2 =>
     obtain ⟨_,hcall⟩:=hse
     obtain ⟨cv,w',φ',h0,h1,h2,h3⟩:=hcall φ w (args.map a.eval ++ caps.toArray) s (by simpa using hargs.append hc)
     have hrun : (do let d ← resolve a.eval ⟨.value f,args,ats⟩ o.type; invoke d.target d.args : Sem Next).run P w = .ok (.value cv) w':=by
      simp only [resolve,hcf,Deferred.ofValue,Sem.run_bind,Sem.run_pure,Result.andThen_ok,invoke,Array.empty_append]
      exact h0
     rw [hrun]
     exact hnext cv φ' w' h1 h2 h3
    obtain ⟨hex,hcall⟩:=hse
    have hrun : (do let d ← resolve a.eval ⟨.value f,args,ats⟩ o.type; invoke d.target d.args : Sem Next).run P w = .ok (.enter gf (args.map a.eval ++ caps.toArray)) w:=by
     simp only [resolve,hcf,Deferred.ofValue,Sem.run_bind,Sem.run_pure,Result.andThen_ok,invoke,Array.empty_append]
     exact zJi g hex
    rw [hrun]
    refine ⟨fun hd=>(by cases hd),?_⟩
    have:=hcall φ w (args.map a.eval ++ caps.toArray) (n - 1) s (by simpa using hargs.append hc)
    refine CallsIn.mono (F:=W r) this ?_
    rintro e w' ⟨cv,φ',rfl,h1,h2,h3⟩
    exact hnext cv φ' w' h1 h2 h3
  ·rename_i b hfv
   rw [hfv] at hf
   generalize hcf : a.eval f = cf at hf
   cases hf with
   | yld hb =>
    rename_i e
    obtain ⟨fn,tmps,assign,body,hy,hround⟩:=se.yield _ _ _ _ _ hv φ w (args.map a.eval) e (n - 1) s (by simpa using hargs) hb
    have hrun : (do let d ← resolve a.eval ⟨.value f,args,ats⟩ o.type; invoke d.target d.args : Sem Next).run P w = .ok (.round e.blk fn tmps assign body) w:=by
     simp only [resolve,hcf,Deferred.ofValue,Sem.run_bind,Sem.run_pure,Result.andThen_ok,invoke,Array.empty_append]
     exact hy
    rw [hrun]
    refine ⟨fun hd=>(by cases hd),?_⟩
    refine RoundIn.mono (F:=W r) hround ?_
    rintro e w' ⟨cv,φ',rfl,h1,h2,h3⟩
    exact hnext cv φ' w' h1 h2 h3
  ·cases hv
 ·have hnd : ∀ c,o.op ≠ .defer c:=by
   intro c hc
   rw [hc] at hv
   simp [zBh] at hv
  rw [Oper.semAt_eq _ _ _ hnd]
  exact zG9 (zPm s ht hv) hnext
def exOf : Ex → Exit
 | .normal=>.normal
 | .exit id=>.exit id
 | .ret=>.ret
inductive Marks (w : World) (lo : Nat) : List Deferred → Prop
 | nil : Marks w lo []
 | cons {r : Nat} {ds : List Deferred} (h : w.heap[r]? = some (.deferred (some []))) (hlo : lo ≤ r) (t : Marks w lo ds) (hn : ∀ d ∈ ds,∀ q,d.target = .collected q → q ≠ r) : Marks w lo ({ target:=.collected r,args:=#[] } :: ds)
theorem Marks.mono {w w' : World} {lo lo' : Nat} (hw : ∀ r : Nat,w.heap[r]? = some (.deferred (some [])) → w'.heap[r]? = some (.deferred (some []))) (hl : lo' ≤ lo) : ∀ {ds},Marks w lo ds → Marks w' lo' ds
 | _,.nil=>.nil
 | _,.cons h hlo t hn=>.cons (hw _ h) (Nat.le_trans hl hlo) (t.mono hw hl) hn
theorem zWx {φ : Ren} {h : zAa} {w : World} (s : St φ h w) {r : Nat} {o : Obj} (ho : w.heap[r]? = some o) (hk : (match o with | .cells ..=>false | .loop _=>false | _=>true) = true) : ¬ zUs φ h r:=by
 rintro ⟨b,e,k,hb,rfl,hk1,hown⟩
 obtain ⟨k',o',h1,h2,h3⟩:=s.dom b e hb
 obtain rfl : k = k':=Option.some.inj (hk1.symm.trans h1)
 obtain rfl : o = o':=Option.some.inj (ho.symm.trans h2)
 cases k with
 | rw cs=>obtain ⟨C,t,fz,rfl,_⟩:=h3; cases hk
 | loop l=>obtain ⟨q,rfl,_⟩:=h3; cases hk
 | dead=>cases hown
 | ro cs=>cases hown
theorem Ext.deferred {φ φ' : Ren} {h h' : zAa} {w w' : World} (s : St φ h w) (x : Ext φ h w φ' h' w') {r : Nat} {l : Option (List Deferred)} (hr : w.heap[r]? = some (.deferred l)) : w'.heap[r]? = some (.deferred l):=by
 rw [x.cfr r (Array.getElem?_eq_some_iff.1 hr).1 (zWx s hr rfl)]; exact hr
def Out (φ : Ren) (h : zAa) (w : World) (ds : List Deferred) (ex : Ex) (t' : List AV) (h' : zAa) : Exit → Act → World → Prop:=fun e a' w' =>
 e = exOf ex ∧ ∃ φ',St φ' h' w' ∧ Ext φ h w φ' h' w' ∧ VRels φ' t' a'.tmps.toList ∧ ∃ new,a'.defers = new ++ ds ∧ Marks w' w.heap.size new
theorem zSa {P : Program} (g : Good P) {E : Env} (se : SoundE P E) {r : Option Nat} {n : Nat} {ops : Array Oper} {ds : List Deferred} {h0 : zAa} {w0 : World} {φ0 : Ren} {Q : Exit → Act → World → Prop} {t1 : List AV} {h1 : zAa}
  (hQ : ∀ φ' a' w',St φ' h1 w' → Ext φ0 h0 w0 φ' h1 w' → VRels φ' t1 a'.tmps.toList → a'.defers = ds → Q .normal a' w') :
  ∀ (l : List Nat) (t : List AV) (h : zAa) (φ : Ren) (a : Act) (w : World),St φ h w → Ext φ0 h0 w0 φ h w → VRels φ t a.tmps.toList → a.defers = ds → zDu P E ops l t h = some (t1,h1) → wpOpsIn (W r) n P ops Q l a w
 | [],t,h,φ,a,w,s,x,ht,hd,hv=>by
  simp only [zDu,Option.some.injEq,Prod.mk.injEq] at hv
  obtain ⟨rfl,rfl⟩:=hv
  exact hQ φ a w s x ht hd
 | i :: l,t,h,φ,a,w,s,x,ht,hd,hv=>by
  simp only [zDu] at hv
  simp only [wpOpsIn]
  cases ho : ops[i]? with
  | none=>rw [ho] at hv; exact zSa g se hQ l t h φ a w s x ht hd hv
  | some o =>
   rw [ho] at hv
   simp only at hv ⊢
   obtain ⟨b,hb,hv⟩:=Option.bind_eq_some_iff.1 hv
   rw [zJ9 ht hb]
   cases b with
   | true =>
    simp only [if_true] at hv ⊢
    obtain ⟨⟨v,h2⟩,he,hv⟩:=Option.bind_eq_some_iff.1 hv
    refine zWo g se s ht he fun cv φ' w' q1 q2 q3=>?_
    exact zSa g se hQ l _ _ φ' _ w' q2 (x.trans q3) (zHj (ht.ext s q3) _ q1) (by rw [zEd]; exact hd) hv
   | false =>
    simp only [Bool.false_eq_true,if_false] at hv ⊢
    exact ⟨fun _ _=>trivial,zSa g se hQ l _ _ φ _ w s x (zHj ht _ .undef) (by rw [zEd]; exact hd) hv⟩
end Go.Proofs.YtbmmnfeeapnhkaaGreat.Eng
end
section
namespace Go.Proofs.YtbmmnfeeapnhkaaGreat.Eng
open Go
theorem zJp {P : Program} {t t' : List AV} {op : Op} (hx : ∀ x ∈ op.operands,zBk t x = zBk t' x) (h : zAa) : zBh P t op h = zBh P t' op h:=by
 have opt : ∀ o : Option Operand,(∀ x ∈ o.toArray,zBk t x = zBk t' x) → o.map (zBk t) = o.map (zBk t'):=by
  intro o ho
  cases o with
  | none=>rfl
  | some x=>simp [ho x (by simp)]
 have parts : ∀ ps : Array (Nat × Operand),(∀ x ∈ (ps.toList.map (·.2)).toArray,zBk t x = zBk t' x) → (ps.toList.map fun p=>(p.1,zBk t p.2)) = (ps.toList.map fun p=>(p.1,zBk t' p.2)):=by
  intro ps hp
  refine List.map_congr_left fun p hpm=>?_
  rw [hp p.2 (by simp only [List.mem_toArray,List.mem_map]; exact ⟨p,hpm,rfl⟩)]
 cases op with
 | slice e x lo hi mx =>
  simp only [Op.operands,Array.mem_append,List.mem_toArray,List.mem_singleton] at hx
  simp only [zBh,hx x (by simp),opt lo (fun y hy=>hx y (by simp [hy])),opt hi (fun y hy=>hx y (by simp [hy])),opt mx (fun y hy=>hx y (by simp [hy]))]
 | build e ps=>simp only [Op.operands] at hx; simp only [zBh,parts ps hx]
 | buildSlice e n ps=>simp only [Op.operands] at hx; simp only [zBh,parts ps hx]
 | makeFunc f fi cs =>
  simp only [Op.operands,Array.mem_append] at hx
  have hc : cs.toList.map (zBk t) = cs.toList.map (zBk t'):=List.map_congr_left fun y hy=>hx y (.inr (by simpa using hy))
  cases f <;> simp only [zBh,hc]
 | call c =>
  obtain ⟨cal,args,ats⟩:=c
  cases cal with
  | builtin b =>
   simp only [Op.operands,Call.operands,Array.empty_append] at hx
   have hc : args.toList.map (zBk t) = args.toList.map (zBk t'):=List.map_congr_left fun y hy=>hx y (by simpa using hy)
   simp only [zBh,hc]
  | _=>rfl
 | move x=>simp only [Op.operands] at hx; simp only [zBh,hx x (by simp)]
 | assign x=>simp only [Op.operands] at hx; simp only [zBh,hx x (by simp)]
 | pick x y z=>simp only [Op.operands] at hx; simp only [zBh,hx x (by simp),hx y (by simp),hx z (by simp)]
 | box _ x=>simp only [Op.operands] at hx; simp only [zBh,hx x (by simp)]
 | load _ x=>simp only [Op.operands] at hx; simp only [zBh,hx x (by simp)]
 | store _ x y=>simp only [Op.operands] at hx; simp only [zBh,hx x (by simp),hx y (by simp)]
 | nilCheck x=>simp only [Op.operands] at hx; simp only [zBh,hx x (by simp)]
 | binOp _ _ x y _=>simp only [Op.operands] at hx; simp only [zBh,hx x (by simp),hx y (by simp)]
 | unOp _ _ x=>simp only [Op.operands] at hx; simp only [zBh,hx x (by simp)]
 | convert _ _ x=>simp only [Op.operands] at hx; simp only [zBh,hx x (by simp)]
 | makeSlice _ x y=>simp only [Op.operands] at hx; simp only [zBh,hx x (by simp),hx y (by simp)]
 | fieldAddr _ x _=>simp only [Op.operands] at hx; simp only [zBh,hx x (by simp)]
 | field _ x _=>simp only [Op.operands] at hx; simp only [zBh,hx x (by simp)]
 | indexAddr _ x y=>simp only [Op.operands] at hx; simp only [zBh,hx x (by simp),hx y (by simp)]
 | index _ x y=>simp only [Op.operands] at hx; simp only [zBh,hx x (by simp),hx y (by simp)]
 | extract x _=>simp only [Op.operands] at hx; simp only [zBh,hx x (by simp)]
 | _=>rfl
theorem zLp {P : Program} {E : Env} {t t' : List AV} {op : Op} (hx : ∀ x ∈ op.operands,zBk t x = zBk t' x) (h : zAa) : zC9 P E t op h = zC9 P E t' op h:=by
 unfold zC9
 split
 ·rename_i f args ats
  simp only [Op.operands,Call.operands,Array.mem_append,List.mem_toArray,List.mem_singleton] at hx
  have hc : args.toList.map (zBk t) = args.toList.map (zBk t'):=List.map_congr_left fun y hy=>hx y (.inr (by simpa using hy))
  rw [hx f (.inl rfl),hc]
 ·exact zJp hx h
theorem zK4 {ops : Array Oper} {o : Oper} {t t' : List AV} (h : ∀ x ∈ o.looksAt ops,t[x]? = t'[x]?) : ∀ x ∈ o.op.operands,zBk t x = zBk t' x:=by
 intro x hx
 cases x with
 | tmp i =>
  simp only [zBk,getT]
  rw [h i]
  unfold Oper.looksAt
  refine List.mem_append_left _ ?_
  rw [List.mem_filterMap]
  exact ⟨.tmp i,by simpa using hx,rfl⟩
 | const v=>rfl
 | global g=>rfl
 | func f=>rfl
theorem zHv {ops : Array Oper} {o : Oper} {t t' : List AV} (h : ∀ x ∈ o.looksAt ops,t[x]? = t'[x]?) : zC5 ops t o = zC5 ops t' o:=by
 unfold zC5
 split
 ·rfl
 ·rename_i j want hg
  split
  ·rfl
  ·rename_i d hd
   rw [h d]
   unfold Oper.looksAt
   refine List.mem_append_right _ ?_
   rw [hg]
   simp [hd]
theorem zHe {h : zAa} {b : Nat} {cs : List AV} (g : zAa) (hc : cellsOf h b = some cs) : cellsOf (h ++ g) b = some cs:=by
 unfold cellsOf at hc ⊢
 cases hb : h[b]? with
 | none=>rw [hb] at hc; cases hc
 | some k=>rw [List.getElem?_append_left (List.getElem?_eq_some_iff.1 hb).1,hb]; rw [hb] at hc; exact hc
theorem zGm {h : zAa} {b o n : Nat} {cs : List AV} (g : zAa) (hc : zC6 h b o n = some cs) : zC6 (h ++ g) b o n = some cs:=by
 unfold zC6 at hc ⊢
 obtain ⟨c,h1,h2⟩:=Option.bind_eq_some_iff.1 hc
 rw [zHe g h1]; exact h2
theorem zOx {h : zAa} {b o : Nat} {v : AV} (g : zAa) (hc : zLn h b o = some v) : zLn (h ++ g) b o = some v:=by
 unfold zLn at hc ⊢
 obtain ⟨c,h1,h2⟩:=Option.bind_eq_some_iff.1 hc
 rw [zHe g h1]; exact h2
theorem zG0 {h h' : zAa} {x : Option AV} {v : AV} (hx : zAp h x = some (v,h')) : x = some v ∧ h' = h:=by
 obtain ⟨y,hy,he⟩:=Option.map_eq_some_iff.1 hx
 injection he with h1 h2
 exact ⟨by rw [hy,h1],h2.symm⟩
theorem zGl {P : Program} {t : List AV} {op : Op} {h h' : zAa} {v : AV} (hr : zDc op = true) (hv : zBh P t op h = some (v,h')) : h' = h ∧ ∀ g,zBh P t op (h ++ g) = some (v,h ++ g):=by
 cases op <;> simp only [zDc,Bool.false_eq_true] at hr <;> simp only [zBh] at hv ⊢
 case load e a =>
  obtain ⟨d,hd,hv⟩:=Option.bind_eq_some_iff.1 hv
  obtain ⟨hx,rfl⟩:=zG0 hv
  refine ⟨rfl,fun g=>?_⟩
  rw [hd]
  simp only [Option.bind_some]
  have : zGq d.size d.agg (zBk t a) (h' ++ g) = some v:=by
   unfold zGq at hx ⊢
   split at hx
   ·cases hag : d.agg with
    | true =>
     rw [hag] at hx
     simp only [if_true] at hx ⊢
     obtain ⟨cs,hcs,rfl⟩:=Option.map_eq_some_iff.1 hx
     simp only [zGm g hcs,Option.map_some]
    | false =>
     rw [hag] at hx
     simp only [if_false,Bool.false_eq_true] at hx ⊢
     exact zOx g hx
   ·cases hx
  rw [this]; rfl
 case convert s d x =>
  obtain ⟨hx,rfl⟩:=zG0 hv
  refine ⟨rfl,fun g=>?_⟩
  have : zFq (zTy P s d) (zBk t x) (h' ++ g) = some v:=by
   unfold zFq at hx ⊢
   split at hx <;> first | exact hx | skip
   split at hx
   ·rename_i hs
    obtain ⟨cs,h1,h2⟩:=Option.bind_eq_some_iff.1 hx
    simp only [hs,if_true,zGm g h1,Option.bind_some]
    exact h2
   ·cases hx
   split at hx
   ·rename_i h1
    split at hx
    ·rename_i hb
     rw [if_pos h1,List.getElem?_append_left (List.getElem?_eq_some_iff.1 hb).1,hb]
     exact hx
    ·cases hx
   ·cases hx
  rw [this]; rfl
 case slice e x lo hi mx =>
  obtain ⟨hx,rfl⟩:=zG0 hv
  refine ⟨rfl,fun g=>?_⟩
  have : zOh P e (zBk t x) (lo.map (zBk t)) (hi.map (zBk t)) (mx.map (zBk t)) (h' ++ g) = some v:=by
   unfold zOh at hx ⊢
   split at hx
   ·obtain ⟨d,hd,hx⟩:=Option.bind_eq_some_iff.1 hx
    rw [hd]
    simp only [Option.bind_some]
    unfold zDb at hx ⊢
    split at hx
    ·replace hx:=Option.bind_eq_some_iff.1 hx
     obtain ⟨l,hl,hx⟩:=hx
     replace hx:=Option.bind_eq_some_iff.1 hx
     obtain ⟨u,hu,hx⟩:=hx
     replace hx:=Option.bind_eq_some_iff.1 hx
     obtain ⟨m,hm,hx⟩:=hx
     split at hx
     ·rename_i hc
      obtain ⟨cs,hcs⟩:=Option.isSome_iff_exists.1 hc.2.2.2.2.2
      simp only [hl,hu,hm,Option.bind_some]
      rw [if_pos ⟨hc.1,hc.2.1,hc.2.2.1,hc.2.2.2.1,hc.2.2.2.2.1,by rw [zGm g hcs]; rfl⟩]
      exact hx
     ·cases hx
    ·cases hx
   ·exact hx
   ·cases hx
  rw [this]; rfl
def isA : Op → Bool
 | .alloc _ | .box _ _ | .buildSlice _ _ _ | .makeSlice _ _ _=>true
 | _=>false
def reloc (v : AV) (b : Nat) : AV :=
 match v with
 | .ptr _ o=>.ptr b o
 | .sl _ o sz len lo ex=>.sl b o sz len lo ex
 | v=>v
def zN5 (_ : Program) (φ : Ren) (w : World) (r : Result Next) (cs : List AV) (mk : Nat → AV) : Prop :=
 ∃ C t cv,r = .ok (.value cv) (w.alloc (.cells C t)) ∧ VRels φ cs (C.toList.take cs.length) ∧ ∀ (ψ : Ren) b,ψ b = some ⟨w.heap.size,0,C.size⟩ → VRel ψ (mk b) cv
theorem zR9 {P : Program} {t : List AV} {o : Oper} {h h' : zAa} {v : AV} (hA : isA o.op = true) (hv : zBh P t o.op h = some (v,h')) :
  ∃ cs,reloc v h.length = v ∧ h' = h ++ [.rw cs] ∧ ∀ φ w (a : Act),VRels φ t a.tmps.toList → zN5 P φ w ((execOp a.eval o).run P w) cs (reloc v):=by
 obtain ⟨dst,op,ty,pos,aft,grd⟩:=o
 simp only at hv hA
 have fin : ∀ {φ w C t' cv cs mk} {sm : Sem Value},sm.run P w = .ok cv (w.alloc (.cells C t')) → VRels φ cs (C.toList.take cs.length) → (∀ (ψ : Ren) b,ψ b = some ⟨w.heap.size,0,C.size⟩ → VRel ψ (mk b) cv) →
   zN5 P φ w ((do pure (Next.value (← sm)) : Sem Next).run P w) cs mk:=fun {φ w C t' cv cs mk sm} h1 h2 h3 =>
  ⟨C,t',cv,by simp only [Sem.run_bind,h1,Result.andThen_ok,Sem.run_pure],h2,h3⟩
 cases op <;> simp only [isA,Bool.false_eq_true] at hA <;> simp only [zBh] at hv
 case alloc e =>
  obtain ⟨d,hd,he⟩:=Option.map_eq_some_iff.1 hv
  injection he with h1 h2; subst h1; subst h2
  obtain ⟨i,z,ud,K⟩:=zD6 hd
  refine ⟨d.zero,rfl,rfl,fun φ w a ht=>?_⟩
  exact fin (C:=z.cells) (t':=e) (cv:=.pointer (some ⟨w.heap.size,0,none⟩)) (by simp only [Instr.alloc,Sem.run_bind,K.run_zero,Result.andThen_ok,newVar,zDy,Sem.run_pure]) (zFv (K.zrel φ)) (fun ψ b hb=>.ptr hb)
 case box e x =>
  obtain ⟨cs,hcs,he⟩:=Option.map_eq_some_iff.1 hv
  injection he with h1 h2; subst h1; subst h2
  refine ⟨cs,rfl,rfl,fun φ w a ht=>?_⟩
  exact fin (C:=(a.eval x).cells) (t':=e) (cv:=.pointer (some ⟨w.heap.size,0,none⟩)) (by simp only [Instr.box,Sem.run_bind,newVar,zDy,Result.andThen_ok,Sem.run_pure]) (zFv (zG5 (zA1 ht x) hcs)) (fun ψ b hb=>.ptr hb)
 case buildSlice e len ps =>
  split at hv
  ·rename_i el hu
   obtain ⟨d,hd,hv⟩:=Option.bind_eq_some_iff.1 hv
   have key : ∀ φ w (a : Act),VRels φ t a.tmps.toList → ∃ cs D,v = .sl h.length 0 d.size len len true ∧ h' = h ++ [.rw cs] ∧ (Instr.buildSlice e len (ps.map fun (i,x)=>(i,a.eval x))).run P w = .ok (.slice (some ⟨w.heap.size,0,none⟩) len len) (w.alloc (.cells D el)) ∧ VRels φ cs D.toList ∧ D.size = len * d.size:=fun φ w a ht=>by
    obtain ⟨p1,p2⟩:=zKt ht ps
    exact zHf hu hd p1 p2 hv
   have hsh : ∃ cs,v = .sl h.length 0 d.size len len true ∧ h' = h ++ [.rw cs]:=by
    unfold zFa at hv
    split at hv
    ·obtain ⟨cs,_,he⟩:=Option.map_eq_some_iff.1 hv
     injection he with h1 h2
     exact ⟨cs,h1.symm,h2.symm⟩
    ·cases hv
   obtain ⟨cs,rfl,rfl⟩:=hsh
   refine ⟨cs,rfl,rfl,fun φ w a ht=>?_⟩
   obtain ⟨cs',D,_,h2,h3,h4,h5⟩:=key φ w a ht
   have h6:=List.append_cancel_left h2
   injection h6 with h6 _
   injection h6 with h6
   subst h6
   exact fin h3 (zFv h4) (fun ψ b hb=>.sl (e:=⟨w.heap.size,0,D.size⟩) hb (.inl rfl) (Nat.le_refl _) (Nat.le_refl _) (fun _=>rfl) (by simp only; omega))
  ·cases hv
 case makeSlice e l c =>
  split at hv
  ·rename_i el hu
   obtain ⟨d,hd,hv⟩:=Option.bind_eq_some_iff.1 hv
   have key : ∀ φ w (a : Act),VRels φ t a.tmps.toList → ∃ (cs : List AV) (D : Array Value) (len cap : Nat),v = .sl h.length 0 d.size len cap true ∧ len ≤ cap ∧ h' = h ++ [.rw cs] ∧ (Instr.makeSlice e (a.eval l) (a.eval c)).run P w = .ok (.slice (some ⟨w.heap.size,0,none⟩) len cap) (w.alloc (.cells D el)) ∧ VRels φ cs D.toList ∧ D.size = cap * d.size:=fun φ w a ht =>
    zIa hu hd (zA1 ht l) (zA1 ht c) hv
   have hsh : ∃ cs len cap,v = .sl h.length 0 d.size len cap true ∧ h' = h ++ [.rw cs]:=by
    unfold zCw at hv
    split at hv
    ·split at hv
     ·injection hv with hv; injection hv with h1 h2
      exact ⟨_,_,_,h1.symm,h2.symm⟩
     ·cases hv
    ·cases hv
   obtain ⟨cs,len,cap,rfl,rfl⟩:=hsh
   refine ⟨cs,rfl,rfl,fun φ w a ht=>?_⟩
   obtain ⟨cs',D,len',cap',h1,h0,h2,h3,h4,h5⟩:=key φ w a ht
   have h6:=List.append_cancel_left h2
   injection h6 with h6 _
   injection h6 with h6
   subst h6
   injection h1 with _ _ _ e1 e2 _
   subst e1; subst e2
   exact fin h3 (zFv h4) (fun ψ b hb=>.sl (e:=⟨w.heap.size,0,D.size⟩) hb (.inl rfl) h0 (Nat.le_refl _) (fun _=>rfl) (by simp only; omega))
  ·cases hv
theorem zR3 {P : Program} {t : List AV} {op : Op} {h h' : zAa} {v : AV} (hq : zIv op = true) (hr : zDc op = false) (hA : isA op = false) (hv : zBh P t op h = some (v,h')) : h' = h ∧ ∀ hh,zBh P t op hh = some (v,hh):=by
 have keep : ∀ {x : Option AV},zAp h x = some (v,h') → h' = h ∧ ∀ hh,zAp hh x = some (v,hh):=fun {x} hx=>by
  obtain ⟨h1,h2⟩:=zG0 hx
  exact ⟨h2,fun hh=>by rw [h1]; rfl⟩
 cases op <;> simp only [zDc,isA,Bool.true_eq_false] at hr hA <;> simp only [zBh] at hv ⊢ <;> first | (cases hv; done) | exact keep hv | skip
 case move x=>injection hv with hv; injection hv with h1 h2; subst h1; exact ⟨h2.symm,fun _=>rfl⟩
 case assign x=>injection hv with hv; injection hv with h1 h2; subst h1; exact ⟨h2.symm,fun _=>rfl⟩
 case build e ps =>
  split at hv
  ·rename_i hb
   obtain ⟨d,hd,hv⟩:=Option.bind_eq_some_iff.1 hv
   obtain ⟨h1,h2⟩:=keep hv
   exact ⟨h1,fun hh=>by rw [if_pos hb]; simp only [hd,Option.bind_some]; exact h2 hh⟩
  ·cases hv
 case store e a x=>cases hq
 case makeFunc f fi cs =>
  cases f <;> simp only at hv ⊢ <;> first | (cases hv; done) | skip
  split at hv
  ·rename_i h0; injection hv with hv; injection hv with h1 h2; subst h1; exact ⟨h2.symm,fun _=>if_pos h0⟩
  ·cases hv
 case call c =>
  obtain ⟨cal,args,ats⟩:=c
  cases cal with
  | builtin b =>
   simp only at hv ⊢
   cases b <;> simp only [zIv,Bool.false_eq_true] at hq <;> unfold zJ7 at hv ⊢ <;> (split at hv <;> first | contradiction | (cases hv; done) | exact keep hv)
  | _=>cases hv
end Go.Proofs.YtbmmnfeeapnhkaaGreat.Eng
end
section
namespace Go.Proofs.YtbmmnfeeapnhkaaGreat.Eng
open Go
abbrev In (l : Array Bool) (i : Nat) : Prop:=l.getD i false = true
def zJs (ops : Array Oper) (l : Array Bool) : Prop:=∀ (j : Nat) o,In l j → ops[j]? = some o → ∀ e ∈ o.after,Region.binds .any e = true → In l e.on
theorem zPq {acc : List Nat} {o : Oper} {i : Nat} (h : (zIh acc o).testBit i = true) : ∃ e ∈ o.after,Region.binds .any e = true ∧ (i = e.on ∨ (acc.getD e.on 0).testBit i = true):=by
 have key : ∀ (l : List Edge) (s : Nat),(l.foldl (fun s e=>if Region.binds .any e then s ||| 2 ^ e.on ||| acc.getD e.on 0 else s) s).testBit i = true →
   s.testBit i = true ∨ ∃ e ∈ l,Region.binds .any e = true ∧ (i = e.on ∨ (acc.getD e.on 0).testBit i = true):=by
  intro l
  induction l with
  | nil=>intro s hs; exact .inl hs
  | cons e l ih =>
   intro s hs
   simp only [List.foldl_cons] at hs
   rcases ih _ hs with h1 | ⟨e',h1,h2⟩
   ·split at h1
    ·rename_i hb
     rw [Nat.testBit_or,Nat.testBit_or,Bool.or_eq_true,Bool.or_eq_true] at h1
     rcases h1 with (h1 | h1) | h1
     ·exact .inl h1
     ·rw [Nat.testBit_two_pow] at h1
      exact .inr ⟨e,by simp,hb,.inl (by simpa using (of_decide_eq_true h1).symm)⟩
     ·exact .inr ⟨e,by simp,hb,.inr h1⟩
    ·exact .inl h1
   ·exact .inr ⟨e',by simp [h1],h2⟩
 rcases key o.after.toList 0 h with h1 | ⟨e,h1,h2,h3⟩
 ·simp at h1
 ·exact ⟨e,by simpa using h1,h2,h3⟩
theorem zMa : ∀ (l : List Oper) (acc : List Nat) (pre : List Oper),acc.length = pre.length →
  ∀ (R : Nat → Nat → Prop),(∀ j i,j < acc.length → (acc.getD j 0).testBit i = true → R j i) →
  (∀ (j : Nat) o e i,(pre ++ l)[j]? = some o → e ∈ o.after → Region.binds .any e = true → (i = e.on ∨ (e.on < j ∧ R e.on i)) → R j i) →
  ∀ j i,((zJl l acc).getD j 0).testBit i = true → R j i
 | [],acc,pre,hl,R,ha,hs,j,i,h=>by
  simp only [zJl] at h
  by_cases hj : j < acc.length
  ·exact ha j i hj h
  ·rw [List.getD_eq_getElem?_getD,List.getElem?_eq_none (by omega)] at h; simp at h
 | o :: l,acc,pre,hl,R,ha,hs,j,i,h=>by
  simp only [zJl] at h
  refine zMa l (acc ++ [zIh acc o]) (pre ++ [o]) (by simp [hl]) R ?_ (by simpa using hs) j i h
  intro k m hk hb
  by_cases hlt : k < acc.length
  ·rw [List.getD_eq_getElem?_getD,List.getElem?_append_left hlt,← List.getD_eq_getElem?_getD] at hb
   exact ha k m hlt hb
  ·have hkk : k = acc.length:=by simp at hk; omega
   subst hkk
   rw [List.getD_eq_getElem?_getD,List.getElem?_append_right (Nat.le_refl _)] at hb
   simp only [Nat.sub_self,List.getElem?_cons_zero,Option.getD_some] at hb
   obtain ⟨e,he,hbind,hcase⟩:=zPq hb
   refine hs acc.length o e m (by rw [hl]; simp) he hbind ?_
   rcases hcase with h1 | h1
   ·exact .inl h1
   ·by_cases hx : e.on < acc.length
    ·exact .inr ⟨hx,ha _ _ hx h1⟩
    ·rw [List.getD_eq_getElem?_getD,List.getElem?_eq_none (by omega)] at h1; simp at h1
theorem zO6 {ops : Array Oper} (R : Nat → Nat → Prop) (hs : ∀ (j : Nat) o e i,ops[j]? = some o → e ∈ o.after → Region.binds .any e = true → (i = e.on ∨ (e.on < j ∧ R e.on i)) → R j i) {j i : Nat}
  (h : ((masks ops).getD j 0).testBit i = true) : R j i :=
 zMa ops.toList [] [] rfl R (fun j i hj=>by simp at hj) (fun j o e i ho=>hs j o e i (by simpa using ho)) j i h
theorem zEm {ops : Array Oper} {S : Array Bool} (hc : zJs ops S) {j i : Nat} (h : ((masks ops).getD j 0).testBit i = true) (hj : In S j) : In S i :=
 zO6 (ops:=ops) (fun j i=>In S j → In S i) (fun j o e i ho he hb hcase hj=>by
  have h1:=hc j o hj ho e he hb
  rcases hcase with rfl | ⟨_,h2⟩
  ·exact h1
  ·exact h2 h1) h hj
structure DrawOk (ops : Array Oper) : Prop where
 lt : ∀ (j : Nat) o e,ops[j]? = some o → e ∈ o.after → Region.binds .any e = true → e.on < j
 uniq : ∀ (i j : Nat) oi oj x,i ≠ j → ops[i]? = some oi → oi.dst = some x → ops[j]? = some oj → oj.dst ≠ some x
 comp : ∀ (i j : Nat) oi oj x,i ≠ j → ops[i]? = some oi → oi.dst = some x → ops[j]? = some oj → x ∈ oj.looksAt ops → ((masks ops).getD j 0).testBit i = true ∨ ((masks ops).getD i 0).testBit j = true
theorem zXw {ops : Array Oper} (h : zHd ops = true) : DrawOk ops:=by
 unfold zHd at h
 rw [List.all_eq_true] at h
 have hj : ∀ (j : Nat) o,ops[j]? = some o → (o.after.toList.all fun e=>!Region.binds .any e || decide (e.on < j)) = true ∧ (List.range ops.size).all (zJ4 ops (masks ops) j o) = true:=by
  intro j o ho
  have hlt:=(Array.getElem?_eq_some_iff.1 ho).1
  have:=h j (by simpa using hlt)
  rw [ho] at this
  simpa only [Bool.and_eq_true] using this
 have hp : ∀ (i j : Nat) oi oj x,i ≠ j → ops[i]? = some oi → oi.dst = some x → ops[j]? = some oj → ((oj.dst != some x) && (!(oj.looksAt ops).contains x || ((masks ops).getD j 0).testBit i || ((masks ops).getD i 0).testBit j)) = true:=by
  intro i j oi oj x hne hi hx ho
  have h2:=(hj j oj ho).2
  rw [List.all_eq_true] at h2
  have hlt:=(Array.getElem?_eq_some_iff.1 hi).1
  have h3:=h2 i (by simpa using hlt)
  unfold zJ4 at h3
  rw [hi] at h3
  simp only [Option.bind_some,hx] at h3
  have hne' : (i == j) = false:=by simpa using hne
  rw [hne',Bool.false_or] at h3
  exact h3
 refine ⟨fun j o e ho he hb=>?_,fun i j oi oj x hne hi hx ho=>?_,fun i j oi oj x hne hi hx ho hl=>?_⟩
 ·have h1:=(hj j o ho).1
  rw [List.all_eq_true] at h1
  have:=h1 e (by simpa using he)
  rw [hb] at this
  simpa using this
 ·have:=hp i j oi oj x hne hi hx ho
  simp only [Bool.and_eq_true] at this
  simpa using this.1
 ·have:=hp i j oi oj x hne hi hx ho
  simp only [Bool.and_eq_true] at this
  have h2:=this.2
  have hc : (oj.looksAt ops).contains x = true:=by simpa using hl
  rw [hc] at h2
  simpa using h2
theorem zR8 {ops : Array Oper} (D : DrawOk ops) {j i : Nat} (h : ((masks ops).getD j 0).testBit i = true) : i < j :=
 zO6 (ops:=ops) (fun j i=>i < j) (fun j o e i ho he hb hcase=>by
  have h1:=D.lt j o e ho he hb
  rcases hcase with rfl | ⟨_,h2⟩
  ·exact h1
  ·exact Nat.lt_trans h2 h1) h
theorem St.extra {φ : Ren} {h : zAa} {w : World} (s : St φ h w) (k : ABlk) : St φ (h ++ [k]) w:=by
 refine ⟨fun b e hb=>?_,fun b b' e e' k1 k2 hb hb' hk1 hk2=>?_⟩
 ·obtain ⟨k',o,h1,h2,h3⟩:=s.dom b e hb
  exact ⟨k',o,by rw [List.getElem?_append_left (s.lt hb)]; exact h1,h2,h3⟩
 ·rw [List.getElem?_append_left (s.lt hb)] at hk1
  rw [List.getElem?_append_left (s.lt hb')] at hk2
  exact s.inj b b' e e' k1 k2 hb hb' hk1 hk2
theorem Ext.extra {φ0 : Ren} {h0 : zAa} {w0 : World} {φ : Ren} {h : zAa} {w : World} (s : St φ h w) (x : Ext φ0 h0 w0 φ h w) (k : ABlk) : Ext φ0 h0 w0 φ (h ++ [k]) w where
 hlen:=by have:=x.hlen; simp; omega
 wlen:=x.wlen
 os:=x.os
 tape:=x.tape
 output:=x.output
 old:=x.old
 afr b hb hn:=by rw [List.getElem?_append_left (Nat.lt_of_lt_of_le hb x.hlen)]; exact x.afr b hb hn
 im r hr ho:=by
  obtain ⟨b,e,k1,hb,h1,hk,hown⟩:=ho
  rw [List.getElem?_append_left (s.lt hb)] at hk
  exact x.im r hr ⟨b,e,k1,hb,h1,hk,hown⟩
 cfr:=x.cfr
 lp b L hL:=by
  obtain ⟨L',hL'⟩:=x.lp b L hL
  exact ⟨L',by rw [List.getElem?_append_left (List.getElem?_eq_some_iff.1 hL').1]; exact hL'⟩
theorem St.late {φ0 : Ren} {h0 : zAa} {w0 : World} {φ : Ren} {h : zAa} {w : World} (s : St φ h w) (x : Ext φ0 h0 w0 φ h w) {id : Nat} {cs : List AV} (hid : h[id]? = some (.rw cs)) (hn : φ id = none) (hge : h0.length ≤ id) {C : Array Value} (t : TypeId)
  (hr : VRels φ cs (C.toList.take cs.length)) :
  St (φ.put id ⟨w.heap.size,0,C.size⟩) h (w.alloc (.cells C t)) ∧ Ext φ0 h0 w0 (φ.put id ⟨w.heap.size,0,C.size⟩) h (w.alloc (.cells C t)):=by
 have hsub : ∀ b e,φ b = some e → (φ.put id ⟨w.heap.size,0,C.size⟩) b = some e:=fun b e hb=>by
  rw [Ren.put_other _ _ (fun q=>by subst q; rw [hn] at hb; cases hb)]; exact hb
 have hheap : ∀ r,r < w.heap.size → (w.alloc (.cells C t)).heap[r]? = w.heap[r]?:=fun r hr=>RowKit.Below.heap_alloc w _ r hr
 have hnew : (w.alloc (.cells C t)).heap[w.heap.size]? = some (.cells C t):=by show (w.heap.push _)[w.heap.size]? = _; simp
 have hcase : ∀ b e,(φ.put id ⟨w.heap.size,0,C.size⟩) b = some e → (b = id ∧ e = ⟨w.heap.size,0,C.size⟩) ∨ (b ≠ id ∧ φ b = some e):=fun b e hb=>by
  by_cases hx : b = id
  ·subst hx; rw [Ren.put_same] at hb; injection hb with hb; exact .inl ⟨rfl,hb.symm⟩
  ·rw [Ren.put_other _ _ hx] at hb; exact .inr ⟨hx,hb⟩
 refine ⟨⟨?_,?_⟩,?_⟩
 ·intro b e hb
  rcases hcase b e hb with ⟨rfl,rfl⟩ | ⟨hx,hb'⟩
  ·refine ⟨.rw cs,_,hid,hnew,C,t,_,rfl,Lo.zero _,rfl,?_,?_⟩
   ·have:=hr.length_eq; simp only [List.length_take,Array.length_toList] at this; simp; omega
   ·intro i a ha
    obtain ⟨v,hv,hrel⟩:=hr.get ha
    rw [List.getElem?_take] at hv
    split at hv
    ·exact ⟨v,by simpa using hv,hrel.mono hsub⟩
    ·cases hv
  ·obtain ⟨k',o',h1,h2,h3⟩:=s.dom b e hb'
   exact ⟨k',o',h1,by rw [hheap _ (s.wlt hb')]; exact h2,h3.mono hsub⟩
 ·intro b b' e e' k1 k2 hb hb' hk1 hk2 ho ha hne
  rcases hcase b e hb with ⟨rfl,rfl⟩ | ⟨hx,hb1⟩
  ·rcases hcase b' e' hb' with ⟨rfl,rfl⟩ | ⟨hx',hb1'⟩
   ·exact absurd rfl hne
   ·exact fun hq=>by have:=s.wlt hb1'; simp at hq; omega
  ·rcases hcase b' e' hb' with ⟨rfl,rfl⟩ | ⟨hx',hb1'⟩
   ·exact fun hq=>by have:=s.wlt hb1; simp at hq; omega
   ·exact s.inj b b' e e' k1 k2 hb1 hb1' hk1 hk2 ho ha hne
 ·refine ⟨x.hlen,by have:=x.wlen; show w0.heap.size ≤ (w.heap.push _).size; rw [Array.size_push]; omega,x.os,x.tape,x.output,fun b hb=>?_,x.afr,?_,fun r hr hn'=>?_,x.lp⟩
  ·rw [Ren.put_other _ _ (by omega)]; exact x.old b hb
  ·rintro r hr ⟨b,e,k1,hb,rfl,hk1,ho⟩
   rcases hcase b e hb with ⟨rfl,rfl⟩ | ⟨hx,hb'⟩
   ·have h1 : w.heap.size < w0.heap.size:=hr
    have:=x.wlen; omega
   ·exact x.im _ hr ⟨b,e,k1,hb',rfl,hk1,ho⟩
  ·rw [hheap r (Nat.lt_of_lt_of_le hr x.wlen)]; exact x.cfr r hr hn'
theorem zXs (p q : Nat → Bool) (hpq : ∀ i,q i = true → p i = true) {j : Nat} (hp : p j = true) (hq : q j = false) : ∀ (l : List Nat),j ∈ l → (l.filter q).length < (l.filter p).length:=by
 have le : ∀ l : List Nat,(l.filter q).length ≤ (l.filter p).length:=by
  intro l
  induction l with
  | nil=>simp
  | cons a l ih =>
   simp only [List.filter_cons]
   cases hqa : q a with
   | true=>simp only [hpq a hqa,if_true,List.length_cons]; omega
   | false=>simp only [Bool.false_eq_true,if_false]; split <;> (try simp only [List.length_cons]) <;> omega
 intro l
 induction l with
 | nil=>intro h; cases h
 | cons a l ih =>
  intro h
  simp only [List.filter_cons]
  rcases List.mem_cons.1 h with rfl | h
  ·simp only [hq,hp,Bool.false_eq_true,if_false,if_true,List.length_cons]
   have:=le l; omega
  ·have:=ih h
   cases hqa : q a with
   | true=>simp only [hpq a hqa,if_true,List.length_cons]; omega
   | false=>simp only [Bool.false_eq_true,if_false]; split <;> (try simp only [List.length_cons]) <;> omega
end Go.Proofs.YtbmmnfeeapnhkaaGreat.Eng
end
section
namespace Go.Proofs.YtbmmnfeeapnhkaaGreat.Eng
open Go
section
variable (P : Program) (ops : Array Oper) (t0 : List AV) (h0 : zAa)
def zG6 (i x : Nat) : Prop:=∃ o,ops[i]? = some o ∧ o.dst = some x
def Sees (tE : List AV) (i : Nat) (o : Oper) (T : List AV) : Prop :=
 ∀ x ∈ o.looksAt ops,(∀ k,zG6 ops k x → ((masks ops).getD i 0).testBit k = true → T[x]? = tE[x]?) ∧ ((∀ k,zG6 ops k x → ((masks ops).getD i 0).testBit k = false) → T[x]? = t0[x]?)
structure Pend (tE : List AV) (hE : zAa) (opens : List Open) (al : Nat → Nat → Prop) (φ : Ren) (i : Nat) (o : Oper) (b : Bool) (v : AV) : Prop where
 want : ∀ T,Sees ops t0 tE i o T → zC5 ops T o = some b
 val : ∀ d,o.dst = some d → d < t0.length → tE[d]? = some v
 skip : b = false → v = .undef
 run : b = true →
  (∀ T,Sees ops t0 tE i o T → ∀ hh,zBh P T o.op hh = some (v,hh)) ∨
  (zDc o.op = true ∧ (∀ T,Sees ops t0 tE i o T → zBh P T o.op hE = some (v,hE)) ∧ ∃ x ∈ opens,x.at_ = i ∧ x.val = v ∧ ∀ T,Sees ops t0 tE i o T → ∀ hh,x.again hh = zBh P T o.op hh) ∨
  (∃ cs id,reloc v id = v ∧ al i id ∧ hE[id]? = some (.rw cs) ∧ φ id = none ∧ h0.length ≤ id ∧ (∀ T,Sees ops t0 tE i o T → ∃ hh r,zBh P T o.op hh = some r) ∧
   ∀ T,Sees ops t0 tE i o T → ∀ φ w (a : Act),VRels φ T a.tmps.toList → zN5 P φ w ((execOp a.eval o).run P w) cs (reloc v))
structure Inv (L S : Array Bool) (tE tS : List AV) (hE : zAa) (opens : List Open) (al : Nat → Nat → Prop) (φ : Ren) : Prop where
 clL : zJs ops L
 clS : zJs ops S
 sub : ∀ i,In S i → In L i
 heavy : ∀ (i : Nat) o,In L i → ops[i]? = some o → zIv o.op = false → In S i
 lenS : tS.length = t0.length
 lenE : tE.length = t0.length
 szL : L.size = ops.size
 szS : S.size = ops.size
 b1 : ∀ i x,zG6 ops i x → In L i → ¬ In S i → tS[x]? = t0[x]?
 b2 : ∀ x : Nat,(∀ i,zG6 ops i x → In L i → In S i) → tS[x]? = tE[x]?
 b3 : ∀ x : Nat,(∀ i,zG6 ops i x → ¬ In L i) → tE[x]? = t0[x]?
 alinj : ∀ i i' id,al i id → al i' id → i = i'
 allt : ∀ i id,al i id → id < hE.length
 pend : ∀ (i : Nat) o,ops[i]? = some o → In L i → ¬ In S i → ∃ b v,Pend P ops t0 h0 tE hE opens al φ i o b v
end
variable {P : Program} {ops : Array Oper} {t0 : List AV} {h0 : zAa}
theorem zCo {t : List AV} {d : Option Tmp} {v : AV} {x : Nat} (h : d ≠ some x) : (putT t d v)[x]? = t[x]?:=by
 cases d with
 | none=>rfl
 | some i=>simp only [putT]; rw [List.getElem?_set_ne (fun q=>h (by rw [q]))]
theorem zH6 {t : List AV} {x : Nat} {v : AV} (h : x < t.length) : (putT t (some x) v)[x]? = some v:=by simp [putT,h]
theorem zE5 {t : List AV} {d : Option Tmp} {v : AV} : (putT t d v).length = t.length:=by cases d <;> simp [putT]
theorem zB6 {l : Array Bool} {i k : Nat} (hi : i < l.size) : In (l.setIfInBounds i true) k ↔ k = i ∨ In l k:=by
 unfold In
 by_cases h : k = i
 ·subst h; simp [Array.getD_eq_getD_getElem?,hi]
 ·rw [getD_set_ne _ (fun q=>h q.symm)]; simp [h]
theorem in_lt {l : Array Bool} {i : Nat} (h : In l i) : i < l.size:=by
 unfold In at h
 rw [Array.getD_eq_getD_getElem?] at h
 cases hx : l[i]? with
 | none=>rw [hx] at h; cases h
 | some b=>exact (Array.getElem?_eq_some_iff.1 hx).1
theorem zCv {l : Array Bool} (hsz : l.size = ops.size) {j : Nat} : j ∈ Region.ready .any ops l ↔ ¬ In l j ∧ ∃ o,ops[j]? = some o ∧ ∀ e ∈ o.after,Region.binds .any e = true → In l e.on:=by
 rw [mem_ready]
 constructor
 ·rintro ⟨h1,o,ho,h2⟩
  refine ⟨fun hin=>?_,o,ho,h2⟩
  have:=in_lt hin
  unfold In at hin
  rw [Array.getD_eq_getD_getElem?,Array.getElem?_eq_getElem this] at hin h1
  simp at hin h1
  rw [hin] at h1; cases h1
 ·rintro ⟨h1,o,ho,h2⟩
  refine ⟨?_,o,ho,h2⟩
  have hlt : j < l.size:=by rw [hsz]; exact (Array.getElem?_eq_some_iff.1 ho).1
  unfold In at h1
  rw [Array.getD_eq_getD_getElem?,Array.getElem?_eq_getElem hlt] at h1 ⊢
  simpa using h1
theorem zFr {l : Array Bool} (hsz : l.size = ops.size) (hc : zJs ops l) {j : Nat} (hj : j ∈ Region.ready .any ops l) : zJs ops (l.setIfInBounds j true):=by
 obtain ⟨h1,o,ho,h2⟩:=(zCv hsz).1 hj
 have hlt : j < l.size:=by rw [hsz]; exact (Array.getElem?_eq_some_iff.1 ho).1
 intro k o' hk ho' e he hb
 rw [zB6 hlt] at hk ⊢
 rcases hk with rfl | hk
 ·obtain rfl : o = o':=Option.some.inj (ho.symm.trans ho')
  exact .inr (h2 e he hb)
 ·exact .inr (hc k o' hk ho' e he hb)
theorem zEy (D : DrawOk ops) {i j x : Nat} (hi : zG6 ops i x) (hj : zG6 ops j x) : i = j:=by
 obtain ⟨oi,h1,h2⟩:=hi
 obtain ⟨oj,h3,h4⟩:=hj
 exact Classical.byContradiction fun hne=>D.uniq i j oi oj x hne h1 h2 h3 h4
theorem zRs (D : DrawOk ops) {L : Array Bool} {tE : List AV} {i n : Nat} {oi on : Oper} {T : List AV} {v : AV} (hc : zJs ops L) (hi : In L i) (hn : ¬ In L n) (hon : ops[n]? = some on)
  (h : Sees ops t0 (putT tE on.dst v) i oi T) : Sees ops t0 tE i oi T:=by
 intro x hx
 obtain ⟨h1,h2⟩:=h x hx
 refine ⟨fun k hk hb=>?_,h2⟩
 rw [h1 k hk hb]
 refine zCo fun hd=>?_
 have hkn:=zEy D hk ⟨on,hon,hd⟩
 subst hkn
 exact hn (zEm hc hb hi)
theorem sees_now (D : DrawOk ops) {L : Array Bool} (hsz : L.size = ops.size) {tE : List AV} {i : Nat} {o : Oper} {v : AV} (hc : zJs ops L) (hi : i ∈ Region.ready .any ops L) (ho : ops[i]? = some o)
  (b3 : ∀ x : Nat,(∀ i,zG6 ops i x → ¬ In L i) → tE[x]? = t0[x]?) {T : List AV} (h : Sees ops t0 (putT tE o.dst v) i o T) : ∀ x ∈ o.looksAt ops,T[x]? = tE[x]?:=by
 obtain ⟨hni,_⟩:=(zCv hsz).1 hi
 intro x hx
 obtain ⟨h1,h2⟩:=h x hx
 by_cases hw : ∃ k,zG6 ops k x ∧ ((masks ops).getD i 0).testBit k = true
 ·obtain ⟨k,hk,hb⟩:=hw
  rw [h1 k hk hb]
  refine zCo fun hd=>?_
  have:=zEy D hk ⟨o,ho,hd⟩
  subst this
  exact absurd (zR8 D hb) (Nat.lt_irrefl _)
 ·rw [h2 (fun k hk=>by
   cases hb : ((masks ops).getD i 0).testBit k with
   | false=>rfl
   | true=>exact absurd ⟨k,hk,hb⟩ hw)]
  refine (b3 x fun k hk hin=>?_).symm
  by_cases hki : k = i
  ·subst hki; exact hni hin
  ·obtain ⟨ok,hok,hdk⟩:=hk
   rcases D.comp k i ok o x hki hok hdk ho hx with hb | hb
   ·exact hw ⟨k,⟨ok,hok,hdk⟩,hb⟩
   ·exact hni (zEm hc hb hin)
theorem Inv.quiet (D : DrawOk ops) {L S : Array Bool} {tE tS : List AV} {hE : zAa} {opens : List Open} {al : Nat → Nat → Prop} {φ : Ren} (I : Inv P ops t0 h0 L S tE tS hE opens al φ) {i : Nat} {o : Oper} (hi : i ∈ Region.ready .any ops L) (ho : ops[i]? = some o)
  (hq : zIv o.op = true) {φ0 : Ren} {w0 w : World} (st : St φ hE w) (x0 : Ext φ0 h0 w0 φ hE w) {b : Bool} (hb : zC5 ops tE o = some b) {v : AV} {h2 : zAa} {opens2 : List Open}
  (hv : (b = false ∧ v = .undef ∧ h2 = hE ∧ opens2 = opens) ∨ (b = true ∧ zBh P tE o.op hE = some (v,h2) ∧ opens2 = (if zDc o.op then ⟨i,zBh P tE o.op,v⟩ :: opens else opens))) :
  ∃ al2,Inv P ops t0 h0 (L.setIfInBounds i true) S (putT tE o.dst v) tS h2 opens2 al2 φ ∧ St φ h2 w ∧ Ext φ0 h0 w0 φ h2 w:=by
 obtain ⟨hni,_⟩:=(zCv I.szL).1 hi
 have hlt : i < L.size:=by rw [I.szL]; exact (Array.getElem?_eq_some_iff.1 ho).1
 have hnS : ¬ In S i:=fun h=>hni (I.sub i h)
 have hdi : ∀ x,o.dst = some x → zG6 ops i x:=fun x hx=>⟨o,ho,hx⟩
 have now : ∀ T,Sees ops t0 (putT tE o.dst v) i o T → ∀ x ∈ o.looksAt ops,T[x]? = tE[x]?:=fun T hT=>sees_now D I.szL I.clL hi ho I.b3 hT
 have hheap : (h2 = hE ∧ (b = true → isA o.op = false ∨ True)) ∨ ∃ cs,isA o.op = true ∧ b = true ∧ h2 = hE ++ [.rw cs]:=by
  rcases hv with ⟨_,_,h,_⟩ | ⟨hb1,he,_⟩
  ·exact .inl ⟨h,fun _=>.inr trivial⟩
  ·cases hA : isA o.op with
   | true=>obtain ⟨cs,_,h3,_⟩:=zR9 hA he; exact .inr ⟨cs,rfl,hb1,h3⟩
   | false =>
    cases hr : zDc o.op with
    | true=>exact .inl ⟨(zGl hr he).1,fun _=>.inr trivial⟩
    | false=>exact .inl ⟨(zR3 hq hr hA he).1,fun _=>.inr trivial⟩
 have hpre : ∃ g,h2 = hE ++ g:=by
  rcases hheap with ⟨h,_⟩ | ⟨cs,_,_,h⟩
  ·exact ⟨[],by simp [h]⟩
  ·exact ⟨_,h⟩
 have hst : St φ h2 w ∧ Ext φ0 h0 w0 φ h2 w:=by
  rcases hheap with ⟨h,_⟩ | ⟨cs,_,_,h⟩
  ·rw [h]; exact ⟨st,x0⟩
  ·rw [h]; exact ⟨st.extra _,x0.extra st _⟩
 obtain ⟨g,hg⟩:=hpre
 have hopens : ∀ x ∈ opens,x ∈ opens2:=by
  rcases hv with ⟨_,_,_,h⟩ | ⟨_,_,h⟩
  ·rw [h]; exact fun x hx=>hx
  ·rw [h]; intro x hx; split
   ·exact List.mem_cons_of_mem _ hx
   ·exact hx
 refine ⟨fun k id=>al k id ∨ (k = i ∧ id = hE.length ∧ isA o.op = true ∧ b = true),⟨zFr I.szL I.clL hi,I.clS,fun k hk=>(zB6 hlt).2 (.inr (I.sub k hk)),?_,I.lenS,by rw [zE5]; exact I.lenE,by simp [I.szL],I.szS,?_,?_,?_,?_,?_,?_⟩,hst.1,hst.2⟩
 ·intro k o' hk ho' hq'
  rcases (zB6 hlt).1 hk with rfl | hk
  ·obtain rfl : o = o':=Option.some.inj (ho.symm.trans ho')
   rw [hq] at hq'; cases hq'
  ·exact I.heavy k o' hk ho' hq'
 ·intro k x hd hk hn
  rcases (zB6 hlt).1 hk with rfl | hk
  ·have hw : ∀ m,zG6 ops m x → ¬ In L m:=fun m hm=>by rw [zEy D hm hd]; exact hni
   rw [I.b2 x (fun m hm hin=>absurd hin (hw m hm)),I.b3 x hw]
  ·exact I.b1 k x hd hk hn
 ·intro x hx
  have hnd : o.dst ≠ some x:=fun hd=>hnS (hx i (hdi x hd) ((zB6 hlt).2 (.inl rfl)))
  rw [zCo hnd]
  exact I.b2 x fun m hm hin=>hx m hm ((zB6 hlt).2 (.inr hin))
 ·intro x hx
  have hnd : o.dst ≠ some x:=fun hd=>hx i (hdi x hd) ((zB6 hlt).2 (.inl rfl))
  rw [zCo hnd]
  exact I.b3 x fun m hm hin=>hx m hm ((zB6 hlt).2 (.inr hin))
 ·intro k k' id h1 h2
  rcases h1 with h1 | ⟨rfl,rfl,_⟩ <;> rcases h2 with h2 | ⟨rfl,h2,_⟩
  ·exact I.alinj k k' id h1 h2
  ·have:=I.allt k id h1; omega
  ·have:=I.allt k' _ h2; omega
  ·rfl
 ·intro k id h1
  rcases h1 with h1 | ⟨rfl,rfl,hA,hbt⟩
  ·have:=I.allt k id h1; rw [hg]; simp; omega
  ·rcases hheap with ⟨h,_⟩ | ⟨cs,_,_,h⟩
   ·exfalso
    rcases hv with ⟨hb1,_⟩ | ⟨_,he,_⟩
    ·rw [hb1] at hbt; cases hbt
    ·obtain ⟨cs,_,h3,_⟩:=zR9 hA he
     rw [h] at h3
     have:=congrArg List.length h3
     simp at this
   ·rw [h]; simp
 ·intro k ok hok hk hn
  rcases (zB6 hlt).1 hk with rfl | hkL
  ·obtain rfl : o = ok:=Option.some.inj (ho.symm.trans hok)
   refine ⟨b,v,?_,?_,?_,?_⟩
   ·intro T hT; rw [zHv (now T hT)]; exact hb
   ·intro d hd hlt'; rw [hd]; exact zH6 (by rw [I.lenE]; exact hlt')
   ·intro hbf
    rcases hv with ⟨_,h,_⟩ | ⟨hb1,_⟩
    ·exact h
    ·rw [hbf] at hb1; cases hb1
   ·intro hbt
    rcases hv with ⟨hb1,_⟩ | ⟨_,he,ho2⟩
    ·rw [hbt] at hb1; cases hb1
    ·have ev : ∀ T,Sees ops t0 (putT tE o.dst v) k o T → ∀ hh,zBh P tE o.op hh = zBh P T o.op hh:=fun T hT hh=>zJp (zK4 (fun x hx=>(now T hT x hx).symm)) hh
     cases hA : isA o.op with
     | true =>
      obtain ⟨cs,h3,h4,h5⟩:=zR9 hA he
      refine .inr (.inr ⟨cs,hE.length,h3,.inr ⟨rfl,rfl,rfl,hbt⟩,by rw [h4]; simp,?_,x0.hlen,fun T hT=>⟨hE,_,by rw [← ev T hT]; exact he⟩,fun T hT φ w a ha=>?_⟩)
      ·cases hφ : φ hE.length with
       | none=>rfl
       | some e=>exact absurd (st.lt hφ) (Nat.lt_irrefl _)
      ·have he2 : zBh P T o.op hE = some (v,h2):=by rw [← ev T hT]; exact he
       obtain ⟨cs',g3,g4,g5⟩:=zR9 hA he2
       have hcs : cs = cs':=by
        have:=h4.symm.trans g4
        have:=List.append_cancel_left this
        injection this with this _; injection this
       subst hcs
       exact g5 φ w a ha
     | false =>
      cases hr : zDc o.op with
      | true =>
       obtain ⟨h3,h4⟩:=zGl hr he
       refine .inr (.inl ⟨rfl,fun T hT=>?_,⟨k,zBh P tE o.op,v⟩,?_,rfl,rfl,ev⟩)
       ·rw [← ev T hT,h3]; rw [h3] at he; exact he
       ·rw [ho2,hr]; simp
      | false =>
       obtain ⟨h3,h4⟩:=zR3 hq hr hA he
       exact .inl fun T hT hh=>by rw [← ev T hT]; exact h4 hh
  ·have hne : k ≠ i:=fun q=>hni (q ▸ hkL)
   obtain ⟨b',v',p1,p2,p3,p4⟩:=I.pend k ok hok hkL hn
   have sp : ∀ T,Sees ops t0 (putT tE o.dst v) k ok T → Sees ops t0 tE k ok T:=fun T hT=>zRs D I.clL hkL hni ho hT
   refine ⟨b',v',fun T hT=>p1 T (sp T hT),fun d hd hlt'=>?_,p3,fun hbt=>?_⟩
   ·rw [zCo (fun hq=>hne (zEy D ⟨ok,hok,hd⟩ (hdi d hq)))]; exact p2 d hd hlt'
   ·rcases p4 hbt with h | ⟨h1,h2',⟨x,hx,h3,h4,h5⟩⟩ | ⟨cs,id,h1,h2',h3,h4,h5,h6,h7⟩
    ·exact .inl fun T hT hh=>h T (sp T hT) hh
    ·refine .inr (.inl ⟨h1,fun T hT=>?_,x,hopens x hx,h3,h4,fun T hT hh=>h5 T (sp T hT) hh⟩)
     rw [hg]; exact (zGl h1 (h2' T (sp T hT))).2 g
    ·exact .inr (.inr ⟨cs,id,h1,.inl h2',by rw [hg,List.getElem?_append_left (I.allt k id h2')]; exact h3,h4,h5,fun T hT=>h6 T (sp T hT),fun T hT=>h7 T (sp T hT)⟩)
end Go.Proofs.YtbmmnfeeapnhkaaGreat.Eng
end
section
namespace Go.Proofs.YtbmmnfeeapnhkaaGreat.Eng
open Go
variable {P : Program} {ops : Array Oper} {t0 : List AV} {h0 : zAa}
theorem zIw {t : List AV} {d : Option Tmp} {v : AV} {x : Nat} (h : ¬ x < t.length) : (putT t d v)[x]? = none:=by
 rw [List.getElem?_eq_none_iff,zE5]; omega
theorem zIz (D : DrawOk ops) {S : Array Bool} (hsz : S.size = ops.size) (hc : zJs ops S) {j k : Nat} (hj : j ∈ Region.ready .any ops S) (hb : ((masks ops).getD j 0).testBit k = true) : In S k:=by
 have hlt : j < S.size:=by
  obtain ⟨_,o,ho,_⟩:=(zCv hsz).1 hj
  rw [hsz]; exact (Array.getElem?_eq_some_iff.1 ho).1
 have h1:=zEm (zFr hsz hc hj) hb ((zB6 hlt).2 (.inl rfl))
 rcases (zB6 hlt).1 h1 with h2 | h2
 ·exact absurd (zR8 D hb) (by omega)
 ·exact h2
theorem zTg (D : DrawOk ops) {L S : Array Bool} {tE tS : List AV} {hE : zAa} {opens : List Open} {al : Nat → Nat → Prop} {φ : Ren} (I : Inv P ops t0 h0 L S tE tS hE opens al φ) {j : Nat} {o : Oper} (hj : j ∈ Region.ready .any ops S) (ho : ops[j]? = some o) (hL : In L j) :
  Sees ops t0 tE j o tS:=by
 have hnS : ¬ In S j:=((zCv I.szS).1 hj).1
 intro x hx
 refine ⟨fun k hk hb=>?_,fun hno=>?_⟩
 ·have hS:=zIz D I.szS I.clS hj hb
  exact I.b2 x fun i hi _=>by rw [zEy D hi hk]; exact hS
 ·by_cases hex : ∃ k,zG6 ops k x
  ·obtain ⟨k,hk⟩:=hex
   by_cases hkj : k = j
   ·subst hkj; exact I.b1 k x hk hL hnS
   ·obtain ⟨ok,hok,hdk⟩:=hk
    rcases D.comp k j ok o x hkj hok hdk ho hx with hb | hb
    ·rw [hno k ⟨ok,hok,hdk⟩] at hb; cases hb
    ·have hkS : ¬ In S k:=fun h=>hnS (zEm I.clS hb h)
     by_cases hkL : In L k
     ·exact I.b1 k x ⟨ok,hok,hdk⟩ hkL hkS
     ·have hu : ∀ m,zG6 ops m x → ¬ In L m:=fun m hm=>by rw [zEy D hm ⟨ok,hok,hdk⟩]; exact hkL
      rw [I.b2 x fun m hm hin=>absurd hin (hu m hm),I.b3 x hu]
  ·have hu : ∀ m,zG6 ops m x → ¬ In L m:=fun m hm=>absurd ⟨m,hm⟩ hex
   rw [I.b2 x fun m hm hin=>absurd hin (hu m hm),I.b3 x hu]
theorem Inv.sched (D : DrawOk ops) {L S : Array Bool} {tE tS : List AV} {hE : zAa} {opens : List Open} {al : Nat → Nat → Prop} {φ : Ren} (I : Inv P ops t0 h0 L S tE tS hE opens al φ) {j : Nat} {o : Oper} (hj : j ∈ Region.ready .any ops S) (ho : ops[j]? = some o) (hL : In L j)
  {v : AV} (hval : ∀ d,o.dst = some d → d < t0.length → tE[d]? = some v) {φ' : Ren} (hφ : ∀ k id,al k id → k ≠ j → φ id = none → φ' id = none) : Inv P ops t0 h0 L (S.setIfInBounds j true) tE (putT tS o.dst v) hE opens al φ':=by
 have hnS : ¬ In S j:=((zCv I.szS).1 hj).1
 have hlt : j < S.size:=by rw [I.szS]; exact (Array.getElem?_eq_some_iff.1 ho).1
 have hdj : ∀ x,o.dst = some x → zG6 ops j x:=fun x hx=>⟨o,ho,hx⟩
 refine ⟨I.clL,zFr I.szS I.clS hj,fun i hi=>?_,fun i o' hi ho' hq=>(zB6 hlt).2 (.inr (I.heavy i o' hi ho' hq)),by rw [zE5]; exact I.lenS,I.lenE,I.szL,by simp [I.szS],?_,?_,I.b3,I.alinj,I.allt,?_⟩
 ·rcases (zB6 hlt).1 hi with rfl | hi
  ·exact hL
  ·exact I.sub i hi
 ·intro i x hd hi hn
  have hij : i ≠ j:=fun q=>hn ((zB6 hlt).2 (.inl q))
  rw [zCo (fun hq=>hij (zEy D hd (hdj x hq)))]
  exact I.b1 i x hd hi fun h=>hn ((zB6 hlt).2 (.inr h))
 ·intro x hx
  by_cases hdx : o.dst = some x
  ·by_cases hl : x < t0.length
   ·rw [hval x hdx hl,hdx]; exact zH6 (by rw [I.lenS]; exact hl)
   ·rw [zIw (by rw [I.lenS]; exact hl)]
    exact (List.getElem?_eq_none_iff.2 (by rw [I.lenE]; omega)).symm
  ·rw [zCo hdx]
   refine I.b2 x fun i hi hin=>?_
   rcases (zB6 hlt).1 (hx i hi hin) with rfl | h
   ·obtain ⟨o',ho',hd'⟩:=hi
    obtain rfl : o = o':=Option.some.inj (ho.symm.trans ho')
    exact absurd hd' hdx
   ·exact h
 ·intro k ok hok hk hn
  have hkj : k ≠ j:=fun q=>hn ((zB6 hlt).2 (.inl q))
  obtain ⟨b,u,p1,p2,p3,p4⟩:=I.pend k ok hok hk fun h=>hn ((zB6 hlt).2 (.inr h))
  refine ⟨b,u,p1,p2,p3,fun hbt=>?_⟩
  rcases p4 hbt with h | h | ⟨cs,id,h1,h2,h3,h4,h5,h6,h7⟩
  ·exact .inl h
  ·exact .inr (.inl h)
  ·exact .inr (.inr ⟨cs,id,h1,h2,h3,hφ k id h2 hkj h4,h5,h6,h7⟩)
theorem zIp {M : List Nat} {j : Nat} {h : zAa} : ∀ {l : List Open},zFs M j h l = true → ∀ x ∈ l,(M.getD j 0).testBit x.at_ = true ∨ x.again h = some (x.val,h)
 | [],_,x,hx=>by cases hx
 | o :: l,hc,x,hx=>by
  simp only [zFs,Bool.and_eq_true,Bool.or_eq_true,decide_eq_true_eq] at hc
  rcases List.mem_cons.1 hx with rfl | hx
  ·exact hc.1
  ·exact zIp hc.2 x hx
theorem Inv.heavyStep (D : DrawOk ops) {L S : Array Bool} {tE tS : List AV} {hE h2 : zAa} {opens : List Open} {al : Nat → Nat → Prop} {φ φ' : Ren} (I : Inv P ops t0 h0 L S tE tS hE opens al φ) {j : Nat} {o : Oper} (hj : j ∈ Region.ready .any ops S) (ho : ops[j]? = some o) (hL : ¬ In L j)
  {v : AV} (hlen : hE.length ≤ h2.length) (hold : ∀ b,b < hE.length → φ' b = φ b) (hafr : ∀ b,b < hE.length → φ b = none → h2[b]? = hE[b]?)
  (hop : ∀ x ∈ opens,((masks ops).getD j 0).testBit x.at_ = true ∨ x.again h2 = some (x.val,h2) ∨ h2 = hE) :
  Inv P ops t0 h0 (L.setIfInBounds j true) (S.setIfInBounds j true) (putT tE o.dst v) (putT tS o.dst v) h2 opens al φ':=by
 obtain ⟨hnS,o',ho',he⟩:=(zCv I.szS).1 hj
 obtain rfl : o = o':=Option.some.inj (ho.symm.trans ho')
 have hltS : j < S.size:=by rw [I.szS]; exact (Array.getElem?_eq_some_iff.1 ho).1
 have hltL : j < L.size:=by rw [I.szL]; exact (Array.getElem?_eq_some_iff.1 ho).1
 have hjL : j ∈ Region.ready .any ops L:=(zCv I.szL).2 ⟨hL,o,ho,fun e h1 h2=>I.sub _ (he e h1 h2)⟩
 have hdj : ∀ x,o.dst = some x → zG6 ops j x:=fun x hx=>⟨o,ho,hx⟩
 refine ⟨zFr I.szL I.clL hjL,zFr I.szS I.clS hj,fun i hi=>?_,fun i oi hi hoi hq=>?_,by rw [zE5]; exact I.lenS,by rw [zE5]; exact I.lenE,by simp [I.szL],by simp [I.szS],?_,?_,?_,I.alinj,fun i id h=>Nat.lt_of_lt_of_le (I.allt i id h) hlen,?_⟩
 ·rcases (zB6 hltS).1 hi with rfl | hi
  ·exact (zB6 hltL).2 (.inl rfl)
  ·exact (zB6 hltL).2 (.inr (I.sub i hi))
 ·rcases (zB6 hltL).1 hi with rfl | hi
  ·exact (zB6 hltS).2 (.inl rfl)
  ·exact (zB6 hltS).2 (.inr (I.heavy i oi hi hoi hq))
 ·intro i x hd hi hn
  have hij : i ≠ j:=fun q=>hn ((zB6 hltS).2 (.inl q))
  rw [zCo (fun hq=>hij (zEy D hd (hdj x hq)))]
  rcases (zB6 hltL).1 hi with h | h
  ·exact absurd h hij
  ·exact I.b1 i x hd h fun h=>hn ((zB6 hltS).2 (.inr h))
 ·intro x hx
  by_cases hdx : o.dst = some x
  ·by_cases hl : x < t0.length
   ·rw [hdx,zH6 (by rw [I.lenS]; exact hl),zH6 (by rw [I.lenE]; exact hl)]
   ·rw [zIw (by rw [I.lenS]; exact hl),zIw (by rw [I.lenE]; exact hl)]
  ·rw [zCo hdx,zCo hdx]
   refine I.b2 x fun i hi hin=>?_
   rcases (zB6 hltS).1 (hx i hi ((zB6 hltL).2 (.inr hin))) with rfl | h
   ·exact absurd hin hL
   ·exact h
 ·intro x hx
  have hnd : o.dst ≠ some x:=fun hd=>hx j (hdj x hd) ((zB6 hltL).2 (.inl rfl))
  rw [zCo hnd]
  exact I.b3 x fun m hm hin=>hx m hm ((zB6 hltL).2 (.inr hin))
 ·intro k ok hok hk hn
  have hkj : k ≠ j:=fun q=>hn ((zB6 hltS).2 (.inl q))
  have hkL : In L k:=by
   rcases (zB6 hltL).1 hk with h | h
   ·exact absurd h hkj
   ·exact h
  have hkS : ¬ In S k:=fun h=>hn ((zB6 hltS).2 (.inr h))
  obtain ⟨b,u,p1,p2,p3,p4⟩:=I.pend k ok hok hkL hkS
  have sp : ∀ T,Sees ops t0 (putT tE o.dst v) k ok T → Sees ops t0 tE k ok T:=fun T hT=>zRs D I.clL hkL hL ho hT
  refine ⟨b,u,fun T hT=>p1 T (sp T hT),fun d hd hlt'=>?_,p3,fun hbt=>?_⟩
  ·rw [zCo (fun hq=>hkj (zEy D ⟨ok,hok,hd⟩ (hdj d hq)))]; exact p2 d hd hlt'
  ·rcases p4 hbt with h | ⟨h1,h2',⟨x,hx,h3,h4,h5⟩⟩ | ⟨cs,id,h1,h2',h3,h4,h5,h6,h7⟩
   ·exact .inl fun T hT hh=>h T (sp T hT) hh
   ·refine .inr (.inl ⟨h1,fun T hT=>?_,x,hx,h3,h4,fun T hT hh=>h5 T (sp T hT) hh⟩)
    rcases hop x hx with hb | hb | hb
    ·rw [h3] at hb
     exact absurd (zIz D I.szS I.clS hj hb) hkS
    ·rw [← h5 T (sp T hT),hb,h4]
    ·rw [hb]; exact h2' T (sp T hT)
   ·have hid:=I.allt k id h2'
    exact .inr (.inr ⟨cs,id,h1,h2',by rw [hafr id hid h4]; exact h3,by rw [hold id hid]; exact h4,h5,fun T hT=>h6 T (sp T hT),fun T hT=>h7 T (sp T hT)⟩)
theorem zRf (D : DrawOk ops) {E : Env} {S : Array Bool} {tS : List AV} {φ φ0 : Ren} {w0 w : World} {res : List AV × zAa} : ∀ (fuel : Nat) (L : Array Bool) (tE : List AV) (hE : zAa) (opens : List Open) (al : Nat → Nat → Prop),
  Inv P ops t0 h0 L S tE tS hE opens al φ → St φ hE w → Ext φ0 h0 w0 φ hE w → zBv P E ops fuel L tE hE opens = some res →
  ∃ fuel' L' tE' hE' opens' al',Inv P ops t0 h0 L' S tE' tS hE' opens' al' φ ∧ St φ hE' w ∧ Ext φ0 h0 w0 φ hE' w ∧ zBv P E ops fuel' L' tE' hE' opens' = some res ∧ (Region.ready .any ops L').find? (zEq ops) = none
 | 0,_,_,_,_,_,_,_,_,he=>by simp [zBv] at he
 | fuel + 1,L,tE,hE,opens,al,I,s,x,he=>by
  cases hf : (Region.ready .any ops L).find? (zEq ops) with
  | none=>exact ⟨fuel + 1,L,tE,hE,opens,al,I,s,x,he,hf⟩
  | some i =>
   have hi : i ∈ Region.ready .any ops L:=List.mem_of_find?_eq_some hf
   have hqi : zEq ops i = true:=List.find?_some hf
   simp only [zBv] at he
   cases hr : Region.ready .any ops L with
   | nil=>rw [hr] at hi; cases hi
   | cons r0 rest =>
    rw [hr] at he hf
    simp only [hf] at he
    obtain ⟨_,o,ho,_⟩:=(zCv I.szL).1 hi
    have hq : zIv o.op = true:=by unfold zEq at hqi; rw [ho] at hqi; exact hqi
    rw [ho] at he
    simp only at he
    obtain ⟨b,hb,he⟩:=Option.bind_eq_some_iff.1 he
    cases b with
    | true =>
     simp only [if_true] at he
     obtain ⟨⟨v,h2⟩,hv,he⟩:=Option.bind_eq_some_iff.1 he
     obtain ⟨al2,I2,s2,x2⟩:=I.quiet D hi ho hq s x hb (v:=v) (h2:=h2) (opens2:=_) (.inr ⟨rfl,hv,rfl⟩)
     exact zRf D fuel _ _ _ _ al2 I2 s2 x2 he
    | false =>
     simp only [Bool.false_eq_true,if_false] at he
     obtain ⟨al2,I2,s2,x2⟩:=I.quiet D hi ho hq s x hb (v:=.undef) (h2:=hE) (opens2:=opens) (.inl ⟨rfl,rfl,rfl,rfl⟩)
     exact zRf D fuel _ _ _ _ al2 I2 s2 x2 he
theorem zLm (D : DrawOk ops) {S : Array Bool} (hsz : S.size = ops.size) (h : Region.ready .any ops S = []) : ∀ n i,i < n → i < ops.size → In S i:=by
 intro n
 induction n with
 | zero=>intro i hi; omega
 | succ n ih =>
  intro i hi hlt
  by_cases hin : In S i
  ·exact hin
  ·exfalso
   have : i ∈ Region.ready .any ops S:=(zCv hsz).2 ⟨hin,ops[i],Array.getElem?_eq_getElem hlt,fun e he hb=>by
    have:=D.lt i _ e (Array.getElem?_eq_getElem hlt) he hb
    exact ih e.on (by omega) (by omega)⟩
   rw [h] at this; cases this
theorem zHc {S : Array Bool} (hsz : S.size = ops.size) (h : ∀ i,i < ops.size → In S i) : Region.ready .any ops S = []:=by
 refine List.eq_nil_iff_forall_not_mem.2 fun j hj=>?_
 obtain ⟨h1,o,ho,_⟩:=(zCv hsz).1 hj
 exact h1 (h j (Array.getElem?_eq_some_iff.1 ho).1)
def left (S : Array Bool) (n : Nat) : Nat:=((List.range n).filter fun i=>!S.getD i false).length
theorem left_set {S : Array Bool} (hsz : S.size = ops.size) {j : Nat} (hj : j < ops.size) (hn : ¬ In S j) : left (S.setIfInBounds j true) ops.size < left S ops.size:=by
 have hlt : j < S.size:=by rw [hsz]; exact hj
 have hn' : S.getD j false = false:=by unfold In at hn; simpa using hn
 refine zXs (fun i=>!S.getD i false) (fun i=>!(S.setIfInBounds j true).getD i false) (fun i hi=>?_) (j:=j) ?_ ?_ _ (by simpa using hj)
 ·cases hx : S.getD i false with
  | false=>rfl
  | true =>
   have : In (S.setIfInBounds j true) i:=(zB6 hlt).2 (.inr hx)
   unfold In at this
   simp only [this] at hi
   exact hi
 ·simp only [hn']; rfl
 ·have : In (S.setIfInBounds j true) j:=(zB6 hlt).2 (.inl rfl)
  unfold In at this
  simp only [this]; rfl
theorem zXb {S : Array Bool} {n : Nat} (h : left S n = 0) : ∀ i,i < n → In S i:=by
 intro i hi
 unfold left at h
 rw [List.length_eq_zero_iff,List.filter_eq_nil_iff] at h
 have:=h i (by simpa using hi)
 unfold In
 simpa using this
theorem draw_wp (g : Good P) {E : Env} (se : SoundE P E) (D : DrawOk ops) {r : Option Nat} {n : Nat} {ds : List Deferred} {w0 : World} {φ0 : Ren} {Q : Exit → Act → World → Prop} {t1 : List AV} {h1 : zAa}
  (hQ : ∀ φ' a' w',St φ' h1 w' → Ext φ0 h0 w0 φ' h1 w' → VRels φ' t1 a'.tmps.toList → a'.defers = ds → Q .normal a' w') :
  ∀ (k fuel : Nat) (L S : Array Bool) (tE tS : List AV) (hE : zAa) (opens : List Open) (al : Nat → Nat → Prop) (φ : Ren) (a : Act) (w : World),Inv P ops t0 h0 L S tE tS hE opens al φ → St φ hE w → Ext φ0 h0 w0 φ hE w → VRels φ tS a.tmps.toList → a.defers = ds →
   zBv P E ops fuel L tE hE opens = some (t1,h1) → left S ops.size ≤ k → wpAnyIn (W r) n P .any ops Q k S a w:=by
 have fin : ∀ (fuel : Nat) (L S : Array Bool) (tE tS : List AV) (hE : zAa) (opens : List Open) (al : Nat → Nat → Prop) (φ : Ren) (a : Act) (w : World),Inv P ops t0 h0 L S tE tS hE opens al φ → St φ hE w → Ext φ0 h0 w0 φ hE w → VRels φ tS a.tmps.toList → a.defers = ds →
   zBv P E ops fuel L tE hE opens = some (t1,h1) → Region.ready .any ops S = [] → Q .normal a w:=by
  intro fuel L S tE tS hE opens al φ a w I s x ht hd he hr
  have full:=fun i hi=>zLm D I.szS hr (i + 1) i (Nat.lt_succ_self i) hi
  have fullL : Region.ready .any ops L = []:=zHc I.szL fun i hi=>I.sub i (full i hi)
  cases fuel with
  | zero=>simp [zBv] at he
  | succ fuel =>
   simp only [zBv,fullL,Option.some.injEq,Prod.mk.injEq] at he
   obtain ⟨rfl,rfl⟩:=he
   have : tS = tE:=List.ext_getElem? fun i=>I.b2 i fun k hk _=>full k (by obtain ⟨o,ho,_⟩:=hk; exact (Array.getElem?_eq_some_iff.1 ho).1)
   subst this
   exact hQ φ a w s x ht hd
 intro k
 induction k with
 | zero =>
  intro fuel L S tE tS hE opens al φ a w I s x ht hd he hk
  have hr:=zHc I.szS (zXb (Nat.le_zero.1 hk))
  exact ⟨hr,fin fuel L S tE tS hE opens al φ a w I s x ht hd he hr⟩
 | succ k ih =>
  intro fuel L S tE tS hE opens al φ a w I s x ht hd he hk
  refine ⟨fun hr=>fin fuel L S tE tS hE opens al φ a w I s x ht hd he hr,fun j hj=>?_⟩
  obtain ⟨fuel,L,tE,hE,opens,al,I,s,x,he,hnq⟩:=zRf D fuel L tE hE opens al I s x he
  obtain ⟨hnS,o,ho,hedge⟩:=(zCv I.szS).1 hj
  have hlt : j < ops.size:=(Array.getElem?_eq_some_iff.1 ho).1
  have hk' : left (S.setIfInBounds j true) ops.size ≤ k:=by have:=left_set I.szS hlt hnS; omega
  unfold wpOpIn
  rw [ho]
  simp only
  by_cases hL : In L j
  ·obtain ⟨b,v,p1,p2,p3,p4⟩:=I.pend j o ho hL hnS
   have hsee:=zTg D I hj ho hL
   rw [zJ9 ht (p1 tS hsee)]
   cases b with
   | false =>
    obtain rfl:=p3 rfl
    simp only [Bool.false_eq_true,if_false]
    exact ⟨fun _ _=>trivial,ih fuel L _ tE _ hE opens al φ _ w (I.sched D hj ho hL p2 fun _ _ _ _ h=>h) s x (zHj ht _ .undef) (by rw [zEd]; exact hd) he hk'⟩
   | true =>
    simp only [if_true]
    have run1 : zBh P tS o.op hE = some (v,hE) → o.wpIn (W r) n P a w (wpAnyIn (W r) n P .any ops Q k (S.setIfInBounds j true)) Q:=fun hv=>by
     have hnd : ∀ c,o.op ≠ .defer c:=by
      intro c hc
      rw [hc] at hv
      simp [zBh] at hv
     refine ⟨fun _ _=>trivial,?_⟩
     rw [Oper.semAt_eq _ _ _ hnd]
     refine zG9 (zPm s ht hv) fun cv φ' w' q1 q2 q3=>?_
     exact ih fuel L _ tE _ hE opens al φ' _ w' (I.sched D hj ho hL p2 fun i id hal _ hn=>by rw [q3.old id (I.allt i id hal)]; exact hn) q2 (x.trans q3) (zHj (ht.ext s q3) _ q1) (by rw [zEd]; exact hd) he hk'
    rcases p4 rfl with h | ⟨_,h,_⟩ | ⟨cs,id,e1,e2,e3,e4,e5,e6,e7⟩
    ·exact run1 (h tS hsee hE)
    ·exact run1 (h tS hsee)
    ·have hnd : ∀ c,o.op ≠ .defer c:=by
      intro c hc
      obtain ⟨hh,r,hv⟩:=e6 tS hsee
      rw [hc] at hv
      simp [zBh] at hv
     refine ⟨fun _ _=>trivial,?_⟩
     rw [Oper.semAt_eq _ _ _ hnd]
     obtain ⟨C,ty,cv,f1,f2,f3⟩:=e7 tS hsee φ w a ht
     rw [f1]
     obtain ⟨s2,x2⟩:=s.late x e3 e4 e5 ty f2
     have hrel:=f3 _ id (Ren.put_same φ id ⟨w.heap.size,0,C.size⟩)
     rw [e1] at hrel
     have hsub : ∀ b e,φ b = some e → (φ.put id ⟨w.heap.size,0,C.size⟩) b = some e:=fun b e hb=>by
      rw [Ren.put_other _ _ (fun q=>by subst q; rw [e4] at hb; cases hb)]; exact hb
     refine ih fuel L _ tE _ hE opens al _ _ _ (I.sched D hj ho hL p2 fun i id' hal hne hn=>?_) s2 x2 (zHj (ht.mono hsub) _ hrel) (by rw [zEd]; exact hd) he hk'
     rw [Ren.put_other _ _ (fun q=>hne (I.alinj i j id (by rw [← q]; exact hal) e2))]; exact hn
  ·have hjL : j ∈ Region.ready .any ops L:=(zCv I.szL).2 ⟨hL,o,ho,fun e h1 h2=>I.sub _ (hedge e h1 h2)⟩
   cases fuel with
   | zero=>simp [zBv] at he
   | succ fuel =>
    have agree : ∀ y ∈ o.looksAt ops,tE[y]? = tS[y]?:=fun y hy=>(I.b2 y fun i hi hin=>by
     by_cases hS : In S i
     ·exact hS
     ·exfalso
      have hij : i ≠ j:=fun q=>hL (q ▸ hin)
      obtain ⟨oi,hoi,hdi⟩:=hi
      rcases D.comp i j oi o y hij hoi hdi ho hy with hb | hb
      ·exact hS (zIz D I.szS I.clS hj hb)
      ·exact hL (zEm I.clL hb hin)).symm
    simp only [zBv] at he
    cases hr : Region.ready .any ops L with
    | nil=>rw [hr] at hjL; cases hjL
    | cons r0 rest =>
     rw [hr] at he hnq hjL
     simp only [hnq] at he
     split at he
     ·rename_i hemp
      have hrest : rest = []:=by simpa using hemp
      subst hrest
      obtain rfl : j = r0:=by simpa using hjL
      rw [ho] at he
      simp only at he
      obtain ⟨b,hb,he⟩:=Option.bind_eq_some_iff.1 he
      rw [zHv agree] at hb
      rw [zJ9 ht hb]
      cases b with
      | true =>
       simp only [if_true] at he ⊢
       obtain ⟨⟨v,h2⟩,hv,he⟩:=Option.bind_eq_some_iff.1 he
       split at he
       ·rename_i hco
        rw [zLp (zK4 agree)] at hv
        refine zWo g se s ht hv fun cv φ' w' q1 q2 q3=>?_
        exact ih fuel _ _ _ _ h2 opens al φ' _ w' (I.heavyStep D hj ho hL q3.hlen q3.old q3.afr fun y hy=>(zIp hco y hy).elim .inl fun h=>.inr (.inl h)) q2 (x.trans q3) (zHj (ht.ext s q3) _ q1) (by rw [zEd]; exact hd) he hk'
       ·cases he
      | false =>
       simp only [Bool.false_eq_true,if_false] at he ⊢
       exact ⟨fun _ _=>trivial,ih fuel _ _ _ _ hE opens al φ _ w (I.heavyStep D hj ho hL (Nat.le_refl _) (fun _ _=>rfl) (fun _ _ _=>rfl) fun y hy=>.inr (.inr rfl)) s x (zHj ht _ .undef) (by rw [zEd]; exact hd) he hk'⟩
     ·cases he
theorem zLl (g : Good P) {E : Env} (se : SoundE P E) (hD : zHd ops = true) {id : Nat} {r : Option Nat} {n : Nat} {ds : List Deferred} {w : World} {φ : Ren} {Q : Exit → Act → World → Prop} {t t1 : List AV} {h h1 : zAa} {a : Act}
  (hQ : ∀ φ' a' w',St φ' h1 w' → Ext φ h w φ' h1 w' → VRels φ' t1 a'.tmps.toList → a'.defers = ds → Q .normal a' w')
  (s : St φ h w) (ht : VRels φ t a.tmps.toList) (hd : a.defers = ds) (he : zBv P E ops (ops.size + 1) (Array.replicate ops.size false) t h [] = some (t1,h1)) : (Code.region id ops true).wpIn (W r) n P Q a w:=by
 have none_in : ∀ i,¬ In (Array.replicate ops.size false) i:=fun i hi=>by
  unfold In at hi
  rw [Array.getD_eq_getD_getElem?,Array.getElem?_replicate] at hi
  split at hi <;> cases hi
 refine wpIn_region_any g.mixed ?_
 refine draw_wp g se (zXw hD) (t0:=t) (h0:=h) hQ ops.size (ops.size + 1) (Array.replicate ops.size false) (Array.replicate ops.size false) t t h [] (fun _ _=>False) φ a w.drew ⟨?_,?_,fun i hi=>hi,fun i o hi=>absurd hi (none_in i),rfl,rfl,by simp,by simp,fun i x _ hi=>absurd hi (none_in i),fun _ _=>rfl,fun _ _=>rfl,fun _ _ _ h=>h.elim,fun _ _ h=>h.elim,fun i o _ hi=>absurd hi (none_in i)⟩ s.drew (Ext.drew φ h w) ht hd he ?_
 ·intro j o hj; exact absurd hj (none_in j)
 ·intro j o hj; exact absurd hj (none_in j)
 ·unfold left
  exact Nat.le_trans (List.length_filter_le _ _) (by simp)
end Go.Proofs.YtbmmnfeeapnhkaaGreat.Eng
end
section
namespace Go.Proofs.YtbmmnfeeapnhkaaGreat.Eng
open Go
def NoGoto (Q : Exit → Act → World → Prop) : Exit → Act → World → Prop
 | .goto _,_,_=>False
 | e,a,w=>Q e a w
section scope
variable {F : Fence} {n : Nat} {P : Program} {b : Frame} {a : Act} {k : List Item} {cs : List Frame} {w : World} {Q : Exit → Act → World → Prop}
theorem zDw {c : Code} : step P (lone (b.atR a (.code (.scope c) :: k)) cs w) = .next (lone (b.atR a (.code c :: .inScope c :: k)) cs w) :=
 step_lone_go (by simp [stepG,stepG.exec,Frame.atR])
theorem zLj {c : Code} : step P (lone (b.atR a (.inScope c :: k)) cs w) = .next (lone (b.atR a k) cs w) :=
 step_lone_go (by simp [stepG,stepG.exec,Frame.atR])
theorem zS9 {c : Code} (h : c.wpIn F n P (NoGoto Q) a w) : (Code.scope c).wpIn F n P Q a w:=by
 intro b k cs hro hb hr
 have h0 : (lone (b.atR a (.code (.scope c) :: k)) cs w).fenced P F:=fenced_calm hb hr rfl
 obtain ⟨e,a₁,w₁,hq,harr⟩:=h b (.inScope c :: k) cs hro hb hr
 cases e with
 | normal=>exact ⟨.normal,a₁,w₁,hq,.head h0 zDw (StepsIn.trans harr (.one (fenced_calm hb hr rfl) zLj))⟩
 | exit id =>
  have hx : exitTo id (.inScope c :: k) = exitTo id k:=by simp [exitTo]
  exact ⟨.exit id,a₁,w₁,hq,fun k' hk=>.head h0 zDw (harr.1 k' (by rw [hx]; exact hk)),
   fun hr' hk=>let ⟨k₁,h1,h2⟩:=harr.2 hr' (by rw [hx]; exact hk); ⟨k₁,h1,.head h0 zDw h2⟩⟩
 | goto l=>exact hq.elim
 | ret=>exact ⟨.ret,a₁,w₁,hq,ArrivesIn.of_steps (e:=.ret) (.one h0 zDw) harr⟩
 | panic ch=>exact ⟨.panic ch,a₁,w₁,hq,ArrivesIn.of_steps (e:=.panic ch) (.one h0 zDw) harr⟩
 | outgrown=>exact ⟨.outgrown,a₁,w₁,hq,ArrivesIn.of_steps (e:=.outgrown) (.one h0 zDw) harr⟩
end scope
def zHt (φ : Ren) (h : zAa) (r : Option Nat) : Prop:=∀ l,r = some l → ∃ b e L,φ b = some e ∧ e.blk = l ∧ h[b]? = some (.loop L)
theorem zHt.ext {φ φ' : Ren} {h h' : zAa} {w w' : World} {r : Option Nat} (s : St φ h w) (x : Ext φ h w φ' h' w') (i : zHt φ h r) : zHt φ' h' r:=by
 intro l hl
 obtain ⟨b,e,L,h1,h2,h3⟩:=i l hl
 obtain ⟨L',h4⟩:=x.lp b L h3
 exact ⟨b,e,L',x.sub s b e h1,h2,h4⟩
theorem Marks.lt {w : World} {lo : Nat} : ∀ {ds : List Deferred},Marks w lo ds → ∀ d ∈ ds,∀ q,d.target = .collected q → q < w.heap.size
 | _,.nil,d,hd,_,_=>by cases hd
 | _,.cons h hlo t hn,d,hd,q,hq=>by
  rcases List.mem_cons.1 hd with rfl | hd
  ·simp only [Target.collected.injEq] at hq
   subst hq
   exact (Array.getElem?_eq_some_iff.1 h).1
  ·exact t.lt d hd q hq
theorem Marks.append {w : World} {lo mid : Nat} {ds' : List Deferred} (t : Marks w lo ds') (hlo : lo ≤ mid) (hmid : ∀ d ∈ ds',∀ q,d.target = .collected q → q < mid) : ∀ {ds : List Deferred},Marks w mid ds → Marks w lo (ds ++ ds')
 | _,.nil=>t
 | _,.cons (r:=r) h hl t' hn=>.cons h (Nat.le_trans hlo hl) (Marks.append t hlo hmid t') (fun d hd q hq=>by
   rcases List.mem_append.1 hd with hd | hd
   ·exact hn d hd q hq
   ·have:=hmid d hd q hq; omega)
theorem Out.refl {φ : Ren} {h : zAa} {w : World} {t : List AV} {a : Act} (s : St φ h w) (ht : VRels φ t a.tmps.toList) (ex : Ex) : Out φ h w a.defers ex t h (exOf ex) a w :=
 ⟨rfl,φ,s,Ext.refl φ h w,ht,[],rfl,.nil⟩
theorem Out.trans {φ φ1 : Ren} {h h1 h2 : zAa} {w w1 w2 : World} {ds new1 : List Deferred} {ex : Ex} {t2 : List AV} {a1 a2 : Act} {e : Exit} (s1 : St φ1 h1 w1) (x1 : Ext φ h w φ1 h1 w1) (hd : a1.defers = new1 ++ ds) (m : Marks w1 w.heap.size new1)
  (o : Out φ1 h1 w1 a1.defers ex t2 h2 e a2 w2) : Out φ h w ds ex t2 h2 e a2 w2:=by
 obtain ⟨he,φ2,s2,x2,ht,new2,hd2,m2⟩:=o
 refine ⟨he,φ2,s2,x1.trans x2,ht,new2 ++ new1,by rw [hd2,hd,List.append_assoc],?_⟩
 exact Marks.append (m.mono (fun r hr=>x2.deferred s1 hr) (Nat.le_refl _)) x1.wlen m.lt m2
theorem zPl {K : Act → World → Prop} {φ : Ren} {h : zAa} {w : World} {ds : List Deferred} {t' : List AV} {h' : zAa} {e : Exit} {a' : Act} {w' : World} {R : Exit → Act → World → Prop} (o : Out φ h w ds .normal t' h' e a' w')
  (k : ∀ a' w',Out φ h w ds .normal t' h' .normal a' w' → K a' w') : Exit.then K R e a' w':=by
 obtain rfl : e = .normal:=o.1
 exact k a' w' o
theorem zW8 {P : Program} {body : Code} {r : Option Nat} {n : Nat} {f : List AV → zAa → Res}
  (ih : ∀ {t h φ} {a : Act} {w : World} {ex t' h'},St φ h w → VRels φ t a.tmps.toList → zHt φ h r → f t h = some (ex,t',h') → body.wpIn (W r) n P (Out φ h w a.defers ex t' h') a w) :
  ∀ (k : Nat) {t h φ} {a : Act} {w : World} {ex t' h'},St φ h w → VRels φ t a.tmps.toList → zHt φ h r → zFk k f t h = some (ex,t',h') → Code.roundsIn (W r) n P body (Out φ h w a.defers ex t' h') k a w
 | 0,_,_,_,_,_,_,_,_,_,_,_,he=>by simp [zFk] at he
 | k + 1,t,h,φ,a,w,ex,t',h',s,ht,hr,he=>by
  simp only [zFk] at he
  rw [roundsIn_succ]
  cases hb : f t h with
  | none=>rw [hb] at he; simp [seqR] at he
  | some p =>
   obtain ⟨e1,t1,h1⟩:=p
   rw [hb] at he
   refine wpIn_mono (ih s ht hr hb) fun e a1 w1 o=>?_
   cases e1 with
   | normal =>
    simp only [seqR] at he
    refine zPl o fun a1 w1 o=>?_
    obtain ⟨_,φ1,s1,x1,ht1,new1,hd1,m1⟩:=o
    have h2:=zW8 ih k s1 ht1 (hr.ext s x1) he
    have mono : ∀ (k : Nat) {Q Q' : Exit → Act → World → Prop},(∀ e a w,Q e a w → Q' e a w) → ∀ a w,Code.roundsIn (W r) n P body Q k a w → Code.roundsIn (W r) n P body Q' k a w:=by
     intro k
     induction k with
     | zero=>intro Q Q' _ a w h; exact h.elim
     | succ k ihk =>
      intro Q Q' hq a w h
      rw [roundsIn_succ] at h ⊢
      refine wpIn_mono h fun e a w h=>?_
      cases e with
      | normal=>exact ihk hq a w h
      | _=>exact hq _ _ _ h
    exact mono k (fun e a w o=>Out.trans s1 x1 hd1 m1 o) _ _ h2
   | exit id =>
    simp only [seqR,Option.some.injEq,Prod.mk.injEq] at he
    obtain ⟨rfl,rfl,rfl⟩:=he
    obtain rfl : e = .exit id:=o.1
    exact o
   | ret =>
    simp only [seqR,Option.some.injEq,Prod.mk.injEq] at he
    obtain ⟨rfl,rfl,rfl⟩:=he
    obtain rfl : e = .ret:=o.1
    exact o
theorem zQ2 {P : Program} (g : Good P) {E : Env} (se : SoundE P E) {r : Option Nat} {n : Nat} : ∀ (c : Code) {t : List AV} {h : zAa} {φ : Ren} {a : Act} {w : World} {ex : Ex} {t' : List AV} {h' : zAa},
  St φ h w → VRels φ t a.tmps.toList → zHt φ h r → zAi P E c t h = some (ex,t',h') → c.wpIn (W r) n P (Out φ h w a.defers ex t' h') a w:=by
 intro c
 induction c with
 | skip =>
  intro t h φ a w ex t' h' s ht hr he
  simp only [zAi,Option.some.injEq,Prod.mk.injEq] at he
  obtain ⟨rfl,rfl,rfl⟩:=he
  exact wpIn_skip (Out.refl s ht .normal)
 | label l =>
  intro t h φ a w ex t' h' s ht hr he
  simp only [zAi,Option.some.injEq,Prod.mk.injEq] at he
  obtain ⟨rfl,rfl,rfl⟩:=he
  exact wpIn_label (Out.refl s ht .normal)
 | exit id =>
  intro t h φ a w ex t' h' s ht hr he
  simp only [zAi,Option.some.injEq,Prod.mk.injEq] at he
  obtain ⟨rfl,rfl,rfl⟩:=he
  exact wpIn_exit (Out.refl s ht (.exit id))
 | ret =>
  intro t h φ a w ex t' h' s ht hr he
  simp only [zAi,Option.some.injEq,Prod.mk.injEq] at he
  obtain ⟨rfl,rfl,rfl⟩:=he
  exact wpIn_ret (Out.refl s ht .ret)
 | goto l=>intro t h φ a w ex t' h' s ht hr he; simp [zAi] at he
 | refuse=>intro t h φ a w ex t' h' s ht hr he; simp [zAi] at he
 | region id ops draw =>
  intro t h φ a w ex t' h' s ht hr he
  simp only [zAi] at he
  cases draw with
  | true =>
   simp only [if_true] at he
   split at he
   ·rename_i hD
    obtain ⟨⟨t1,h1⟩,hv,he⟩:=Option.map_eq_some_iff.1 he
    simp only [Prod.mk.injEq] at he
    obtain ⟨rfl,rfl,rfl⟩:=he
    exact zLl g se hD (fun φ' a' w' s' x' ht' hd'=>⟨rfl,φ',s',x',ht',[],hd',.nil⟩) s ht rfl hv
   ·simp [zNj] at he
  | false =>
   simp only [Bool.false_eq_true,if_false] at he
   obtain ⟨⟨t1,h1⟩,hv,he⟩:=Option.map_eq_some_iff.1 he
   simp only [Prod.mk.injEq] at he
   obtain ⟨rfl,rfl,rfl⟩:=he
   exact wpIn_region (zSa g se (ds:=a.defers) (h0:=h) (w0:=w) (φ0:=φ) (fun φ' a' w' s' x' ht' hd'=>⟨rfl,φ',s',x',ht',[],hd',.nil⟩) _ t h φ a w s (Ext.refl φ h w) ht rfl hv)
 | seq x y ihx ihy =>
  intro t h φ a w ex t' h' s ht hr he
  simp only [zAi] at he
  cases hb : zAi P E x t h with
  | none=>rw [hb] at he; simp [seqR] at he
  | some p =>
   obtain ⟨e1,t1,h1⟩:=p
   rw [hb] at he
   refine wpIn_seq (wpIn_mono (ihx s ht hr hb) fun e a1 w1 o=>?_)
   cases e1 with
   | normal =>
    simp only [seqR] at he
    refine zPl o fun a1 w1 o=>?_
    obtain ⟨_,φ1,s1,x1,ht1,new1,hd1,m1⟩:=o
    exact wpIn_mono (ihy s1 ht1 (hr.ext s x1) he) fun e a2 w2 o2=>Out.trans s1 x1 hd1 m1 o2
   | exit id =>
    simp only [seqR,Option.some.injEq,Prod.mk.injEq] at he
    obtain ⟨rfl,rfl,rfl⟩:=he
    obtain rfl : e = .exit id:=o.1
    exact o
   | ret =>
    simp only [seqR,Option.some.injEq,Prod.mk.injEq] at he
    obtain ⟨rfl,rfl,rfl⟩:=he
    obtain rfl : e = .ret:=o.1
    exact o
 | cond c x y ihx ihy =>
  intro t h φ a w ex t' h' s ht hr he
  simp only [zAi] at he
  have hc:=zA1 ht c
  generalize hcv : zBk t c = cv at hc he
  unfold zNw at he
  split at he
  ·generalize hca : a.eval c = ca at hc
   cases hc
   exact wpIn_cond_true hca (ihx s ht hr he)
  ·generalize hca : a.eval c = ca at hc
   cases hc
   exact wpIn_cond_false hca (ihy s ht hr he)
  ·cases he
 | block id b ih =>
  intro t h φ a w ex t' h' s ht hr he
  simp only [zAi] at he
  cases hb : zAi P E b t h with
  | none=>rw [hb] at he; simp [zBr] at he
  | some p =>
   obtain ⟨e1,t1,h1⟩:=p
   rw [hb] at he
   refine wpIn_block (wpIn_mono (ih s ht hr hb) fun e a1 w1 o=>?_)
   cases e1 with
   | normal =>
    simp only [zBr,Option.some.injEq,Prod.mk.injEq] at he
    obtain ⟨rfl,rfl,rfl⟩:=he
    obtain rfl : e = .normal:=o.1
    exact o
   | ret =>
    simp only [zBr,Option.some.injEq,Prod.mk.injEq] at he
    obtain ⟨rfl,rfl,rfl⟩:=he
    obtain rfl : e = .ret:=o.1
    exact o
   | exit j =>
    obtain rfl : e = .exit j:=o.1
    simp only [zBr] at he
    simp only [Exit.inBlock]
    split at he
    ·rename_i hj
     simp only [Option.some.injEq,Prod.mk.injEq] at he
     obtain ⟨rfl,rfl,rfl⟩:=he
     rw [if_pos hj]
     exact ⟨rfl,o.2⟩
    ·rename_i hj
     simp only [Option.some.injEq,Prod.mk.injEq] at he
     obtain ⟨rfl,rfl,rfl⟩:=he
     rw [if_neg hj]
     exact o
 | loop b ih =>
  intro t h φ a w ex t' h' s ht hr he
  simp only [zAi] at he
  obtain ⟨k,hk⟩:=se.loop _ _ _ _ he
  exact wpIn_loop_rounds k (zW8 ih k s ht hr hk)
 | scope b ih =>
  intro t h φ a w ex t' h' s ht hr he
  simp only [zAi] at he
  refine zS9 (wpIn_mono (ih s ht hr he) fun e a1 w1 o=>?_)
  cases e with
  | goto l=>have:=o.1; cases ex <;> cases this
  | _=>exact o
 | rangeFunc f ps assign body =>
  intro t h φ a w ex t' h' s ht hr he
  simp only [zAi] at he
  have hf:=zA1 ht f
  unfold zCr at he
  obtain ⟨⟨v,h2⟩,hcall,he⟩:=Option.bind_eq_some_iff.1 he
  unfold zLr at hcall
  split at hcall
  ·rename_i gf cap hfv
   rw [hfv] at hf
   generalize hcf : a.eval f = cf at hf
   cases hf with
   | fn hc =>
    rename_i caps
    have hse:=se.call _ _ _ _ _ hcall
    have hse:=hse.resolve_right (fun q=>q.1 _ _ rfl)
    obtain ⟨hex,hcall⟩:=hse
    refine wpIn_rangeFunc fun fn _=>?_
    have tail : ∀ (w0 : World) (rec : Loop) (mark : List Deferred),St φ h w0 → Ext φ h w φ h w0 → Marks w0 w.heap.size mark → rec.state = .ready → rec.pending = none → rec.tmps = a.tmps → rec.params = ps → rec.assign = assign → rec.body = body →
      ∃ d w₁' g args w₂,(resolve a.eval (rangeCall f w0.heap.size) 0).run P (w0.alloc (.loop rec)) = .ok d w₁' ∧ (∀ f',Target.leads P w₁' d.target d.args = some f' → (W r).fn f') ∧ (invoke d.target d.args).run P w₁' = .ok (.enter g args) w₂ ∧
       ((W r).depth.isSome = true → 1 ≤ n) ∧ CallsIn (W r) (n - 1) P g args w₂ (rangePost (W r) n P w0.heap.size (Out φ h w a.defers ex t' h') { a with defers:=mark ++ a.defers }):=by
     intro w0 rec mark s0 x0 m0 r1 r2 r3 r4 r5 r6
     refine ⟨⟨.fn (.func gf) caps.toArray,#[] ++ #[.func (.yield w0.heap.size) #[] #[]]⟩,w0.alloc (.loop rec),gf,#[.func (.yield w0.heap.size) #[] #[]] ++ caps.toArray,w0.alloc (.loop rec),?_,fun _ _=>trivial,?_,?_,?_⟩
     ·have hm : (#[Operand.const (.func (.yield w0.heap.size) #[] #[])] : Array Operand).map a.eval = #[.func (.yield w0.heap.size) #[] #[]]:=by rw [List.map_toArray]; rfl
      simp only [resolve,hcf,Deferred.ofValue,Sem.run_pure,hm]
     ·simp only [invoke,Array.empty_append]
      exact zJi g hex
     ·intro hd; cases hd
     ·obtain ⟨s1,x1⟩:=s0.alloc (k:=.loop ⟨.ready,.normal,t,ps.toList,assign,body⟩) (o:=.loop rec) (base:=0) (size:=0) (fun ψ hψ=>⟨rec,rfl,r1,r2,by rw [r3]; exact ht.mono hψ,by rw [r4],r5,r6⟩)
      have hput:=Ren.put_same φ h.length ⟨w0.heap.size,0,0⟩
      have hcs:=hcall _ _ (#[.func (.yield w0.heap.size) #[] #[]] ++ caps.toArray) (n - 1) s1 (by
       simp only [Array.toList_append,List.cons_append,List.nil_append]
       exact .cons (.yld (e:=⟨w0.heap.size,0,0⟩) hput) ((hc.ext s0 x1)))
      refine CallsIn.mono (F:=W r) hcs ?_
      rintro e w3 ⟨cv,φ2,rfl,hrel,s2,x2⟩
      simp only at he
      split at he
      ·rename_i L hL
       split at he
       ·cases he
       ·rename_i hnb
        simp only [Option.some.injEq,Prod.mk.injEq] at he
        obtain ⟨rfl,rfl,rfl⟩:=he
        have hφl : φ2 h.length = some ⟨w0.heap.size,0,0⟩:=by rw [x2.old _ (by simp)]; exact hput
        obtain ⟨k,o,hk,ho,hbr⟩:=s2.dom _ _ hφl
        obtain rfl : ABlk.loop L = k:=Option.some.inj (hL.symm.trans hk)
        obtain ⟨R,rfl,q1,q2,q3,q4,q5,q6⟩:=hbr
        obtain ⟨s3,x3⟩:=s2.turn (w':=w3.putObj w0.heap.size (.loop { R with state:=.exhausted })) (o':=.loop { R with state:=.exhausted }) (k':=.loop { L with st:=.exhausted }) hφl hL rfl ⟨_,rfl,rfl,q2,q3,q4,q5,q6⟩ rfl (fun L' _=>⟨_,rfl⟩)
        refine ⟨L.pend.code,_,by rw [← q2]; exact run_endLoop ho (by rw [q1]; exact hnb),?_⟩
        have xx:=((x0.trans x1).trans x2).trans x3
        have mm : Marks (w3.putObj w0.heap.size (.loop { R with state:=.exhausted })) w.heap.size mark:=m0.mono (fun q hq=>((x1.trans x2).trans x3).deferred s0 hq) (Nat.le_refl _)
        have fin : Out φ h w a.defers L.pend t (h2.set h.length (.loop { L with st:=.exhausted })) (exOf L.pend) { a with defers:=mark ++ a.defers } (w3.putObj w0.heap.size (.loop { R with state:=.exhausted })) :=
         ⟨rfl,φ2,s3,xx,ht.ext s xx,mark,rfl,mm⟩
        cases hp : L.pend with
        | normal=>rw [hp] at fin; exact fin
        | exit id=>rw [hp] at fin; exact wpIn_exit fin
        | ret=>rw [hp] at fin; exact wpIn_ret fin
      ·cases he
    cases r with
    | none =>
     obtain ⟨s0,x0⟩:=s.aside (.deferred (some []))
     obtain ⟨d,w₁',gg,args,w₂,t1,t2,t3,t4,t5⟩:=tail (w.alloc (.deferred (some []))) { state:=.ready,pending:=none,fn,tmps:=a.tmps,params:=ps,assign,body,defers:=w.heap.size } [{ target:=.collected w.heap.size,args:=#[] }] s0 x0
      (.cons (World.alloc_heap_new w _) (Nat.le_refl _) .nil (fun d hd=>by cases hd)) rfl rfl rfl rfl rfl rfl
     refine ⟨_,_,_,d,w₁',gg,args,w₂,run_enterLoop_outer fn a.tmps ps assign body,?_⟩
     rw [← World.size_alloc]
     exact ⟨t1,t2,t3,t4,t5⟩
    | some l0 =>
     obtain ⟨b,e,L,hb,rfl,hL⟩:=hr l0 rfl
     obtain ⟨k,o,hk,ho,hbr⟩:=s.dom _ _ hb
     obtain rfl : ABlk.loop L = k:=Option.some.inj (hL.symm.trans hk)
     obtain ⟨R,rfl,_⟩:=hbr
     obtain ⟨d,w₁',gg,args,w₂,t1,t2,t3,t4,t5⟩:=tail w { state:=.ready,pending:=none,fn,tmps:=a.tmps,params:=ps,assign,body,defers:=R.defers } [] s (Ext.refl φ h w) .nil rfl rfl rfl rfl rfl rfl
     exact ⟨_,_,_,d,w₁',gg,args,w₂,run_enterLoop_inner ho fn a.tmps ps assign body,t1,t2,t3,t4,t5⟩
  ·cases hcall
end Go.Proofs.YtbmmnfeeapnhkaaGreat.Eng
end
section
namespace Go.Proofs.YtbmmnfeeapnhkaaGreat.Eng
open Go
variable {P : Program}
def zV7 (tmps : Array Value) : ResultVar → Sem Value
 | .tmp t=>pure (tmps.getD t undef)
 | .cell a t=>do loadVar t (← asAddr (tmps.getD a undef))
theorem zIu {φ : Ren} {h : zAa} {w : World} {t : List AV} {tmps : Array Value} (s : St φ h w) (ht : VRels φ t tmps.toList) : ∀ (rs : List ResultVar) {vs : List AV},zDr P t h rs = some vs →
  ∃ cvs : List Value,(rs.mapM (zV7 tmps)).run P w = .ok cvs w ∧ VRels φ vs cvs
 | [],vs,hv=>by
  simp only [zDr,Option.some.injEq] at hv
  subst hv
  exact ⟨[],by simp [List.mapM_nil],.nil⟩
 | .tmp i :: rs,vs,hv=>by
  simp only [zDr] at hv
  obtain ⟨vs',hv',rfl⟩:=Option.map_eq_some_iff.1 hv
  obtain ⟨cvs,h1,h2⟩:=zIu s ht rs hv'
  refine ⟨tmps.getD i undef :: cvs,?_,.cons (zA1 (a:=⟨tmps,[]⟩) ht (.tmp i)) h2⟩
  rw [List.mapM_cons]
  simp only [zV7,Sem.run_bind,Sem.run_pure,Result.andThen_ok,h1]
 | .cell a e :: rs,vs,hv=>by
  simp only [zDr] at hv
  obtain ⟨d,hd,hv⟩:=Option.bind_eq_some_iff.1 hv
  obtain ⟨x,hx,hv⟩:=Option.bind_eq_some_iff.1 hv
  obtain ⟨vs',hv',rfl⟩:=Option.map_eq_some_iff.1 hv
  obtain ⟨cvs,h1,h2⟩:=zIu s ht rs hv'
  obtain ⟨ad,cv,g1,g2,g3⟩:=zKl s hd (zA1 (a:=⟨tmps,[]⟩) ht (.tmp a)) hx
  have g1' : tmps.getD a undef = .pointer (some ad):=g1
  refine ⟨cv :: cvs,?_,.cons g3 h2⟩
  rw [List.mapM_cons]
  simp only [zV7,Sem.run_bind,g1',asAddr,Sem.run_pure,Result.andThen_ok,g2,h1]
theorem zTn {φ : Ren} {h : zAa} {w : World} {t : List AV} {tmps : Array Value} (s : St φ h w) (ht : VRels φ t tmps.toList) {fn : Func} {vs : List AV} (hv : zDr P t h fn.results.toList = some vs) :
  ∃ cv,(results fn tmps).run P w = .ok cv w ∧ VRel φ (zHl vs) cv:=by
 obtain ⟨cvs,h1,h2⟩:=zIu s ht _ hv
 refine ⟨if h : cvs.toArray.size = 1 then cvs.toArray[0] else .tuple cvs.toArray,?_,?_⟩
 ·have h1' : (fn.results.mapM (zV7 tmps)).run P w = .ok cvs.toArray w:=by
   rw [Array.mapM_eq_mapM_toList]
   simp only [← bind_pure_comp,Sem.run_bind,h1,Result.andThen_ok,Sem.run_pure]
  show (do let vs ← fn.results.mapM (zV7 tmps); pure (if h : vs.size = 1 then vs[0] else .tuple vs) : Sem Value).run P w = _
  simp only [Sem.run_bind,h1',Result.andThen_ok,Sem.run_pure]
 ·cases h2 with
  | nil=>exact .tup .nil
  | cons h t =>
   cases t with
   | nil=>simpa [zHl] using h
   | cons h' t'=>simpa [zHl] using VRel.tup (.cons h (.cons h' t'))
theorem St.taken {φ φ' : Ren} {h h' : zAa} {w w' : World} (s : St φ' h' w') (x : Ext φ h w φ' h' w') {q : Nat} {l : Option (List Deferred)} (hq : w'.heap[q]? = some (.deferred l)) (hge : w.heap.size ≤ q) :
  St φ' h' (w'.putObj q (.deferred none)) ∧ Ext φ h w φ' h' (w'.putObj q (.deferred none)):=by
 have hsz : (w'.putObj q (.deferred none)).heap.size = w'.heap.size:=by simp [World.putObj]
 refine ⟨⟨fun b e hb=>?_,s.inj⟩,⟨x.hlen,by rw [hsz]; exact x.wlen,x.os,x.tape,x.output,x.old,x.afr,x.im,fun r hr hn=>?_,x.lp⟩⟩
 ·obtain ⟨k,o,h1,h2,h3⟩:=s.dom b e hb
  by_cases he : e.blk = q
  ·rw [he] at h2
   obtain rfl : o = .deferred l:=Option.some.inj (h2.symm.trans hq)
   refine ⟨k,.deferred none,h1,by rw [he]; exact World.putObj_heap_same (Array.getElem?_eq_some_iff.1 hq).1,?_⟩
   cases k with
   | dead=>trivial
   | ro cs=>obtain ⟨C,t,fz,hc,_⟩:=h3; cases hc
   | rw cs=>obtain ⟨C,t,fz,hc,_⟩:=h3; cases hc
   | loop L=>obtain ⟨R,hc,_⟩:=h3; cases hc
  ·exact ⟨k,o,h1,by rw [World.putObj_heap_other he]; exact h2,h3⟩
 ·rw [World.putObj_heap_other (by omega)]; exact x.cfr r hr hn
theorem zO9 {fn : Func} {n : Nat} {φ : Ren} {h : zAa} {w : World} {φ' : Ren} {h' : zAa} {t' : List AV} {tmps : Array Value} {vs : List AV} (ht : VRels φ' t' tmps.toList) (hv : zDr P t' h' fn.results.toList = some vs) :
  ∀ (ds : List Deferred) (w' : World),Marks w' w.heap.size ds → St φ' h' w' → Ext φ h w φ' h' w' → LeavesInM Fence.wide n P fn tmps (Post φ h w (zHl vs) h') ds .returning w'
 | _,w',.nil,s,x=>by
  obtain ⟨cv,h1,h2⟩:=zTn s ht hv
  exact ⟨cv,h1,cv,φ',rfl,h2,s,x⟩
 | _,w',.cons (r:=q) (ds:=ds) hq hlo t hn,s,x=>by
  obtain ⟨s2,x2⟩:=s.taken x hq hlo
  refine ⟨fun hm=>(by cases hm),.inl ⟨q,_,rfl,run_takeDeferred hq,zO9 ht hv ds _ ?_ s2 x2⟩⟩
  have keep : ∀ {ds : List Deferred},Marks w' w.heap.size ds → (∀ d ∈ ds,∀ p,d.target = .collected p → p ≠ q) → Marks (w'.putObj q (.deferred none)) w.heap.size ds:=by
   intro ds m
   induction m with
   | nil=>intro _; exact .nil
   | cons h1 h2 t' h3 ih =>
    intro hne
    exact .cons (by rw [World.putObj_heap_other (hne _ (List.mem_cons_self ..) _ rfl)]; exact h1) h2 (ih fun d hd=>hne d (by simp [hd])) h3
  exact keep t hn
theorem zUi (g : Good P) {E : Env} (se : SoundE P E) {f : Nat} {args : List AV} {h : zAa} {v : AV} {h' : zAa} (hv : zE9 P E f args h = some (v,h')) :
  (∃ fn,P.funcs[f]? = some fn ∧ fn.body.isSome = true) ∧ ∀ φ w (cargs : Array Value) n,St φ h w → VRels φ args cargs.toList → CallsIn Fence.wide n P f cargs w (Post φ h w v h'):=by
 unfold zE9 at hv
 split at hv
 ·rename_i fn hf
  split at hv
  ·rename_i c hb
   refine ⟨⟨fn,hf,by rw [hb]; rfl⟩,fun φ w cargs n s hargs=>?_⟩
   refine callsIn_of_wp_marks hf hb trivial ?_
   have hlen : args.length = cargs.size:=by have:=hargs.length_eq; simpa using this
   have ht : VRels φ (args ++ List.replicate (fn.ntmps - args.length) .undef) (cargs ++ Array.replicate (fn.ntmps - cargs.size) undef).toList:=by
    rw [Array.toList_append,Array.toList_replicate,hlen]
    exact hargs.append (VRels.replicate .undef _)
   cases hc : zAi P E c (args ++ List.replicate (fn.ntmps - args.length) .undef) h with
   | none=>rw [hc] at hv; simp [zF3] at hv
   | some p =>
    obtain ⟨ex,t',h1⟩:=p
    rw [hc] at hv
    have key : ∀ vs,zDr P t' h1 fn.results.toList = some vs → (v,h') = (zHl vs,h1) → (ex = .normal ∨ ex = .ret) → c.wpIn Fence.wide n P (bodyPostM Fence.wide n P fn (Post φ h w v h')) { tmps:=cargs ++ Array.replicate (fn.ntmps - cargs.size) undef,defers:=[] } w:=by
     intro vs hr he hex
     simp only [Prod.mk.injEq] at he
     obtain ⟨rfl,rfl⟩:=he
     refine wpIn_mono (zQ2 (r:=none) g se c (a:={ tmps:=cargs ++ Array.replicate (fn.ntmps - cargs.size) undef,defers:=[] }) s ht (fun l hl=>by cases hl) hc) fun e a' w' o=>?_
     obtain ⟨rfl,φ',s',x',ht',new,hd,m⟩:=o
     rw [List.append_nil] at hd
     have:=zO9 (P:=P) (n:=n) ht' hr new w' m s' x'
     rw [← hd] at this
     rcases hex with rfl | rfl <;> exact this
    unfold zF3 at hv
    split at hv
    ·rename_i heq
     simp only [Option.some.injEq,Prod.mk.injEq] at heq
     obtain ⟨rfl,rfl,rfl⟩:=heq
     obtain ⟨vs,hr,he⟩:=Option.map_eq_some_iff.1 hv
     exact key vs hr he.symm (.inl rfl)
    ·rename_i heq
     simp only [Option.some.injEq,Prod.mk.injEq] at heq
     obtain ⟨rfl,rfl,rfl⟩:=heq
     obtain ⟨vs,hr,he⟩:=Option.map_eq_some_iff.1 hv
     exact key vs hr he.symm (.inr rfl)
    ·cases hv
  ·cases hv
 ·cases hv
theorem zH7 {φ : Ren} : ∀ (ps : List Nat) (as : List AV) (cs : List Value) (t : List AV) (T : Array Value),VRels φ as cs → VRels φ t T.toList →
  VRels φ (zBq ps as t) ((ps.zip cs).foldl (fun tmps (t,a)=>tmps.setIfInBounds t a) T).toList
 | [],_,_,t,T,_,ht=>by simpa [zBq] using ht
 | p :: ps,[],[],t,T,_,ht=>by simpa [zBq] using ht
 | p :: ps,a :: as,c :: cs,t,T,.cons h hs,ht=>by
  simp only [zBq,List.zip_cons_cons,List.foldl_cons]
  exact zH7 ps as cs _ _ hs (by rw [Array.toList_setIfInBounds]; exact ht.set p h)
theorem zQc (g : Good P) {E : Env} (se : SoundE P E) {b : Nat} {args : List AV} {h : zAa} {v : AV} {h' : zAa} (hv : zD0 P E b args h = some (v,h')) :
  ∀ φ w (cargs : Array Value) e n,St φ h w → VRels φ args cargs.toList → φ b = some e →
   ∃ fn tmps assign body,(Instr.yield e.blk cargs).run P w = .ok (.round e.blk fn tmps assign body) w ∧ RoundIn Fence.wide n P e.blk fn tmps assign body w (Post φ h w v h'):=by
 intro φ w cargs e n s hargs hb
 unfold zD0 at hv
 split at hv
 ·rename_i L hL
  split at hv
  ·rename_i hlen
   obtain ⟨k,o,hk,ho,hbr⟩:=s.dom _ _ hb
   obtain rfl : ABlk.loop L = k:=Option.some.inj (hL.symm.trans hk)
   obtain ⟨R,rfl,q1,q2,q3,q4,q5,q6⟩:=hbr
   have hl2 : args.length = cargs.size:=by have:=hargs.length_eq; simpa using this
   refine ⟨R.fn,_,R.assign,R.body,run_yield ho (by rw [← hl2,hlen,← q4]; simp),?_⟩
   refine roundIn_of_wpIn trivial ?_
   have ht : VRels φ (zBq L.params args L.tmps) ((R.params.zip cargs).foldl (fun tmps (t,a)=>tmps.setIfInBounds t a) R.tmps).toList:=by
    rw [← Array.foldl_toList,Array.toList_zip,q4]
    exact zH7 _ _ _ _ _ hargs q3
   cases hc : zAi P E L.assign (zBq L.params args L.tmps) h with
   | none=>rw [hc] at hv; simp [zCc] at hv
   | some p =>
    obtain ⟨ex,t1,h1⟩:=p
    rw [hc] at hv
    have hround : zHt φ h (some e.blk):=fun l hl=>by cases hl; exact ⟨b,e,L,hb,rfl,hL⟩
    cases ex with
    | exit id=>simp [zCc] at hv
    | ret=>simp [zCc] at hv
    | normal =>
     rw [q5]
     refine wpIn_mono (zQ2 (r:=some e.blk) g se L.assign (a:={ tmps:=(R.params.zip cargs).foldl (fun tmps (t,a)=>tmps.setIfInBounds t a) R.tmps,defers:=[] }) s ht hround hc) fun ee a1 w1 o=>?_
     obtain ⟨rfl,φ1,s1,x1,ht1,_⟩:=o
     simp only [zCc] at hv
     split at hv
     ·rename_i L1 hL1
      split at hv
      ·rename_i hready
       have hb1:=x1.sub s b e hb
       obtain ⟨k,o,hk1,ho1,hbr1⟩:=s1.dom _ _ hb1
       obtain rfl : ABlk.loop L1 = k:=Option.some.inj (hL1.symm.trans hk1)
       obtain ⟨R1,rfl,z1,z2,z3,z4,z5,z6⟩:=hbr1
       obtain ⟨s2,x2⟩:=s1.turn (w':=w1.putObj e.blk (.loop { R1 with state:=.busy })) (o':=.loop { R1 with state:=.busy }) (k':=.loop { L1 with st:=.busy }) hb1 hL1 rfl ⟨_,rfl,rfl,z2,z3,z4,z5,z6⟩ rfl (fun L' _=>⟨_,rfl⟩)
       refine ⟨_,run_beginRound ho1 (by rw [z1]; exact hready),?_⟩
       unfold zEu at hv
       obtain ⟨⟨ex,t3,h3⟩,hbody,hv⟩:=Option.bind_eq_some_iff.1 hv
       rw [q6]
       refine wpIn_mono (zQ2 (r:=some e.blk) g se L.body (a:=a1) s2 ht1 ((hround.ext s x1).ext s1 x2) hbody) fun ee a3 w3 o=>?_
       obtain ⟨rfl,φ3,s3,x3,ht3,_⟩:=o
       simp only at hv
       split at hv
       ·rename_i L3 hL3
        simp only [Option.some.injEq,Prod.mk.injEq] at hv
        obtain ⟨rfl,rfl⟩:=hv
        have hb3:=x3.sub s2 b e hb1
        obtain ⟨k,o,hk3,ho3,hbr3⟩:=s3.dom _ _ hb3
        obtain rfl : ABlk.loop L3 = k:=Option.some.inj (hL3.symm.trans hk3)
        obtain ⟨R3,rfl,y1,y2,y3,y4,y5,y6⟩:=hbr3
        have fin : ∀ (jump : Option Code),ex.code = jump → ex.isNormal = jump.isNone →
          ∃ v w',(Instr.endRound e.blk jump).run P w3 = .ok v w' ∧ Post φ h w (.bool ex.isNormal) (h3.set b (.loop { L3 with st:=if ex.isNormal then .ready else .done,pend:=ex })) (.returned v) w':=by
         intro jump hj hn
         obtain ⟨s4,x4⟩:=s3.turn (w':=w3.putObj e.blk (.loop { R3 with state:=if jump.isNone then .ready else .done,pending:=jump })) (o':=.loop { R3 with state:=if jump.isNone then .ready else .done,pending:=jump }) (k':=.loop { L3 with st:=if ex.isNormal then .ready else .done,pend:=ex }) hb3 hL3 rfl ⟨_,rfl,by rw [hn],hj.symm,y3,y4,y5,y6⟩ rfl (fun L' _=>⟨_,rfl⟩)
         refine ⟨_,_,run_endRound jump ho3,.bool jump.isNone,φ3,rfl,by rw [hn]; exact .bool _,s4,((x1.trans x2).trans x3).trans x4⟩
        cases ex with
        | normal=>exact fin none rfl rfl
        | exit id=>exact fin (some (.exit id)) rfl rfl
        | ret=>exact fin (some .ret) rfl rfl
       ·cases hv
      ·cases hv
     ·cases hv
  ·cases hv
 ·cases hv
mutual
theorem VRel.underL {φ φ' : Ren} {n : Nat} (hn : ∀ b,b < n → φ' b = φ b) : ∀ {a : AV} {v : Value},VRel φ' a v → a.under n = true → VRel φ a v
 | _,_,.int k n,_=>.int k n
 | _,_,.bool b,_=>.bool b
 | _,_,.str s,_=>.str s
 | _,_,.nilPtr,_=>.nilPtr
 | _,_,.ptr hb,h=>.ptr (by rw [← hn _ (by simpa [AV.under] using h)]; exact hb)
 | _,_,.nilSl,_=>.nilSl
 | _,_,.sl hb h1 h2 h3 h4 h5,h=>.sl (by rw [← hn _ (by simpa [AV.under] using h)]; exact hb) h1 h2 h3 h4 h5
 | _,_,.agg hs,h=>.agg (VRels.underL hn hs (by simpa [AV.under] using h))
 | _,_,.tup hs,h=>.tup (VRels.underL hn hs (by simpa [AV.under] using h))
 | _,_,.fn hs,h=>.fn (VRels.underL hn hs (by simpa [AV.under] using h))
 | _,_,.yld hb,h=>.yld (by rw [← hn _ (by simpa [AV.under] using h)]; exact hb)
 | _,_,.nilFn,_=>.nilFn
 | _,_,.undef,_=>.undef
 | _,_,.any v,_=>.any v
theorem VRels.underL {φ φ' : Ren} {n : Nat} (hn : ∀ b,b < n → φ' b = φ b) : ∀ {a : List AV} {v : List Value},VRels φ' a v → zAt n a = true → VRels φ a v
 | _,_,.nil,_=>.nil
 | _,_,.cons h t,hb=>by
  simp only [zAt,Bool.and_eq_true] at hb
  exact .cons (VRel.underL hn h hb.1) (VRels.underL hn t hb.2)
end
mutual
theorem VRel.again {φ φ' : Ren} (hs : ∀ b e,φ b = some e → φ' b = some e) : ∀ {a : AV} {u v : Value},VRel φ a u → VRel φ' a v → VRel φ a v
 | _,_,_,.int k n,.int _ _=>.int k n
 | _,_,_,.bool b,.bool _=>.bool b
 | _,_,_,.str s,.str _=>.str s
 | _,_,_,.nilPtr,.nilPtr=>.nilPtr
 | _,_,_,.ptr hb,.ptr hb'=>by
  have:=hs _ _ hb
  rw [hb'] at this
  injection this with this
  subst this
  exact .ptr hb
 | _,_,_,.nilSl,.nilSl=>.nilSl
 | _,_,_,.sl hb _ _ _ _ _,.sl hb' h1 h2 h3 h4 h5=>by
  have:=hs _ _ hb
  rw [hb'] at this
  injection this with this
  subst this
  exact .sl hb h1 h2 h3 h4 h5
 | _,_,_,.agg h,.agg h'=>.agg (VRels.again hs h h')
 | _,_,_,.tup h,.tup h'=>.tup (VRels.again hs h h')
 | _,_,_,.fn h,.fn h'=>.fn (VRels.again hs h h')
 | _,_,_,.yld hb,.yld hb'=>by
  have:=hs _ _ hb
  rw [hb'] at this
  injection this with this
  subst this
  exact .yld hb
 | _,_,_,.nilFn,.nilFn=>.nilFn
 | _,_,_,.undef,.undef=>.undef
 | _,_,_,.any _,.any v=>.any v
theorem VRels.again {φ φ' : Ren} (hs : ∀ b e,φ b = some e → φ' b = some e) : ∀ {a : List AV} {u v : List Value},VRels φ a u → VRels φ' a v → VRels φ a v
 | _,_,_,.nil,.nil=>.nil
 | _,_,_,.cons h t,.cons h' t'=>.cons (VRel.again hs h h') (VRels.again hs t t')
end
theorem VRels.mem {φ : Ren} : ∀ {as : List AV} {vs : List Value} {a : AV},VRels φ as vs → a ∈ as → ∃ v,VRel φ a v
 | _,_,_,.cons h t,ha=>by
  rcases List.mem_cons.1 ha with rfl | ha
  ·exact ⟨_,h⟩
  ·exact t.mem ha
theorem zFj.mem {φ : Ren} {k : ABlk} {e : Ent} {o : Obj} (h : zFj φ k e o) {a : AV} (ha : a ∈ k.vals) : ∃ v,VRel φ a v:=by
 have cells : ∀ {cs : List AV} {C : Array Value},zDq φ cs e C → a ∈ cs → ∃ v,VRel φ a v:=fun hc ha=>by
  obtain ⟨i,hi⟩:=List.getElem?_of_mem ha
  obtain ⟨v,_,hr⟩:=hc.2.2 i a hi
  exact ⟨v,hr⟩
 cases k with
 | dead=>cases ha
 | ro cs=>obtain ⟨C,t,fz,_,hc⟩:=h; exact cells hc ha
 | rw cs=>obtain ⟨C,t,fz,_,_,hc⟩:=h; exact cells hc ha
 | loop l=>obtain ⟨r,_,_,_,h3,_⟩:=h; exact h3.mem ha
theorem VRels.sub {φ φ' : Ren} {p : AV → Prop} (hp : ∀ a v,p a → VRel φ' a v → VRel φ a v) : ∀ {as : List AV} {vs : List Value},VRels φ' as vs → (∀ a ∈ as,p a) → VRels φ as vs
 | _,_,.nil,_=>.nil
 | _,_,.cons h t,hh=>.cons (hp _ _ (hh _ (List.mem_cons_self ..)) h) (VRels.sub hp t fun a ha=>hh a (List.mem_cons_of_mem _ ha))
theorem zFj.sub {φ φ' : Ren} {p : AV → Prop} (hp : ∀ a v,p a → VRel φ' a v → VRel φ a v) {k : ABlk} {e : Ent} {o : Obj} (h : zFj φ' k e o) (hh : ∀ a ∈ k.vals,p a) : zFj φ k e o:=by
 have cells : ∀ {cs : List AV} {C : Array Value},zDq φ' cs e C → (∀ a ∈ cs,p a) → zDq φ cs e C:=fun hc hh =>
  ⟨hc.1,hc.2.1,fun i a hi=>let ⟨v,hv,hr⟩:=hc.2.2 i a hi; ⟨v,hv,hp _ _ (hh a (List.mem_of_getElem? hi)) hr⟩⟩
 cases k with
 | dead=>trivial
 | ro cs=>obtain ⟨C,t,fz,ho,hc⟩:=h; exact ⟨C,t,fz,ho,cells hc hh⟩
 | rw cs=>obtain ⟨C,t,fz,ho,hl,hc⟩:=h; exact ⟨C,t,fz,ho,hl,cells hc hh⟩
 | loop l=>obtain ⟨r,ho,h1,h2,h3,h4⟩:=h; exact ⟨r,ho,h1,h2,VRels.sub hp h3 hh,h4⟩
theorem zO0 {φ : Ren} {h : zAa} {w : World} (s : St φ h w) {v : AV} {h' : zAa} (k : zCz h v h') {e : Ending} {w' : World} (p : Post φ h w v h' e w') : Post φ h w v (h'.take h.length) e w':=by
 obtain ⟨cv,φ',rfl,hr,s',x⟩:=p
 obtain ⟨k1,k2,k3⟩:=k
 have sub:=x.sub s
 have old : ∀ b,b < h.length → φ' b = φ b:=x.old
 have tk : ∀ b,b < h.length → (h'.take h.length)[b]? = h'[b]?:=fun b hb=>by rw [List.getElem?_take]; simp [hb]
 have own : ∀ r,zUs φ (h'.take h.length) r → zUs φ' h' r:=by
  rintro r ⟨b,e,k,hb,rfl,hk,ho⟩
  exact ⟨b,e,k,sub b e hb,rfl,by rw [← tk b (s.lt hb)]; exact hk,ho⟩
 refine ⟨cv,φ,rfl,hr.underL old k2,⟨fun b e hb=>?_,fun b b' e e' j j' hb hb' hj hj' ho ha hne=>?_⟩,⟨by simp [k1],x.wlen,x.os,x.tape,x.output,fun _ _=>rfl,fun b hb hn=>by rw [tk b hb]; exact x.afr b hb hn,fun r hr ho=>x.im r hr (own r ho),x.cfr,fun b L hL=>?_⟩⟩
 ·obtain ⟨j,o,h1,h2,h3⟩:=s'.dom b e (sub b e hb)
  refine ⟨j,o,by rw [tk b (s.lt hb)]; exact h1,h2,?_⟩
  obtain ⟨j0,o0,g1,g2,g3⟩:=s.dom b e hb
  refine h3.sub (p:=fun a=>a.under h.length = true ∨ a ∈ j0.vals) (fun a v hp hv=>?_) (fun a ha=>?_)
  ·rcases hp with hp | hp
   ·exact hv.underL old hp
   ·obtain ⟨u,hu⟩:=g3.mem hp
    exact VRel.again sub hu hv
  ·rcases k3 b j (s.lt hb) h1 a ha with hp | ⟨j1,hj1,hp⟩
   ·exact .inl hp
   ·obtain rfl : j0 = j1:=Option.some.inj (g1.symm.trans hj1)
    exact .inr hp
 ·rw [tk b (s.lt hb)] at hj
  rw [tk b' (s.lt hb')] at hj'
  exact s'.inj b b' e e' j j' (sub b e hb) (sub b' e' hb') hj hj' ho ha hne
 ·obtain ⟨L',hL'⟩:=x.lp b L hL
  exact ⟨L',by rw [tk b (List.getElem?_eq_some_iff.1 hL).1]; exact hL'⟩
theorem zOe {h : zAa} {r : Option (AV × zAa)} {v : AV} {h' : zAa} (hv : trim h r = some (v,h')) : ∃ h1,r = some (v,h1) ∧ (h' = h1 ∨ (zCz h v h1 ∧ h' = h1.take h.length)):=by
 obtain ⟨⟨v1,h1⟩,hr,he⟩:=Option.map_eq_some_iff.1 hv
 simp only at he
 split at he
 ·rename_i ht
  injection he with e1 e2
  subst e1; subst e2
  exact ⟨h1,hr,.inr ⟨ht,rfl⟩⟩
 ·injection he with e1 e2
  subst e1; subst e2
  exact ⟨_,hr,.inl rfl⟩
theorem zQ7 (g : Good P) {E : Env} (se : SoundE P E) {f : Nat} {args : List AV} {h : zAa} {v : AV} {h' : zAa} (hv : zCm P E f args h = some (v,h')) :
  (∃ fn,P.funcs[f]? = some fn ∧ fn.body.isSome = true) ∧ ∀ φ w (cargs : Array Value) n,St φ h w → VRels φ args cargs.toList → CallsIn Fence.wide n P f cargs w (Post φ h w v h'):=by
 obtain ⟨h1,hr,hc⟩:=zOe hv
 obtain ⟨h2,h3⟩:=zUi g se hr
 refine ⟨h2,fun φ w cargs n s ha=>CallsIn.mono (h3 φ w cargs n s ha) fun e w' p=>?_⟩
 rcases hc with rfl | ⟨ht,rfl⟩
 ·exact p
 ·exact zO0 s ht p
theorem yield_ok (g : Good P) {E : Env} (se : SoundE P E) {b : Nat} {args : List AV} {h : zAa} {v : AV} {h' : zAa} (hv : zDk P E b args h = some (v,h')) :
  ∀ φ w (cargs : Array Value) e n,St φ h w → VRels φ args cargs.toList → φ b = some e →
   ∃ fn tmps assign body,(Instr.yield e.blk cargs).run P w = .ok (.round e.blk fn tmps assign body) w ∧ RoundIn Fence.wide n P e.blk fn tmps assign body w (Post φ h w v h'):=by
 obtain ⟨h1,hr,hc⟩:=zOe hv
 intro φ w cargs e n s ha hb
 obtain ⟨fn,tmps,assign,body,h2,h3⟩:=zQc g se hr φ w cargs e n s ha hb
 refine ⟨fn,tmps,assign,body,h2,h3.mono fun e w' p=>?_⟩
 rcases hc with rfl | ⟨ht,rfl⟩
 ·exact p
 ·exact zO0 s ht p
theorem zG4 (g : Good P) : ∀ n,SoundE P (envN P n)
 | 0=>⟨fun _ _ _ _ _ h=>(by cases h),fun _ _ _ _ _ h=>(by cases h),fun _ _ _ _ h=>⟨0,h⟩⟩
 | n + 1=>⟨fun _ _ _ _ _ h=>.inl (zQ7 g (zG4 g n) h),fun _ _ _ _ _ h=>yield_ok g (zG4 g n) h,fun _ _ _ _ h=>⟨n + 1,h⟩⟩
end Go.Proofs.YtbmmnfeeapnhkaaGreat.Eng
end
