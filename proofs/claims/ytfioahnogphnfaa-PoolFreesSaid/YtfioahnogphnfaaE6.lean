/- An evaluator over abstract values, proved sound against the machine: what it says of a call, the call does. No condition. -/
import Derived.Test.YtfioahnogphnfaaE5
import Derived.Test.YtfioahnogphnfaaE4
import Derived.Lib.Overlaps
import Derived.Sort.Grow
section
namespace Go.Proofs.Ytfioahnogphnfaa.Eng
open Go
theorem exF {t : T} {F : (Nat → AV) → T} (h : F (getT t) = t) : ∃ k, t = F k := ⟨_, h.symm⟩
theorem lt_of_at {H : AHeap} {b : Nat} {k : ABlk} (h : H[b]? = some k) : b < H.length := (List.getElem?_eq_some_iff.1 h).1
theorem lt_of_cells {H : AHeap} {b : Nat} {cs : List AV} (h : cellsOf H b = some cs) : b < H.length := by
 unfold cellsOf at h
 cases hx : H[b]? with
 | none => rw [hx] at h; cases h
 | some k => exact lt_of_at hx
theorem cells_congr {H H' : AHeap} {b : Nat} (h : H'[b]? = H[b]?) : cellsOf H' b = cellsOf H b := by unfold cellsOf; rw [h]
def Fr (H H' : AHeap) (F : Nat → Prop) : Prop := H.length ≤ H'.length ∧ ∀ b, b < H.length → ¬ F b → H'[b]? = H[b]?
theorem Fr.refl (H : AHeap) (F : Nat → Prop) : Fr H H F := ⟨Nat.le_refl _, fun _ _ _ => rfl⟩
theorem Fr.trans {H H' H'' : AHeap} {F G : Nat → Prop} (a : Fr H H' F) (b : Fr H' H'' G) (hG : ∀ x, x < H.length → G x → F x) : Fr H H'' F :=
 ⟨Nat.le_trans a.1 b.1, fun x hx hn => (b.2 x (Nat.lt_of_lt_of_le hx a.1) (fun hg => hn (hG x hx hg))).trans (a.2 x hx hn)⟩
theorem Fr.mono {H H' : AHeap} {F G : Nat → Prop} (a : Fr H H' F) (h : ∀ x, x < H.length → F x → G x) : Fr H H' G := ⟨a.1, fun x hx hn => a.2 x hx fun hf => hn (h x hx hf)⟩
theorem Fr.adds {H H' : AHeap} (a : Adds H H') (F : Nat → Prop) : Fr H H' F := by
 obtain ⟨G, rfl⟩ := a
 exact ⟨by simp, fun b hb _ => List.getElem?_append_left hb⟩
theorem Fr.set (H : AHeap) {b : Nat} (k : ABlk) {F : Nat → Prop} (h : F b) : Fr H (H.set b k) F :=
 ⟨by simp, fun x _ hn => List.getElem?_set_ne (fun e => by subst e; exact hn h)⟩
theorem Fr.at {H H' : AHeap} {F : Nat → Prop} (a : Fr H H' F) {b : Nat} {k : ABlk} (h : H[b]? = some k) (n : ¬ F b) : H'[b]? = some k := (a.2 b (lt_of_at h) n).trans h
theorem Fr.cells {H H' : AHeap} {F : Nat → Prop} (a : Fr H H' F) {b : Nat} {cs : List AV} (h : cellsOf H b = some cs) (n : ¬ F b) : cellsOf H' b = some cs := (cells_congr (a.2 b (lt_of_cells h) n)).trans h
theorem Fr.gr {H H' : AHeap} {F : Nat → Prop} (a : Fr H H' F) {k B : Nat} {l : AV} {rows : List (List AV)} (g : GR k H B l rows) (n : ∀ b o s n c e, l = .sl b o s n c e → ¬ F b) : GR k H' B l rows := by
 rcases g with g | ⟨g1, b, g2, rfl, g4⟩
 ·exact .inl g
 ·exact .inr ⟨g1, b, g2, rfl, a.at g4 (n _ _ _ _ _ _ rfl)⟩
theorem Fr.old {h0 H H' : AHeap} {F : Nat → Prop} (a : Fr H H' F) (o : Adds h0 H) (n : ∀ b, b < h0.length → ¬ F b) : Adds h0 H' := by
 have := o.len
 refine Adds.of_get (Nat.le_trans this a.1) fun b hb => ?_
 rw [a.2 b (by omega) (n b hb)]
 obtain ⟨G, rfl⟩ := o
 exact List.getElem?_append_left hb
theorem u8s_under (zs : List Int) (n : Nat) : ∀ a ∈ u8s zs, a.under n = true := by
 intro a ha
 obtain ⟨z, _, rfl⟩ := List.mem_map.1 ha; rfl
def slb : AV → Option Nat
 | .sl b _ _ _ _ _ => some b
 | _ => none
def killS (l : AV) (H : AHeap) : AHeap := match l with | .sl b _ _ _ _ _ => H.set b .dead | _ => H
theorem killS_len (l : AV) (H : AHeap) : (killS l H).length = H.length := by unfold killS; split <;> simp
theorem killS_get (l : AV) (H : AHeap) (b : Nat) (h : slb l ≠ some b) : (killS l H)[b]? = H[b]? := by
 unfold killS
 split
 ·exact List.getElem?_set_ne (fun e => h (by rw [e]; rfl))
 ·rfl
theorem GR.app2 {k : Nat} (hk : 1 ≤ k) {d : TyD} (hd : d.size = k) (hb : 1 ≤ d.bytes) {H : AHeap} {B : Nat} {l y : AV} {rows : List (List AV)} {r : List AV} (g : GR k H B l rows) (hr : ∀ x ∈ rows, x.length = k) (hx : srcLen y = some 1) (hy : srcCells k 1 y H = some r)
  (hc : r.all AV.isCell = true) (hn : (rows.length + 1) * d.bytes ≤ roomy) : Eng.app d l y H = some (.sl H.length 0 k (rows.length + 1) (rows.length + 1) false, killS l H ++ [.rw (rows ++ [r]).flatten]) := by
 rcases g with ⟨rfl, rfl⟩ | ⟨hne, b, hb2, rfl, hH⟩
 ·unfold Eng.app
  rw [hx]
  simp only [Option.bind_some, hd, hy]
  unfold appendV
  simp only [hd]
  rw [if_neg (by omega), if_pos ⟨hk, hb, by simpa using hn⟩]
  simp [killS]
 ·have hl := rows_len hr
  unfold Eng.app
  rw [hx]
  simp only [Option.bind_some, hd, hy]
  unfold appendV
  simp only [hd]
  rw [if_neg (by omega), if_neg (by omega), if_neg (by omega), if_pos ⟨hb, hn⟩]
  have hrd : readN H b 0 (rows.length * k) = some rows.flatten := by
   unfold readN
   rw [cells_rw hH]
   simp only [Option.bind_some]
   rw [if_pos (by omega), List.drop_zero, List.take_of_length_le (by omega)]
  rw [hrd]
  simp only [Option.bind_some, Bool.false_eq_true, if_false, hH]
  rw [if_pos ⟨by omega, hc⟩]
  simp [killS]
theorem rows_sub {k : Nat} {rows : List (List AV)} {i : Nat} {r : List AV} (h : ∀ r ∈ rows, r.length = k) (hi : rows[i]? = some r) (f n : Nat) (hf : f + n ≤ k) : (rows.flatten.drop (i * k + f)).take n = (r.drop f).take n ∧ i * k + f + n ≤ rows.flatten.length := by
 have hl := rows_len h
 have hlt := (List.getElem?_eq_some_iff.1 hi).1
 have : (i + 1) * k ≤ rows.length * k := Nat.mul_le_mul_right k hlt
 rw [Nat.add_mul] at this
 refine ⟨?_, by omega⟩
 apply List.ext_getElem?
 intro j
 rw [List.getElem?_take, List.getElem?_take]
 split
 ·rw [List.getElem?_drop, List.getElem?_drop, show i * k + f + j = i * k + (f + j) by omega]
  exact rows_get h hi (f + j) (by omega)
 ·rfl
end Go.Proofs.Ytfioahnogphnfaa.Eng
end
section
namespace Go.Proofs.Ytfioahnogphnfaa.Eng
open Go
def B64 (z : List Int) : Prop := z.length = 64 ∧ IsU8 z
theorem B64.zero : B64 (List.replicate 64 0) := ⟨by simp, fun z hz => by rw [(List.mem_replicate.1 hz).2]; omega⟩
theorem u8s_take {n : Nat} {z : List Int} (hz : z.length = n) : (u8s z).take n = u8s z := List.take_of_length_le (by rw [u8s_len]; omega)
structure Sec where
 there : List Int
 vers : List (List Int)
def Sec.last (s : Sec) : List Int := s.vers.getLast?.getD s.there
structure Sec.Ok (s : Sec) : Prop where
 t : B64 s.there
 v : ∀ z ∈ s.vers, B64 z
theorem Sec.Ok.last {s : Sec} (h : s.Ok) : B64 s.last := by
 unfold Sec.last
 cases hx : s.vers.getLast? with
 | none => exact h.t
 | some z => exact h.v z (List.mem_of_getLast? hx)
def zsec : Sec := ⟨List.replicate 64 0, []⟩
def verR (s : Sec) : List (List AV) := s.vers.map u8s
def secR (x : AV × Sec) : List AV := u8s x.2.there ++ [x.1]
theorem secR_len {L : List (AV × Sec)} (h : ∀ x ∈ L, x.2.Ok) : ∀ r ∈ L.map secR, r.length = 65 := fun r hr => by
 obtain ⟨x, hx, rfl⟩ := List.mem_map.1 hr
 unfold secR
 rw [List.length_append, u8s_len, (h x hx).t.1]; rfl
theorem get_map {α β : Type} {L : List α} {i : Nat} {x : α} (f : α → β) (h : L[i]? = some x) : (L.map f)[i]? = some (f x) := by rw [List.getElem?_map, h]; rfl
structure VS (H : AHeap) (L : List (AV × Sec)) (c : Nat) (P : Nat → Prop) : Prop where
 cb : c ≤ 1000000000
 ver : ∀ x ∈ L, GR 64 H 0 x.1 (verR x.2)
 ok : ∀ x ∈ L, x.2.Ok
 cap : ∀ x ∈ L, x.2.vers.length ≤ c
 out : ∀ x ∈ L, ∀ b, slb x.1 = some b → ¬ P b
 inj : ∀ (i j : Nat) x y, L[i]? = some x → L[j]? = some y → i ≠ j → ∀ b, slb x.1 = some b → slb y.1 ≠ some b
def fpV (L : List (AV × Sec)) (b : Nat) : Prop := ∃ x ∈ L, slb x.1 = some b
theorem VS.lt {H : AHeap} {L : List (AV × Sec)} {c : Nat} {P : Nat → Prop} (v : VS H L c P) {b : Nat} (h : fpV L b) : b < H.length := by
 obtain ⟨x, hx, hb⟩ := h
 rcases v.ver x hx with ⟨_, h0⟩ | ⟨_, b', _, h0, hH⟩
 ·rw [h0] at hb; cases hb
 ·rw [h0] at hb; injection hb with hb; subst hb; exact lt_of_at hH
theorem VS.fr {H H' : AHeap} {L : List (AV × Sec)} {c : Nat} {P F : Nat → Prop} (v : VS H L c P) (a : Fr H H' F) (hn : ∀ b, fpV L b → ¬ F b) : VS H' L c P :=
 ⟨v.cb, fun x hx => a.gr (v.ver x hx) fun b o s n c e he => hn b ⟨x, hx, by rw [he]; rfl⟩, v.ok, v.cap, v.out, v.inj⟩
theorem mem_set {α : Type} {L : List α} {i : Nat} {y x : α} (h : x ∈ L.set i y) : x = y ∨ x ∈ L := by
 rcases List.mem_or_eq_of_mem_set h with h | h
 ·exact .inr h
 ·exact .inl h
theorem VS.set {H H' : AHeap} {L : List (AV × Sec)} {c c' : Nat} {P F : Nat → Prop} (v : VS H L c P) (a : Fr H H' F) {i : Nat} {x y : AV × Sec} (hi : L[i]? = some x) (hF : ∀ b, fpV L b → F b → slb x.1 = some b)
  (hg : GR 64 H' 0 y.1 (verR y.2)) (hok : y.2.Ok) (hc : c ≤ c') (hcb : c' ≤ 1000000000) (hcap : y.2.vers.length ≤ c') (hP : ∀ b, slb y.1 = some b → H.length ≤ b ∧ ¬ P b) : VS H' (L.set i y) c' P := by
 have lt : i < L.length := (List.getElem?_eq_some_iff.1 hi).1
 have mem := List.mem_of_getElem? hi
 have other : ∀ (j : Nat) z, L[j]? = some z → j ≠ i → ∀ b, slb z.1 = some b → ¬ F b := fun j z hj hne b hb hf => v.inj j i z x hj hi hne b hb (hF b ⟨z, List.mem_of_getElem? hj, hb⟩ hf)
 have cases' : ∀ (j : Nat) z, (L.set i y)[j]? = some z → (j = i ∧ z = y) ∨ (j ≠ i ∧ L[j]? = some z) := fun j z hj => by
  by_cases e : j = i
  ·subst e; rw [List.getElem?_set_self lt] at hj; injection hj with hj; exact .inl ⟨rfl, hj.symm⟩
  ·rw [List.getElem?_set_ne (fun q => e q.symm)] at hj; exact .inr ⟨e, hj⟩
 refine ⟨hcb, fun z hz => ?_, fun z hz => ?_, fun z hz => ?_, fun z hz b hb => ?_, fun j k z w hj hk hne b hb => ?_⟩
 ·obtain ⟨j, hj⟩ := List.getElem?_of_mem hz
  rcases cases' j z hj with ⟨_, rfl⟩ | ⟨hne, hj⟩
  ·exact hg
  ·exact a.gr (v.ver z (List.mem_of_getElem? hj)) fun b o s n c e he => other j z hj hne b (by rw [he]; rfl)
 ·rcases mem_set hz with rfl | hz
  ·exact hok
  ·exact v.ok z hz
 ·rcases mem_set hz with rfl | hz
  ·exact hcap
  ·exact Nat.le_trans (v.cap z hz) hc
 ·rcases mem_set hz with rfl | hz
  ·exact (hP b hb).2
  ·exact v.out z hz b hb
 ·rcases cases' j z hj with ⟨rfl, rfl⟩ | ⟨h1, hj2⟩
  ·rcases cases' k w hk with ⟨rfl, rfl⟩ | ⟨h2, hk2⟩
   ·exact absurd rfl hne
   ·intro hw
    have := v.lt ⟨w, List.mem_of_getElem? hk2, hw⟩
    have := (hP b hb).1
    omega
  ·rcases cases' k w hk with ⟨rfl, rfl⟩ | ⟨h2, hk2⟩
   ·intro hw
    have := v.lt ⟨z, List.mem_of_getElem? hj2, hb⟩
    have := (hP b hw).1
    omega
   ·exact v.inj j k z w hj2 hk2 hne b hb
theorem VS.at {H : AHeap} {L : List (AV × Sec)} {c : Nat} {P : Nat → Prop} (v : VS H L c P) {i : Nat} {x : AV × Sec} (hi : L[i]? = some x) : GR 64 H 0 x.1 (verR x.2) ∧ x.2.Ok ∧ x.2.vers.length ≤ c :=
 ⟨v.ver x (List.mem_of_getElem? hi), v.ok x (List.mem_of_getElem? hi), v.cap x (List.mem_of_getElem? hi)⟩
structure DK (H : AHeap) (p d c : Nat) (L : List (AV × Sec)) : Prop where
 ptr : cellsOf H p = some [.sl d 0 65 L.length L.length true]
 blk : H[d]? = some (.rw (L.map secR).flatten)
 np : p ≠ d
 sz : L.length ≤ 4096
 vs : VS H L c fun b => b = p ∨ b = d
def fpD (p d : Nat) (L : List (AV × Sec)) (b : Nat) : Prop := b = p ∨ b = d ∨ fpV L b
theorem DK.lt {H : AHeap} {p d c : Nat} {L : List (AV × Sec)} (m : DK H p d c L) {b : Nat} (h : fpD p d L b) : b < H.length := by
 rcases h with rfl | rfl | h
 ·exact lt_of_cells m.ptr
 ·exact lt_of_at m.blk
 ·exact m.vs.lt h
theorem DK.fr {H H' : AHeap} {p d c : Nat} {L : List (AV × Sec)} {F : Nat → Prop} (m : DK H p d c L) (a : Fr H H' F) (hn : ∀ b, fpD p d L b → ¬ F b) : DK H' p d c L :=
 ⟨a.cells m.ptr (hn p (.inl rfl)), a.at m.blk (hn d (.inr (.inl rfl))), m.np, m.sz, m.vs.fr a fun b hb => hn b (.inr (.inr hb))⟩
theorem DK.row {H : AHeap} {p d c : Nat} {L : List (AV × Sec)} (m : DK H p d c L) {i : Nat} {x : AV × Sec} (hi : L[i]? = some x) :
  ∃ cs, cellsOf H d = some cs ∧ cs[i * 65 + 64]? = some x.1 ∧ i * 65 + 64 ≤ cs.length ∧ (cs.drop (i * 65)).take 64 = u8s x.2.there ∧ i < 4096 := by
 have hr := get_map secR hi
 have hl := secR_len m.vs.ok
 have t := (m.vs.at hi).2.1.t.1
 obtain ⟨q1, q2⟩ := rows_sub hl hr 0 64 (by omega)
 rw [Nat.add_zero] at q1 q2
 refine ⟨_, cells_rw m.blk, ?_, q2, ?_, Nat.lt_of_lt_of_le (List.getElem?_eq_some_iff.1 hi).1 m.sz⟩
 ·rw [rows_get hl hr 64 (by omega)]
  unfold secR
  rw [List.getElem?_append_right (by rw [u8s_len, t]; exact Nat.le_refl _), u8s_len, t]; rfl
 ·rw [q1]
  unfold secR
  rw [List.drop_zero, List.take_append_of_le_length (by rw [u8s_len, t]; exact Nat.le_refl _), List.take_of_length_le (by rw [u8s_len, t]; exact Nat.le_refl _)]
theorem Fr.kill (v : AV) (H : AHeap) : Fr H (killS v H) fun b => slb v = some b := ⟨by rw [killS_len]; exact Nat.le_refl _, fun b _ hn => killS_get v H b hn⟩
theorem secR_under {H : AHeap} {L : List (AV × Sec)} {c : Nat} {P : Nat → Prop} (v : VS H L c P) : ∀ a ∈ (L.map secR).flatten, a.under H.length = true := by
 intro a ha
 obtain ⟨r, hr, ha⟩ := List.mem_flatten.1 ha
 obtain ⟨x, hx, rfl⟩ := List.mem_map.1 hr
 unfold secR at ha
 rcases List.mem_append.1 ha with ha | ha
 ·exact u8s_under _ _ a ha
 ·simp only [List.mem_cons, List.not_mem_nil, or_false] at ha
  subst ha
  rcases v.ver x hx with ⟨_, h0⟩ | ⟨_, b, _, h0, hH⟩
  ·rw [h0]; rfl
  ·rw [h0]; simp only [AV.under, decide_eq_true_eq]; exact lt_of_at hH
end Go.Proofs.Ytfioahnogphnfaa.Eng
end
section
namespace Go.Proofs.Ytfioahnogphnfaa.Eng
open Go
structure Src (k : Nat) (H : AHeap) (v : AV) (n : Nat) (cs : List AV) : Prop where
 len : lenSl v = some (.int .i64 (n : Int))
 sl : srcLen v = some n
 cells : srcCells k n v H = some cs
 clen : cs.length = n * k
 cell : cs.all AV.isCell = true
theorem Src.fr {k : Nat} {H H' : AHeap} {v : AV} {n : Nat} {cs : List AV} {F : Nat → Prop} (s : Src k H v n cs) (a : Fr H H' F) (hn : ∀ b, slb v = some b → ¬ F b) : Src k H' v n cs := by
 refine ⟨s.len, s.sl, ?_, s.clen, s.cell⟩
 have h := s.cells
 cases v with
 | sl b o z l c e =>
  simp only [srcCells, readN] at h ⊢
  by_cases hz : z = k
  ·rw [if_pos hz] at h ⊢
   obtain ⟨C, hC, h2⟩ := Option.bind_eq_some_iff.1 h
   rw [a.cells hC (hn b rfl)]; exact h2
  ·rw [if_neg hz] at h; cases h
 | nilSl => exact h
 | str s => exact h
 | _ => cases h
theorem Src.adds {k : Nat} {H : AHeap} {v : AV} {n : Nat} {cs : List AV} (s : Src k H v n cs) (B : AHeap) : Src k (H ++ B) v n cs := s.fr (Fr.adds ⟨B, rfl⟩ (fun _ => False)) (fun _ _ h => h)
theorem Src.nil (k : Nat) (H : AHeap) : Src k H .nilSl 0 [] := ⟨rfl, rfl, rfl, by simp, rfl⟩
theorem Src.block {k : Nat} {H : AHeap} {b n c : Nat} {e : Bool} {cs : List AV} (h : cellsOf H b = some cs) (hl : cs.length = n * k) (hc : cs.all AV.isCell = true) : Src k H (.sl b 0 k n c e) n cs := by
 refine ⟨rfl, rfl, ?_, hl, hc⟩
 simp only [srcCells, readN, if_true, h, Option.bind_some, Nat.zero_add, List.drop_zero]
 rw [if_pos (by omega), List.take_of_length_le (by omega)]
theorem GR.src {k : Nat} {H : AHeap} {B : Nat} {l : AV} {rows : List (List AV)} (g : GR k H B l rows) (hr : ∀ r ∈ rows, r.length = k) (hc : rows.flatten.all AV.isCell = true) : Src k H l rows.length rows.flatten := by
 rcases g with ⟨rfl, rfl⟩ | ⟨_, b, _, rfl, hH⟩
 ·exact Src.nil k H
 ·exact Src.block (cells_rw hH) (rows_len hr) hc
theorem BS.src {H : AHeap} {v : AV} {zs : List Int} (b : BS H v zs) : Src 1 H v zs.length (u8s zs) := ⟨b.len, b.read.1, b.read.2, by rw [u8s_len]; omega, u8s_cell zs⟩
theorem getT_set (t : T) (i j : Nat) (v : AV) : getT (t.set i v) j = if i = j then (if i < t.length then v else .undef) else getT t j := by
 unfold getT
 by_cases h : i = j
 ·subst h
  rw [if_pos rfl]
  by_cases hl : i < t.length
  ·rw [if_pos hl, List.getElem?_set_self hl]; rfl
  ·rw [if_neg hl, List.getElem?_eq_none (by rw [List.length_set]; omega)]; rfl
 ·rw [if_neg h, List.getElem?_set_ne h]
end Go.Proofs.Ytfioahnogphnfaa.Eng
end
section
set_option linter.unusedVariables false
namespace Go.Proofs.Ytfioahnogphnfaa.Eng
open Go
theorem BS.fr {H H' : AHeap} {F : Nat → Prop} {v : AV} {zs : List Int} (h : BS H v zs) (a : Fr H H' F) (hn : ∀ b, slb v = some b → ¬ F b) : BS H' v zs := by
 rcases h with h | ⟨b, o, l, e, cs, rfl, hc, h⟩
 ·exact .inl h
 ·exact .inr ⟨b, o, l, e, cs, rfl, a.cells hc (hn b rfl), h⟩
end Go.Proofs.Ytfioahnogphnfaa.Eng
end
section
set_option linter.unusedVariables false
namespace Go.Proofs.Ytfioahnogphnfaa.Eng
open Go
structure RgS where
 a : List Sec
 b : List Sec
 fuse : Int
 down : Bool
 done : Int
def RgS.dk (r : RgS) (dev : Int) : List Sec := if dev = 0 then r.a else if dev = 1 then r.b else []
def RgS.put (r : RgS) (dev : Int) (l : List Sec) : RgS := if dev = 0 then { r with a := l } else if dev = 1 then { r with b := l } else r
def zeros64 : List Int := List.replicate 64 0
def RgS.read (r : RgS) (dev i : Int) : List Int × Int :=
 if 0 ≤ i ∧ i < (r.dk dev).length then (if r.down then (zeros64, 14) else ((((r.dk dev)[i.toNat]?).getD zsec).last, 0)) else (zeros64, 1)
def RgS.pass (r : RgS) : RgS × Int :=
 if r.down ∨ r.fuse = 0 then ({ r with down := true }, 14) else ({ r with fuse := if r.fuse > 0 then IntKind.i64.wrap (r.fuse - 1) else r.fuse, done := IntKind.i64.wrap (r.done + 1) }, 0)
def RgS.write (r : RgS) (dev i : Int) (z : List Int) : RgS × Int :=
 if 0 ≤ i ∧ i < (r.dk dev).length then
  (if r.pass.2 = 0 then (r.pass.1.put dev ((r.dk dev).modify i.toNat fun s => ⟨s.there, s.vers ++ [z]⟩), 0) else r.pass)
 else (r, 1)
def settled (s : Sec) : Sec := ⟨s.last, []⟩
def RgS.flush (r : RgS) (dev : Int) : RgS × Int :=
 if dev = 0 ∨ dev = 1 then (if r.pass.2 = 0 then (r.pass.1.put dev ((r.dk dev).map settled), 0) else r.pass) else (r, 1)
def rgCells (p0 p1 : Nat) (r : RgS) : List AV := [.ptr p0 0, .ptr p1 0, .int .i64 r.fuse, .bool r.down, .int .i64 r.done]
structure RG (H : AHeap) (p p0 d0 p1 d1 c : Nat) (L0 L1 : List (AV × Sec)) (r : RgS) : Prop where
 blk : H[p]? = some (.rw (rgCells p0 p1 r))
 k0 : DK H p0 d0 c L0
 k1 : DK H p1 d1 c L1
 e0 : L0.map (·.2) = r.a
 e1 : L1.map (·.2) = r.b
 dis : ∀ b, fpD p0 d0 L0 b → ¬ fpD p1 d1 L1 b
 n0 : ¬ fpD p0 d0 L0 p
 n1 : ¬ fpD p1 d1 L1 p
def fpR (p p0 d0 p1 d1 : Nat) (L0 L1 : List (AV × Sec)) (b : Nat) : Prop := b = p ∨ fpD p0 d0 L0 b ∨ fpD p1 d1 L1 b
section
variable {H H' : AHeap} {p p0 d0 p1 d1 c : Nat} {L0 L1 : List (AV × Sec)} {r : RgS} (m : RG H p p0 d0 p1 d1 c L0 L1 r)
include m
theorem RG.fr {F : Nat → Prop} (a : Fr H H' F) (hn : ∀ b, fpR p p0 d0 p1 d1 L0 L1 b → ¬ F b) : RG H' p p0 d0 p1 d1 c L0 L1 r :=
 ⟨a.at m.blk (hn p (.inl rfl)), m.k0.fr a fun b hb => hn b (.inr (.inl hb)), m.k1.fr a fun b hb => hn b (.inr (.inr hb)), m.e0, m.e1, m.dis, m.n0, m.n1⟩
theorem RG.adds (B : AHeap) : RG (H ++ B) p p0 d0 p1 d1 c L0 L1 r := m.fr (Fr.adds ⟨B, rfl⟩ (fun _ => False)) (fun _ _ h => h)
theorem RG.lt {b : Nat} (h : fpR p p0 d0 p1 d1 L0 L1 b) : b < H.length := by
 rcases h with rfl | h | h
 ·exact lt_of_at m.blk
 ·exact m.k0.lt h
 ·exact m.k1.lt h
theorem RG.len0 : r.a.length = L0.length := by rw [← m.e0, List.length_map]
theorem RG.len1 : r.b.length = L1.length := by rw [← m.e1, List.length_map]
theorem RG.set (r' : RgS) (ha : r'.a = r.a) (hb : r'.b = r.b) : RG (H.set p (.rw (rgCells p0 p1 r'))) p p0 d0 p1 d1 c L0 L1 r' := by
 have f : Fr H (H.set p (.rw (rgCells p0 p1 r'))) (· = p) := Fr.set _ _ rfl
 exact ⟨at_set _ _ _ (lt_of_at m.blk), m.k0.fr f fun b hb e => m.n0 (e ▸ hb), m.k1.fr f fun b hb e => m.n1 (e ▸ hb), m.e0.trans ha.symm, m.e1.trans hb.symm, m.dis, m.n0, m.n1⟩
end
def RigIn (H : AHeap) (p c : Nat) (r : RgS) (F : Nat → Prop) : Prop := ∃ p0 d0 p1 d1 L0 L1, RG H p p0 d0 p1 d1 c L0 L1 r ∧ (∀ b, fpR p p0 d0 p1 d1 L0 L1 b → F b) ∧ ∀ b, F b → b < H.length
theorem RigIn.fr {H H' : AHeap} {p c : Nat} {r : RgS} {F G : Nat → Prop} (m : RigIn H p c r F) (a : Fr H H' G) (hn : ∀ b, F b → ¬ G b) : RigIn H' p c r F := by
 obtain ⟨p0, d0, p1, d1, L0, L1, m, h1, h2⟩ := m
 exact ⟨p0, d0, p1, d1, L0, L1, m.fr a fun b hb => hn b (h1 b hb), h1, fun b hb => Nat.lt_of_lt_of_le (h2 b hb) a.1⟩
theorem RigIn.adds {H : AHeap} {p c : Nat} {r : RgS} {F : Nat → Prop} (m : RigIn H p c r F) (B : AHeap) : RigIn (H ++ B) p c r F := m.fr (Fr.adds ⟨B, rfl⟩ (fun _ => False)) (fun _ _ h => h)
theorem RigIn.lt {H : AHeap} {p c : Nat} {r : RgS} {F : Nat → Prop} (m : RigIn H p c r F) : ∀ b, F b → b < H.length := by obtain ⟨_, _, _, _, _, _, _, _, h2⟩ := m; exact h2
theorem RigIn.ok {H : AHeap} {p c : Nat} {r : RgS} {F : Nat → Prop} (m : RigIn H p c r F) : (∀ s ∈ r.a, s.Ok) ∧ (∀ s ∈ r.b, s.Ok) ∧ r.a.length ≤ 4096 ∧ r.b.length ≤ 4096 := by
 obtain ⟨p0, d0, p1, d1, L0, L1, m, h1, h2⟩ := m
 refine ⟨fun s hs => ?_, fun s hs => ?_, by rw [m.len0]; exact m.k0.sz, by rw [m.len1]; exact m.k1.sz⟩
 ·rw [← m.e0] at hs; obtain ⟨x, hx, rfl⟩ := List.mem_map.1 hs; exact m.k0.vs.ok x hx
 ·rw [← m.e1] at hs; obtain ⟨x, hx, rfl⟩ := List.mem_map.1 hs; exact m.k1.vs.ok x hx
def RStep (H : AHeap) (F : Nat → Prop) (H' : AHeap) (F' : Nat → Prop) : Prop := Fr H H' F ∧ ∀ b, F' b → F b ∨ H.length ≤ b
theorem RStep.trans {H H' H'' : AHeap} {F F' F'' : Nat → Prop} (a : RStep H F H' F') (b : RStep H' F' H'' F'') : RStep H F H'' F'' :=
 ⟨a.1.trans b.1 fun x hx hf => (a.2 x hf).elim id fun h => absurd hx (by omega), fun x hx => (b.2 x hx).elim (fun h => a.2 x h) fun h => .inr (Nat.le_trans a.1.1 h)⟩
theorem RG.up {H : AHeap} {p p0 d0 p1 d1 c c' : Nat} {L0 L1 : List (AV × Sec)} {r : RgS} (m : RG H p p0 d0 p1 d1 c L0 L1 r) (h : c ≤ c') (hb : c' ≤ 1000000000) : RG H p p0 d0 p1 d1 c' L0 L1 r :=
 ⟨m.blk, ⟨m.k0.ptr, m.k0.blk, m.k0.np, m.k0.sz, ⟨hb, m.k0.vs.ver, m.k0.vs.ok, fun x hx => Nat.le_trans (m.k0.vs.cap x hx) h, m.k0.vs.out, m.k0.vs.inj⟩⟩, ⟨m.k1.ptr, m.k1.blk, m.k1.np, m.k1.sz, ⟨hb, m.k1.vs.ver, m.k1.vs.ok, fun x hx => Nat.le_trans (m.k1.vs.cap x hx) h, m.k1.vs.out, m.k1.vs.inj⟩⟩, m.e0, m.e1, m.dis, m.n0, m.n1⟩
end Go.Proofs.Ytfioahnogphnfaa.Eng
end
section
set_option linter.unusedVariables false
namespace Go.Proofs.Ytfioahnogphnfaa.Eng
open Go Go.ChangeShapes Go.WideShapes Go.ChangeAt Go.RowKit
inductive Sh where
 | int (k : IntKind)
 | bool
 | sl (e : List Sh)
mutual
inductive DatC (h : AHeap) : Sh → AV → Prop
 | int {k : IntKind} {n : Int} (hn : k.has n) : DatC h (.int k) (.int k n)
 | bool (b : Bool) : DatC h .bool (.bool b)
 | nil (e : List Sh) : DatC h (.sl e) .nilSl
 | sl {e : List Sh} {b : Nat} {rows : List (List AV)} (hn : rows.length ≤ 9223372036854775807) (hb : cellsOf h b = some rows.flatten) (hr : ∀ r, r ∈ rows → DatR h e r) : DatC h (.sl e) (.sl b 0 e.length rows.length rows.length false)
inductive DatR (h : AHeap) : List Sh → List AV → Prop
 | nil : DatR h [] []
 | cons {s : Sh} {a : AV} {ss : List Sh} {as : List AV} (hd : DatC h s a) (tl : DatR h ss as) : DatR h (s :: ss) (a :: as)
end
theorem DatR.len {h : AHeap} : ∀ {ss : List Sh} {as : List AV}, DatR h ss as → as.length = ss.length
 | _, _, .nil => rfl
 | _, _, .cons _ t => by simp [DatR.len t]
theorem DatR.app {h : AHeap} {s2 : List Sh} {a2 : List AV} (d2 : DatR h s2 a2) : ∀ {s1 : List Sh} {a1 : List AV}, DatR h s1 a1 → DatR h (s1 ++ s2) (a1 ++ a2)
 | _, _, .nil => d2
 | _, _, .cons hd t => .cons hd (DatR.app d2 t)
mutual
theorem DatC.fr {h h' : AHeap} {F : Nat → Prop} (a : Fr h h' F) (n : ∀ b, b < h.length → ¬ F b) : ∀ {s : Sh} {v : AV}, DatC h s v → DatC h' s v
 | _, _, .int hn => .int hn
 | _, _, .bool b => .bool b
 | _, _, .nil e => .nil e
 | _, _, .sl hn hb hr => .sl hn (a.cells hb (n _ (lt_of_cells hb))) fun r hm => DatR.fr a n (hr r hm)
theorem DatR.fr {h h' : AHeap} {F : Nat → Prop} (a : Fr h h' F) (n : ∀ b, b < h.length → ¬ F b) : ∀ {s : List Sh} {v : List AV}, DatR h s v → DatR h' s v
 | _, _, .nil => .nil
 | _, _, .cons hd tl => .cons (DatC.fr a n hd) (DatR.fr a n tl)
end
theorem DatR.adds {h h' : AHeap} (a : Adds h h') {s : List Sh} {v : List AV} (d : DatR h s v) : DatR h' s v := d.fr (Fr.adds a (fun _ => False)) (fun _ _ h => h)
theorem DatC.adds {h h' : AHeap} (a : Adds h h') {s : Sh} {v : AV} (d : DatC h s v) : DatC h' s v := d.fr (Fr.adds a (fun _ => False)) (fun _ _ h => h)
theorem DatC.bytes {h : AHeap} {v : AV} (d : DatC h (.sl [.int .u8]) v) : ∃ zs, BS h v zs ∧ IsU8 zs ∧ (∀ b o s n l e, v = .sl b o s n l e → n ≤ l) := by
 cases d with
 | nil => exact ⟨[], .inl ⟨rfl, rfl⟩, fun z hz => (by cases hz), fun b o s n l e h => (by cases h)⟩
 | @sl _ b rows hn hb hr =>
  have key : ∀ rows : List (List AV), (∀ r, r ∈ rows → DatR h [.int .u8] r) → ∃ zs : List Int, rows.flatten = u8s zs ∧ zs.length = rows.length ∧ IsU8 zs := by
   intro rows
   induction rows with
   | nil => intro _; exact ⟨[], rfl, rfl, fun z hz => (by cases hz)⟩
   | cons r rows ih =>
    intro hr
    obtain ⟨zs, e1, e2, e3⟩ := ih fun r hm => hr r (by simp [hm])
    have hd := hr r (by simp)
    cases hd with
    | cons hd tl =>
     cases hd with
     | @int _ n hn =>
      cases tl
      refine ⟨n :: zs, by rw [List.flatten_cons, e1]; rfl, by simp [e2], fun z hz => ?_⟩
      rcases List.mem_cons.1 hz with rfl | hz
      ·exact hn
      ·exact e3 z hz
  obtain ⟨zs, e1, e2, e3⟩ := key rows hr
  rw [e1] at hb
  refine ⟨zs, .inr ⟨b, 0, rows.length, false, u8s zs, by rw [e2]; rfl, hb, fun i z hz => by rw [Nat.zero_add]; exact u8s_get hz, by rw [u8s_len]; omega⟩, e3, fun b' o s n l e h => ?_⟩
  injection h with _ _ _ h4 h5
  omega
theorem DatC.rows {h : AHeap} {e : List Sh} {v : AV} (d : DatC h (.sl e) v) : ∃ rows, RS e.length h v rows ∧ (∀ r ∈ rows, DatR h e r) ∧ rows.length ≤ 9223372036854775807 := by
 cases d with
 | nil => exact ⟨[], .inl ⟨rfl, rfl⟩, fun r hr => (by cases hr), by simp⟩
 | @sl _ b rows hn hb hr => exact ⟨rows, .inr ⟨b, _, _, rfl, hb, fun r hm => (hr r hm).len⟩, hr, hn⟩
variable {P : Program}
structure Got (w : World) (base : Nat) (shs : List Sh) (cs : List Value) (Bs : List (ABlk × Ent)) (as : List AV) : Prop where
 len : as.length = shs.length
 clen : cs.length = shs.length
 rel : ∀ φ : Ren, (∀ (i : Nat) be, Bs[i]? = some be → φ (base + i) = some be.2) → VRels φ as cs
 blk : ∀ φ : Ren, (∀ (i : Nat) be, Bs[i]? = some be → φ (base + i) = some be.2) → ∀ be ∈ Bs, ∃ o, w.heap[be.2.blk]? = some o ∧ BlkRel φ be.1 be.2 o
 own : ∀ be ∈ Bs, be.1.own = false
 dat : ∀ h : AHeap, (∀ (i : Nat) be, Bs[i]? = some be → h[base + i]? = some be.1) → DatR h shs as
theorem Got.nil (w : World) (base : Nat) : Got w base [] [] [] [] := ⟨rfl, rfl, fun _ _ => .nil, fun _ _ _ h => (by cases h), fun _ h => (by cases h), fun _ _ => .nil⟩
theorem Got.app {w : World} {base : Nat} {s1 s2 : List Sh} {c1 c2 : List Value} {B1 B2 : List (ABlk × Ent)} {a1 a2 : List AV} (g1 : Got w base s1 c1 B1 a1) (g2 : Got w (base + B1.length) s2 c2 B2 a2) : Got w base (s1 ++ s2) (c1 ++ c2) (B1 ++ B2) (a1 ++ a2) := by
 have l : ∀ {α : Type} {Q : Nat → α → Prop} {X Y : List α}, (∀ (i : Nat) be, (X ++ Y)[i]? = some be → Q (base + i) be) → (∀ (i : Nat) be, X[i]? = some be → Q (base + i) be) ∧ ∀ (i : Nat) be, Y[i]? = some be → Q (base + X.length + i) be := by
  intro α Q X Y h
  refine ⟨fun i be hi => h i be (by rw [List.getElem?_append_left (List.getElem?_eq_some_iff.1 hi).1]; exact hi), fun i be hi => ?_⟩
  have := h (X.length + i) be (by rw [List.getElem?_append_right (by omega), show X.length + i - X.length = i by omega]; exact hi)
  rw [Nat.add_assoc]; exact this
 refine ⟨by simp [g1.len, g2.len], by simp [g1.clen, g2.clen], fun φ hφ => ?_, fun φ hφ be hb => ?_, fun be hb => ?_, fun h hh => ?_⟩
 ·obtain ⟨h1, h2⟩ := l (Q := fun i (be : ABlk × Ent) => φ i = some be.2) hφ
  exact (g1.rel φ h1).append (g2.rel φ h2)
 ·obtain ⟨h1, h2⟩ := l (Q := fun i (be : ABlk × Ent) => φ i = some be.2) hφ
  rcases List.mem_append.1 hb with hb | hb
  ·exact g1.blk φ h1 be hb
  ·exact g2.blk φ h2 be hb
 ·rcases List.mem_append.1 hb with hb | hb
  ·exact g1.own be hb
  ·exact g2.own be hb
 ·obtain ⟨h1, h2⟩ := l (Q := fun i (be : ABlk × Ent) => h[i]? = some be.1) hh
  exact DatR.app (g2.dat h h2) (g1.dat h h1)
def Imp (P : Program) (t : TypeId) (shs : List Sh) : Prop :=
 ∀ {H : Type} {enc : TypeId × Value → H} {w : World} {held : Bool} {fuel : Nat} {cs : List Value} {x : DataW H × List MemPlace}, DataW.trod enc P w 0 (fun _ => true) held fuel t cs = some x →
  ∀ {r0 : Nat} {C0 : Array Value} {t0 : TypeId} {f0 : Nat × Nat}, w.heap[r0]? = some (.cells C0 t0 f0) → ∀ base : Nat, ∃ Bs as, Got w base shs cs Bs as
theorem imp_int {t : TypeId} {k : IntKind} (ht : P.underlying t = some (.int k)) : Imp P t [.int k] := by
 intro H enc w held fuel cs x h r0 C0 t0 f0 h0 base
 obtain ⟨n, rfl, _, hwf⟩ := DataW.trod_int ht h
 exact ⟨[], [.int k n], rfl, rfl, fun _ _ => .cons (.int k n) .nil, fun _ _ _ h => (by cases h), fun _ h => (by cases h), fun _ _ => .cons (.int (has_of_wf hwf)) .nil⟩
theorem imp_struct {t : TypeId} {fs : Array Field} {fields : List (List Sh)} (ht : P.underlying t = some (.struct fs)) (hc : P.cellsOf t = fields.flatten.length) (hn : fs.size = fields.length)
  (hf : ∀ (i : Nat) f ls, fs[i]? = some f → fields[i]? = some ls → f.offset = (fields.take i).flatten.length ∧ P.cellsOf f.type = ls.length ∧ Imp P f.type ls) : Imp P t fields.flatten := by
 intro H enc w held fuel cs x h r0 C0 t0 f0 h0 base
 obtain ⟨xs, n, rfl, _, hl, hxs, hg⟩ := DataW.trod_struct ht h
 rw [hc] at hl
 have key : ∀ m, m ≤ fields.length → ∃ Bs as, Got w base (fields.take m).flatten (cs.take (fields.take m).flatten.length) Bs as := by
  intro m
  induction m with
  | zero => intro _; exact ⟨[], [], Got.nil w base⟩
  | succ m ih =>
   intro hm
   obtain ⟨B1, a1, g1⟩ := ih (by omega)
   have hlt : m < fs.size := by omega
   obtain ⟨q1, q2, q3⟩ := hf m fs[m] fields[m] (Array.getElem?_eq_getElem hlt) (List.getElem?_eq_getElem (by omega))
   have g := hg m fs[m] (Array.getElem?_eq_getElem hlt)
   rw [List.getElem?_eq_getElem (by omega), q1, q2] at g
   obtain ⟨B2, a2, g2⟩ := q3 g h0 (base + B1.length)
   refine ⟨B1 ++ B2, a1 ++ a2, ?_⟩
   rw [List.take_add_one, List.getElem?_eq_getElem (by omega), Option.toList_some, List.flatten_append, List.flatten_cons, List.flatten_nil, List.append_nil, List.length_append, List.take_add]
   exact g1.app g2
 obtain ⟨Bs, as, g⟩ := key fields.length (Nat.le_refl _)
 rw [List.take_length, List.take_of_length_le (by omega)] at g
 exact ⟨Bs, as, g⟩
structure GotR (w : World) (base : Nat) (e : List Sh) (C : Array Value) (off : Nat) (rows : List (List AV)) (Bs : List (ABlk × Ent)) : Prop where
 len : ∀ r ∈ rows, r.length = e.length
 rel : ∀ φ : Ren, (∀ (i : Nat) be, Bs[i]? = some be → φ (base + i) = some be.2) → ∀ (i : Nat) r f a, rows[i]? = some r → r[f]? = some a → ∃ v, C[off + (i * e.length + f)]? = some v ∧ VRel φ a v
 blk : ∀ φ : Ren, (∀ (i : Nat) be, Bs[i]? = some be → φ (base + i) = some be.2) → ∀ be ∈ Bs, ∃ o, w.heap[be.2.blk]? = some o ∧ BlkRel φ be.1 be.2 o
 own : ∀ be ∈ Bs, be.1.own = false
 dat : ∀ h : AHeap, (∀ (i : Nat) be, Bs[i]? = some be → h[base + i]? = some be.1) → ∀ r ∈ rows, DatR h e r
theorem spot_none {w : World} {a : Addr} {v : Value} (h : w.cell? a = some v) : a.spot = none ∧ ∃ C t f, w.heap[a.block]? = some (.cells C t f) ∧ C[a.off]? = some v := by
 unfold World.cell? at h
 split at h
 ·rename_i c t f hh
  split at h
  ·cases h
  ·rename_i hs
   refine ⟨by simpa using hs, c, t, f, hh, h⟩
 ·cases h
theorem imp_slice {t e : TypeId} {ks : List Sh} (ht : P.underlying t = some (.slice e)) (hc : P.cellsOf e = ks.length) (h1 : 1 ≤ ks.length) (he : Imp P e ks) : Imp P t [.sl ks] := by
 intro H enc w held fuel cs x h r0 C0 t0 f0 h0 base
 rcases DataW.trod_slice ht h with ⟨rfl, _⟩ | ⟨ad, len, cap, elems, rest, n, rfl, rfl, _, _, hle, hmax, hel, hg, hg2, _⟩
 ·exact ⟨[], [.nilSl], rfl, rfl, fun _ _ => .cons .nilSl .nil, fun _ _ _ h => (by cases h), fun _ h => (by cases h), fun _ _ => .cons (.nil ks) .nil⟩
 by_cases hcap0 : cap = 0
 ·subst hcap0
  obtain rfl : len = 0 := by omega
  refine ⟨[(.ro [], ⟨r0, 0, C0.size⟩)], [.sl base 0 ks.length 0 0 false], rfl, rfl, fun φ hφ => ?_, fun φ hφ be hb => ?_, fun be hb => ?_, fun h hh => ?_⟩
  ·have := hφ 0 _ rfl
   exact .cons (.sl (e := ⟨r0, 0, C0.size⟩) (a := ad) (cap := 0) this (.inr rfl) (Nat.le_refl _) (Nat.le_refl _) (fun h => by cases h) (by simp)) .nil
  ·simp only [List.mem_cons, List.not_mem_nil, or_false] at hb; subst hb
   exact ⟨_, h0, C0, t0, f0, rfl, rfl, by simp, fun i a ha => by simp at ha⟩
  ·simp only [List.mem_cons, List.not_mem_nil, or_false] at hb; subst hb; rfl
  ·have := hh 0 _ rfl
   exact .cons (.sl (rows := []) (by simp) (by unfold cellsOf; rw [Nat.add_zero] at this; rw [this]; rfl) (fun r hr => by cases hr)) .nil
 obtain ⟨hrl, hrest⟩ := hg2 rfl
 have cellAt : ∀ i, i < cap → ∃ y cs', w.cells? 0 (ad.add (i * ks.length)) ks.length = some cs' ∧ DataW.trod enc P w 0 (fun _ => true) held n e cs' = some y := by
  intro i hi
  by_cases hl : i < len
  ·have g := hg i hl
   rw [List.getElem?_eq_getElem (by omega), Option.bind_eq_some_iff, hc] at g
   obtain ⟨cs', h1, h2⟩ := g
   exact ⟨_, cs', h1, h2⟩
  ·have g := hrest (i - len) (by omega)
   rw [List.getElem?_eq_getElem (by omega), Option.bind_eq_some_iff, hc, show len + (i - len) = i by omega] at g
   obtain ⟨cs', h1, h2⟩ := g
   exact ⟨_, cs', h1, h2⟩
 have cellG : ∀ {i cs'}, w.cells? 0 (ad.add (i * ks.length)) ks.length = some cs' → ∀ f, f < ks.length → w.cell? ((ad.add (i * ks.length)).add f) = cs'[f]? := by
  intro i cs' h f hf
  unfold World.cells? at h
  rw [if_pos (Nat.zero_le _)] at h
  exact mapM_some_get h f f (by rw [List.getElem?_range hf])
 obtain ⟨hs, C, tt, fz, ho, _⟩ : ad.spot = none ∧ ∃ C t f, w.heap[ad.block]? = some (.cells C t f) ∧ True := by
  obtain ⟨y, cs', q1, q2⟩ := cellAt 0 (by omega)
  have q3 := cellG q1 0 (by omega)
  have hlen : 0 < cs'.length := by
   obtain ⟨_, _, g⟩ := he q2 h0 0
   rw [g.clen]; omega
  rw [List.getElem?_eq_getElem hlen, Nat.zero_mul] at q3
  have e0 : (ad.add 0).add 0 = ad := rfl
  rw [e0] at q3
  obtain ⟨h1, C, t, f, h2, _⟩ := spot_none q3
  exact ⟨h1, C, t, f, h2, trivial⟩
 have cellC : ∀ {i cs'}, w.cells? 0 (ad.add (i * ks.length)) ks.length = some cs' → ∀ f, f < ks.length → C[ad.off + (i * ks.length + f)]? = cs'[f]? := by
  intro i cs' h f hf
  have := cellG h f hf
  rw [add_add hs, cell_of hs ho rfl] at this
  exact this
 have hsz : ad.off + cap * ks.length ≤ C.size := by
  obtain ⟨y, cs', q1, q2⟩ := cellAt (cap - 1) (by omega)
  have hl : cs'.length = ks.length := by
   obtain ⟨_, _, g⟩ := he q2 h0 0
   exact g.clen
  have := cellC q1 (ks.length - 1) (by omega)
  rw [List.getElem?_eq_getElem (by omega)] at this
  have := (Array.getElem?_eq_some_iff.1 this).1
  have e3 : cap * ks.length = (cap - 1) * ks.length + ks.length := by
   conv => lhs; rw [show cap = (cap - 1) + 1 by omega, Nat.add_mul, Nat.one_mul]
  omega
 have key : ∀ m, m ≤ len → ∃ rows Bs, rows.length = m ∧ GotR w (base + 1) ks C ad.off rows Bs := by
  intro m
  induction m with
  | zero => intro _; exact ⟨[], [], rfl, fun r h => (by cases h), fun φ _ i r f a h => (by simp at h), fun φ _ be h => (by cases h), fun be h => (by cases h), fun h _ r hr => (by cases hr)⟩
  | succ m ih =>
   intro hm
   obtain ⟨rows, B1, hl, g1⟩ := ih (by omega)
   obtain ⟨y, cs', q1, q2⟩ := cellAt m (by omega)
   obtain ⟨B2, as, g2⟩ := he q2 h0 (base + 1 + B1.length)
   have l : ∀ {Q : Nat → (ABlk × Ent) → Prop}, (∀ (i : Nat) be, (B1 ++ B2)[i]? = some be → Q (base + 1 + i) be) → (∀ (i : Nat) be, B1[i]? = some be → Q (base + 1 + i) be) ∧ ∀ (i : Nat) be, B2[i]? = some be → Q (base + 1 + B1.length + i) be := by
    intro Q h
    refine ⟨fun i be hi => h i be (by rw [List.getElem?_append_left (List.getElem?_eq_some_iff.1 hi).1]; exact hi), fun i be hi => ?_⟩
    have := h (B1.length + i) be (by rw [List.getElem?_append_right (by omega), show B1.length + i - B1.length = i by omega]; exact hi)
    rw [Nat.add_assoc (base + 1)]; exact this
   refine ⟨rows ++ [as], B1 ++ B2, by simp [hl], ⟨fun r hr => ?_, fun φ hφ i r f a hi hf => ?_, fun φ hφ be hb => ?_, fun be hb => ?_, fun h hh r hr => ?_⟩⟩
   ·rcases List.mem_append.1 hr with hr | hr
    ·exact g1.len r hr
    ·simp only [List.mem_cons, List.not_mem_nil, or_false] at hr; subst hr; exact g2.len
   ·obtain ⟨h1, h2⟩ := l (Q := fun i (be : ABlk × Ent) => φ i = some be.2) hφ
    by_cases hlt : i < rows.length
    ·rw [List.getElem?_append_left hlt] at hi
     exact g1.rel φ h1 i r f a hi hf
    ·have hi2 : i = m := by
      have := (List.getElem?_eq_some_iff.1 hi).1
      simp at this; omega
     subst hi2
     rw [List.getElem?_append_right (by omega), hl, Nat.sub_self] at hi
     simp only [List.getElem?_cons_zero, Option.some.injEq] at hi
     subst hi
     obtain ⟨v, hv, hr⟩ := (g2.rel φ h2).get hf
     have hfl : f < ks.length := by rw [← g2.len]; exact (List.getElem?_eq_some_iff.1 hf).1
     exact ⟨v, by rw [cellC q1 f hfl]; exact hv, hr⟩
   ·obtain ⟨h1, h2⟩ := l (Q := fun i (be : ABlk × Ent) => φ i = some be.2) hφ
    rcases List.mem_append.1 hb with hb | hb
    ·exact g1.blk φ h1 be hb
    ·exact g2.blk φ h2 be hb
   ·rcases List.mem_append.1 hb with hb | hb
    ·exact g1.own be hb
    ·exact g2.own be hb
   ·obtain ⟨h1, h2⟩ := l (Q := fun i (be : ABlk × Ent) => h[i]? = some be.1) hh
    rcases List.mem_append.1 hr with hr | hr
    ·exact g1.dat h h1 r hr
    ·simp only [List.mem_cons, List.not_mem_nil, or_false] at hr; subst hr; exact g2.dat h h2
 obtain ⟨rows, Bs, hl, g⟩ := key len (Nat.le_refl _)
 have hfl := rows_len g.len
 have bs : ∀ {Q : Nat → (ABlk × Ent) → Prop}, (∀ (i : Nat) be, ((ABlk.ro rows.flatten, (⟨ad.block, ad.off, C.size⟩ : Ent)) :: Bs)[i]? = some be → Q (base + i) be) → Q base (.ro rows.flatten, ⟨ad.block, ad.off, C.size⟩) ∧ ∀ (i : Nat) be, Bs[i]? = some be → Q (base + 1 + i) be := by
  intro Q h
  refine ⟨h 0 _ rfl, fun i be hi => ?_⟩
  have := h (i + 1) be (by simpa using hi)
  rw [show base + 1 + i = base + (i + 1) by omega]; exact this
 have hlen : rows.flatten.length ≤ cap * ks.length := by rw [hfl, hl]; exact Nat.mul_le_mul_right _ hle
 refine ⟨(.ro rows.flatten, ⟨ad.block, ad.off, C.size⟩) :: Bs, [.sl base 0 ks.length rows.length rows.length false], rfl, rfl, fun φ hφ => ?_, fun φ hφ be hb => ?_, fun be hb => ?_, fun h hh => ?_⟩
 ·obtain ⟨q1, _⟩ := bs (Q := fun i (be : ABlk × Ent) => φ i = some be.2) hφ
  have : VRel φ (.sl base 0 ks.length rows.length rows.length false) (.slice (some ad) len cap) := by
   rw [hl]
   refine .sl (e := ⟨ad.block, ad.off, C.size⟩) (a := ad) (cap := cap) q1 (.inl ?_) (Nat.le_refl _) hle (fun h => by cases h) (by simp; exact hsz)
   cases ad; simp at hs; subst hs; rfl
  exact .cons this .nil
 ·obtain ⟨q1, q2⟩ := bs (Q := fun i (be : ABlk × Ent) => φ i = some be.2) hφ
  rcases List.mem_cons.1 hb with rfl | hb
  ·refine ⟨_, ho, C, tt, fz, rfl, rfl, by show ad.off + rows.flatten.length ≤ C.size; omega, fun j a hj => ?_⟩
   have hjl := (List.getElem?_eq_some_iff.1 hj).1
   rw [hfl] at hjl
   have hi : j / ks.length < rows.length := Nat.div_lt_of_lt_mul (by rw [Nat.mul_comm]; exact hjl)
   have e1 : j / ks.length * ks.length + j % ks.length = j := by rw [Nat.mul_comm]; exact Nat.div_add_mod j ks.length
   have e2 := Nat.mod_lt j (show 0 < ks.length by omega)
   have e3 := rows_get g.len (List.getElem?_eq_getElem hi) _ e2
   rw [e1, hj] at e3
   obtain ⟨v, hv, hr⟩ := g.rel φ q2 _ _ _ _ (List.getElem?_eq_getElem hi) e3.symm
   rw [e1] at hv
   exact ⟨v, hv, hr⟩
  ·exact g.blk φ q2 be hb
 ·rcases List.mem_cons.1 hb with rfl | hb
  ·rfl
  ·exact g.own be hb
 ·obtain ⟨q1, q2⟩ := bs (Q := fun i (be : ABlk × Ent) => h[i]? = some be.1) hh
  exact .cons (.sl (by rw [hl]; unfold maxLen at hmax; omega) (by unfold cellsOf; rw [q1]) (g.dat h q2)) .nil
theorem imp_arg {t : TypeId} {ks : List Sh} {w : World} {v : Value} {H : Type} {enc : TypeId × Value → H} {d : DataW H} {ps : List MemPlace} (he : Imp P t [.sl ks]) (hv : OkSl w v) (h : DataW.Trod enc P w 0 (fun _ => true) true t v d ps) :
  ∀ base : Nat, ∃ Bs a, Got w base [.sl ks] [v] Bs [a] := by
 intro base
 obtain ⟨fuel, h⟩ := h
 rw [hv.cells] at h
 rcases hv with rfl | ⟨ad, len, cap, o, rfl, _, _, ho, C, tt, fz, rfl⟩
 ·exact ⟨[], .nilSl, rfl, rfl, fun _ _ => .cons .nilSl .nil, fun _ _ _ h => (by cases h), fun _ h => (by cases h), fun _ _ => .cons (.nil ks) .nil⟩
 ·obtain ⟨Bs, as, g⟩ := he h ho base
  match as, g.len with
  | [a], _ => exact ⟨Bs, a, g⟩
theorem rels_head {φ : Ren} {a : AV} {v : Value} {as : List AV} {vs : List Value} (h : VRels φ (a :: as) (v :: vs)) : VRel φ a v := by cases h; assumption
theorem DatR.head {h : AHeap} {s : Sh} {a : AV} {ss : List Sh} {as : List AV} (d : DatR h (s :: ss) (a :: as)) : DatC h s a := by cases d; assumption
theorem st_got (w : World) (Bs : List (ABlk × Ent)) (ho : ∀ be ∈ Bs, be.1.own = false) (hb : ∀ φ : Ren, (∀ (i : Nat) be, Bs[i]? = some be → φ i = some be.2) → ∀ be ∈ Bs, ∃ o, w.heap[be.2.blk]? = some o ∧ BlkRel φ be.1 be.2 o) :
  St (fun i => (Bs[i]?).map (·.2)) (Bs.map (·.1)) w := by
 have hφ : ∀ (i : Nat) be, Bs[i]? = some be → (fun i => (Bs[i]?).map (·.2)) i = some be.2 := fun i be h => by simp [h]
 constructor
 ·intro b e he
  obtain ⟨x, hx, rfl⟩ := Option.map_eq_some_iff.1 he
  obtain ⟨o, h1, h2⟩ := hb _ hφ x (List.mem_of_getElem? hx)
  exact ⟨x.1, o, by rw [List.getElem?_map, hx]; rfl, h1, h2⟩
 ·intro b b' e e' k k' _ _ hk _ ho' _ _
  rw [List.getElem?_map] at hk
  obtain ⟨x, hx, rfl⟩ := Option.map_eq_some_iff.1 hk
  rw [ho x (List.mem_of_getElem? hx)] at ho'; cases ho'
theorem own_got (Bs : List (ABlk × Ent)) (ho : ∀ be ∈ Bs, be.1.own = false) : NoOwn (Bs.map (·.1)) := by
 intro b k hk
 rw [List.getElem?_map] at hk
 obtain ⟨x, hx, rfl⟩ := Option.map_eq_some_iff.1 hk
 exact ho x (List.mem_of_getElem? hx)
end Go.Proofs.Ytfioahnogphnfaa.Eng
end
section
namespace Go.Proofs.Ytfioahnogphnfaa.Eng
open Go
end Go.Proofs.Ytfioahnogphnfaa.Eng
end
section
set_option linter.unusedVariables false
namespace Go.Proofs.Ytfioahnogphnfaa.Eng
open Go
def thereR (x : AV × Sec) : List AV := u8s x.2.there
theorem thereR_len {L : List (AV × Sec)} (h : ∀ x ∈ L, x.2.Ok) : ∀ r ∈ L.map thereR, r.length = 64 := fun r hr => by
 obtain ⟨x, hx, rfl⟩ := List.mem_map.1 hr
 unfold thereR
 rw [u8s_len, (h x hx).t.1]
structure RD (H : AHeap) (p s v c : Nat) (L : List (AV × Sec)) : Prop where
 ptr : cellsOf H p = some [.sl s 0 64 L.length L.length true, .sl v 0 1 L.length L.length true]
 bs : H[s]? = some (.rw (L.map thereR).flatten)
 bv : H[v]? = some (.rw (L.map (·.1)))
 n1 : p ≠ s
 n2 : p ≠ v
 n3 : s ≠ v
 sz : L.length ≤ 4096
 vs : VS H L c fun b => b = p ∨ b = s ∨ b = v
def fpQ (p s v : Nat) (L : List (AV × Sec)) (b : Nat) : Prop := b = p ∨ b = s ∨ b = v ∨ fpV L b
section
variable {H : AHeap} {p s v c : Nat} {L : List (AV × Sec)} (m : RD H p s v c L)
include m
theorem RD.lt {b : Nat} (h : fpQ p s v L b) : b < H.length := by
 rcases h with rfl | rfl | rfl | h
 ·exact lt_of_cells m.ptr
 ·exact lt_of_at m.bs
 ·exact lt_of_at m.bv
 ·exact m.vs.lt h
theorem RD.fr {H' : AHeap} {F : Nat → Prop} (a : Fr H H' F) (hn : ∀ b, fpQ p s v L b → ¬ F b) : RD H' p s v c L :=
 ⟨a.cells m.ptr (hn p (.inl rfl)), a.at m.bs (hn s (.inr (.inl rfl))), a.at m.bv (hn v (.inr (.inr (.inl rfl)))), m.n1, m.n2, m.n3, m.sz, m.vs.fr a fun b hb => hn b (.inr (.inr (.inr hb)))⟩
theorem RD.adds (B : AHeap) : RD (H ++ B) p s v c L := m.fr (Fr.adds ⟨B, rfl⟩ (fun _ => False)) (fun _ _ h => h)
theorem RD.up {c' : Nat} (h : c ≤ c') (hb : c' ≤ 1000000000) : RD H p s v c' L := ⟨m.ptr, m.bs, m.bv, m.n1, m.n2, m.n3, m.sz, ⟨hb, m.vs.ver, m.vs.ok, fun x hx => Nat.le_trans (m.vs.cap x hx) h, m.vs.out, m.vs.inj⟩⟩
theorem RD.row {i : Nat} {x : AV × Sec} (hi : L[i]? = some x) :
  (∃ cs, cellsOf H s = some cs ∧ i * 64 + 64 ≤ cs.length ∧ (cs.drop (i * 64)).take 64 = u8s x.2.there) ∧ (∃ cs, cellsOf H v = some cs ∧ cs[i]? = some x.1) ∧ i < L.length ∧ L.length ≤ 4096 := by
 obtain ⟨q1, q2⟩ := rows_sub (thereR_len m.vs.ok) (get_map thereR hi) 0 64 (by omega)
 rw [Nat.add_zero] at q1 q2
 refine ⟨⟨_, cells_rw m.bs, q2, ?_⟩, ⟨_, cells_rw m.bv, get_map (fun x : AV × Sec => x.1) hi⟩, (List.getElem?_eq_some_iff.1 hi).1, m.sz⟩
 rw [q1, List.drop_zero]
 exact u8s_take (m.vs.at hi).2.1.t.1
theorem RD.v_under : ∀ a ∈ L.map (·.1), a.under H.length = true := fun a ha => by
 obtain ⟨x, hx, rfl⟩ := List.mem_map.1 ha
 rcases m.vs.ver x hx with ⟨_, h0⟩ | ⟨_, b, _, h0, hH⟩
 ·rw [h0]; rfl
 ·rw [h0]; simp only [AV.under, decide_eq_true_eq]; exact lt_of_at hH
end
end Go.Proofs.Ytfioahnogphnfaa.Eng
end
section
set_option linter.unusedVariables false
namespace Go.Proofs.Ytfioahnogphnfaa.Eng
open Go
end Go.Proofs.Ytfioahnogphnfaa.Eng
end
section
set_option linter.unusedVariables false
namespace Go.Proofs.Ytfioahnogphnfaa.Eng
open Go
structure Pl where
 p : Nat
 s : Nat
 v : Nat
def fpP (a : Pl) (L : List (AV × Sec)) (b : Nat) : Prop := fpQ a.p a.s a.v L b
structure RQ (H : AHeap) (p : Nat) (x y : Pl) (c : Nat) (L0 L1 : List (AV × Sec)) (r : RgS) : Prop where
 blk : H[p]? = some (.rw (rgCells x.p y.p r))
 k0 : RD H x.p x.s x.v c L0
 k1 : RD H y.p y.s y.v c L1
 e0 : L0.map (·.2) = r.a
 e1 : L1.map (·.2) = r.b
 dis : ∀ b, fpP x L0 b → ¬ fpP y L1 b
 n0 : ¬ fpP x L0 p
 n1 : ¬ fpP y L1 p
def fpW (p : Nat) (x y : Pl) (L0 L1 : List (AV × Sec)) (b : Nat) : Prop := b = p ∨ fpP x L0 b ∨ fpP y L1 b
section
variable {H H' : AHeap} {p c : Nat} {x y : Pl} {L0 L1 : List (AV × Sec)} {r : RgS} (m : RQ H p x y c L0 L1 r)
include m
theorem RQ.fr {F : Nat → Prop} (a : Fr H H' F) (hn : ∀ b, fpW p x y L0 L1 b → ¬ F b) : RQ H' p x y c L0 L1 r :=
 ⟨a.at m.blk (hn p (.inl rfl)), m.k0.fr a fun b hb => hn b (.inr (.inl hb)), m.k1.fr a fun b hb => hn b (.inr (.inr hb)), m.e0, m.e1, m.dis, m.n0, m.n1⟩
theorem RQ.adds (B : AHeap) : RQ (H ++ B) p x y c L0 L1 r := m.fr (Fr.adds ⟨B, rfl⟩ (fun _ => False)) (fun _ _ h => h)
theorem RQ.lt {b : Nat} (h : fpW p x y L0 L1 b) : b < H.length := by
 rcases h with rfl | h | h
 ·exact lt_of_at m.blk
 ·exact m.k0.lt h
 ·exact m.k1.lt h
theorem RQ.set (r' : RgS) (ha : r'.a = r.a) (hb : r'.b = r.b) : RQ (H.set p (.rw (rgCells x.p y.p r'))) p x y c L0 L1 r' := by
 have f : Fr H (H.set p (.rw (rgCells x.p y.p r'))) (· = p) := Fr.set _ _ rfl
 exact ⟨at_set _ _ _ (lt_of_at m.blk), m.k0.fr f fun b hb e => m.n0 (e ▸ hb), m.k1.fr f fun b hb e => m.n1 (e ▸ hb), m.e0.trans ha.symm, m.e1.trans hb.symm, m.dis, m.n0, m.n1⟩
theorem RQ.up {c' : Nat} (h : c ≤ c') (hb : c' ≤ 1000000000) : RQ H p x y c' L0 L1 r := ⟨m.blk, m.k0.up h hb, m.k1.up h hb, m.e0, m.e1, m.dis, m.n0, m.n1⟩
end
def RefIn (H : AHeap) (p c : Nat) (r : RgS) (F : Nat → Prop) : Prop := ∃ x y L0 L1, RQ H p x y c L0 L1 r ∧ (∀ b, fpW p x y L0 L1 b → F b) ∧ ∀ b, F b → b < H.length
theorem RefIn.fr {H H' : AHeap} {p c : Nat} {r : RgS} {F G : Nat → Prop} (m : RefIn H p c r F) (a : Fr H H' G) (hn : ∀ b, F b → ¬ G b) : RefIn H' p c r F := by
 obtain ⟨x, y, L0, L1, m, h1, h2⟩ := m
 exact ⟨x, y, L0, L1, m.fr a fun b hb => hn b (h1 b hb), h1, fun b hb => Nat.lt_of_lt_of_le (h2 b hb) a.1⟩
theorem RefIn.adds {H : AHeap} {p c : Nat} {r : RgS} {F : Nat → Prop} (m : RefIn H p c r F) (B : AHeap) : RefIn (H ++ B) p c r F := m.fr (Fr.adds ⟨B, rfl⟩ (fun _ => False)) (fun _ _ h => h)
theorem RefIn.lt {H : AHeap} {p c : Nat} {r : RgS} {F : Nat → Prop} (m : RefIn H p c r F) : ∀ b, F b → b < H.length := by obtain ⟨_, _, _, _, _, _, h2⟩ := m; exact h2
theorem RefIn.up {H : AHeap} {p c c' : Nat} {r : RgS} {F : Nat → Prop} (m : RefIn H p c r F) (h : c ≤ c') (hb : c' ≤ 1000000000) : RefIn H p c' r F := by
 obtain ⟨x, y, L0, L1, m, h1, h2⟩ := m
 exact ⟨x, y, L0, L1, m.up h hb, h1, h2⟩
end Go.Proofs.Ytfioahnogphnfaa.Eng
end
section
namespace Go.Proofs.Ytfioahnogphnfaa.Eng
open Go
def putS : Nat → Int → List Int
 | 0, _ => []
 | k + 1, n => n % 256 :: putS k (n / 256)
theorem wrapu64 (n : Int) : IntKind.u64.wrap n = n % 18446744073709551616 := rfl
theorem wrapu64_id {n : Int} (h0 : 0 ≤ n) (h1 : n < 18446744073709551616) : IntKind.u64.wrap n = n := by rw [wrapu64]; omega
def fnvStep (h c : Int) : Int := IntKind.u64.wrap (IntKind.u64.wrap ((BitVec.ofInt 64 h ^^^ BitVec.ofInt 64 c).toNat : Int) * 1099511628211)
def moreS (h : Int) (zs : List Int) : Int := zs.foldl fnvStep h
def checkS (zs : List Int) : Int := moreS 14695981039346656037 zs
def B48 (z : List Int) : Prop := z.length = 48 ∧ IsU8 z
def headS (m s i : Int) (body : List Int) : List Int := m :: (putS 4 s ++ putS 2 i ++ body)
def encS (m s i : Int) (body : List Int) : List Int := headS m s i body ++ putS 8 (checkS (headS m s i body)) ++ [0]
def zbody : List Int := List.replicate 48 0
structure PgS where
 m : Int
 s : Int
 i : Int
 b : List Int
structure PgS.Ok (p : PgS) : Prop where
 m : 0 ≤ p.m ∧ p.m ≤ 255
 s : 0 ≤ p.s ∧ p.s < 4294967296
 i : -9223372036854775808 ≤ p.i ∧ p.i ≤ 9223372036854775807
 b : B48 p.b
def PgS.cells (p : PgS) : List AV := .int .u8 p.m :: .int .u32 p.s :: .int .i64 p.i :: u8s p.b
def GB (H : AHeap) (B : Nat) (l : AV) (zs : List Int) : Prop :=
 (zs = [] ∧ l = .nilSl) ∨ (zs ≠ [] ∧ ∃ b, B ≤ b ∧ l = .sl b 0 1 zs.length zs.length false ∧ H[b]? = some (.rw (u8s zs)))
theorem GB.bs {H : AHeap} {B : Nat} {l : AV} {zs : List Int} (g : GB H B l zs) : BS H l zs := by
 rcases g with ⟨rfl, rfl⟩ | ⟨_, b, _, rfl, h⟩
 ·exact BS.nil _
 ·exact BS.block h
theorem GB.out {H : AHeap} {B : Nat} {l : AV} {zs : List Int} (g : GB H B l zs) : ∀ b, slb l = some b → B ≤ b := by
 rcases g with ⟨rfl, rfl⟩ | ⟨_, b, hb, rfl, h⟩
 ·intro b h; cases h
 ·intro b' h; injection h with h; omega
theorem GB.cells {H : AHeap} {B : Nat} {l : AV} {zs : List Int} (g : GB H B l zs) : cellsA l = some [l] ∧ l.isCell = true := by
 rcases g with ⟨rfl, rfl⟩ | ⟨_, b, _, rfl, _⟩ <;> exact ⟨rfl, rfl⟩
theorem GB.fr {H H' : AHeap} {F : Nat → Prop} {B : Nat} {l : AV} {zs : List Int} (a : Fr H H' F) (g : GB H B l zs) (n : ∀ b, slb l = some b → ¬ F b) : GB H' B l zs := by
 rcases g with g | ⟨h0, b, hb, rfl, h⟩
 ·exact .inl g
 ·exact .inr ⟨h0, b, hb, rfl, a.at h (n b rfl)⟩
theorem GB.under {H : AHeap} {B : Nat} {l : AV} {zs : List Int} (g : GB H B l zs) (h0 : zs ≠ []) : l.under B = false := by
 rcases g with ⟨rfl, _⟩ | ⟨_, b, hb, rfl, h⟩
 ·exact absurd rfl h0
 ·simp [AV.under]; omega
end Go.Proofs.Ytfioahnogphnfaa.Eng
end
section
set_option linter.unusedVariables false
namespace Go.Proofs.Ytfioahnogphnfaa.Eng
open Go
theorem GR.same {k : Nat} {H H' : AHeap} {B : Nat} {l : AV} {rows : List (List AV)} (g : GR k H B l rows) (e : ∀ b, slb l = some b → H'[b]? = H[b]?) : GR k H' B l rows := by
 rcases g with g | ⟨h0, b, hb, rfl, h⟩
 ·exact .inl g
 ·exact .inr ⟨h0, b, hb, rfl, (e b rfl).trans h⟩
theorem VS.same {H H' : AHeap} {L : List (AV × Sec)} {c : Nat} {P : Nat → Prop} (v : VS H L c P) (e : ∀ b, fpV L b → H'[b]? = H[b]?) : VS H' L c P :=
 ⟨v.cb, fun x hx => (v.ver x hx).same fun b hb => e b ⟨x, hx, hb⟩, v.ok, v.cap, v.out, v.inj⟩
theorem DK.same {H H' : AHeap} {p d c : Nat} {L : List (AV × Sec)} (m : DK H p d c L) (e : ∀ b, fpD p d L b → H'[b]? = H[b]?) : DK H' p d c L :=
 ⟨(cells_congr (e p (.inl rfl))).trans m.ptr, (e d (.inr (.inl rfl))).trans m.blk, m.np, m.sz, m.vs.same fun b hb => e b (.inr (.inr hb))⟩
theorem RD.same {H H' : AHeap} {p s v c : Nat} {L : List (AV × Sec)} (m : RD H p s v c L) (e : ∀ b, fpQ p s v L b → H'[b]? = H[b]?) : RD H' p s v c L :=
 ⟨(cells_congr (e p (.inl rfl))).trans m.ptr, (e s (.inr (.inl rfl))).trans m.bs, (e v (.inr (.inr (.inl rfl)))).trans m.bv, m.n1, m.n2, m.n3, m.sz, m.vs.same fun b hb => e b (.inr (.inr (.inr hb)))⟩
theorem slb_under {a : AV} {n b : Nat} (h : a.under n = true) (hb : slb a = some b) : b < n := by
 cases a with
 | sl b' o z l c e => injection hb with hb; subst hb; simpa [AV.under] using h
 | _ => cases hb
theorem trim_if (h : AHeap) (v : AV) (K : AHeap) : (Trimmable h v K ∧ trim h (some (v, K)) = some (v, K.take h.length)) ∨ trim h (some (v, K)) = some (v, K) := by
 unfold trim
 simp only [Option.map_some]
 split
 ·exact .inl ⟨by assumption, rfl⟩
 ·exact .inr rfl
structure RPl where
 p : Nat
 p0 : Nat
 d0 : Nat
 p1 : Nat
 d1 : Nat
def RPl.fp (q : RPl) (L0 L1 : List (AV × Sec)) (b : Nat) : Prop := fpR q.p q.p0 q.d0 q.p1 q.d1 L0 L1 b
def RigAt (q : RPl) (H : AHeap) (c : Nat) (r : RgS) (F : Nat → Prop) : Prop := ∃ L0 L1, RG H q.p q.p0 q.d0 q.p1 q.d1 c L0 L1 r ∧ (∀ b, q.fp L0 L1 b → F b) ∧ ∀ b, F b → b < H.length
theorem RigIn.at {H : AHeap} {p c : Nat} {r : RgS} {F : Nat → Prop} (m : RigIn H p c r F) : ∃ q : RPl, q.p = p ∧ RigAt q H c r F := by
 obtain ⟨p0, d0, p1, d1, L0, L1, m, h1, h2⟩ := m
 exact ⟨⟨p, p0, d0, p1, d1⟩, rfl, L0, L1, m, h1, h2⟩
theorem RigAt.lt {q : RPl} {H : AHeap} {c : Nat} {r : RgS} {F : Nat → Prop} (m : RigAt q H c r F) : ∀ b, F b → b < H.length := by obtain ⟨_, _, _, _, h2⟩ := m; exact h2
theorem RigAt.fr {q : RPl} {H H' : AHeap} {c : Nat} {r : RgS} {F G : Nat → Prop} (m : RigAt q H c r F) (a : Fr H H' G) (hn : ∀ b, F b → ¬ G b) : RigAt q H' c r F := by
 obtain ⟨L0, L1, m, h1, h2⟩ := m
 exact ⟨L0, L1, m.fr a fun b hb => hn b (h1 b hb), h1, fun b hb => Nat.lt_of_lt_of_le (h2 b hb) a.1⟩
theorem RigAt.adds {q : RPl} {H : AHeap} {c : Nat} {r : RgS} {F : Nat → Prop} (m : RigAt q H c r F) (B : AHeap) : RigAt q (H ++ B) c r F := m.fr (Fr.adds ⟨B, rfl⟩ (fun _ => False)) (fun _ _ h => h)
theorem RigAt.up {q : RPl} {H : AHeap} {c c' : Nat} {r : RgS} {F : Nat → Prop} (m : RigAt q H c r F) (h : c ≤ c') (hb : c' ≤ 1000000000) : RigAt q H c' r F := by
 obtain ⟨L0, L1, m, h1, h2⟩ := m
 exact ⟨L0, L1, m.up h hb, h1, h2⟩
theorem vs_cut {H K : AHeap} {d c0 : Nat} {L L0 : List (AV × Sec)} {P0 : Nat → Prop} {v : AV} (t : Trimmable H v K) (hd : H[d]? = some (.rw (L0.map secR).flatten)) (v0 : VS H L0 c0 P0) (hk : K[d]? = some (.rw (L.map secR).flatten)) {b : Nat} (hb : fpV L b) : b < H.length := by
 obtain ⟨x, hx, hb⟩ := hb
 have mem : x.1 ∈ (L.map secR).flatten := List.mem_flatten.2 ⟨_, List.mem_map.2 ⟨_, hx, rfl⟩, by unfold secR; simp⟩
 rcases t.2.2 d _ (lt_of_at hd) hk x.1 mem with h | ⟨k, hk2, ha⟩
 ·exact slb_under h hb
 ·rw [hd] at hk2; injection hk2 with hk2; subst hk2
  exact slb_under (secR_under v0 _ ha) hb
theorem take_at {K : AHeap} {n b : Nat} (h : b < n) : (K.take n)[b]? = K[b]? := by rw [List.getElem?_take, if_pos h]
theorem RigAt.trim {q : RPl} {H K : AHeap} {c c0 : Nat} {r r0 : RgS} {F F' : Nat → Prop} (m0 : RigAt q H c0 r0 F) (m : RigAt q K c r F') (s : RStep H F K F') (v : AV) : ∃ H' F'', trim H (some (v, K)) = some (v, H') ∧ RigAt q H' c r F'' ∧ RStep H F H' F'' ∧ Fr H H' F := by
 rcases trim_if H v K with ⟨t, e⟩ | e
 ·obtain ⟨A0, A1, m0, _, _⟩ := m0
  obtain ⟨L0, L1, m, h1, h2⟩ := m
  have lt : ∀ b, q.fp L0 L1 b → b < H.length := fun b hb => by
   rcases hb with rfl | (rfl | rfl | hb) | (rfl | rfl | hb)
   ·exact lt_of_at m0.blk
   ·exact lt_of_cells m0.k0.ptr
   ·exact lt_of_at m0.k0.blk
   ·exact vs_cut t m0.k0.blk m0.k0.vs m.k0.blk hb
   ·exact lt_of_cells m0.k1.ptr
   ·exact lt_of_at m0.k1.blk
   ·exact vs_cut t m0.k1.blk m0.k1.vs m.k1.blk hb
  have hl : (K.take H.length).length = H.length := by rw [List.length_take]; have := t.1; omega
  have f : Fr H (K.take H.length) F := ⟨by omega, fun b hb hn => (take_at hb).trans (s.1.2 b hb hn)⟩
  refine ⟨K.take H.length, fun b => F' b ∧ b < H.length, e, ⟨L0, L1, ⟨?_, ?_, ?_, m.e0, m.e1, m.dis, m.n0, m.n1⟩, fun b hb => ⟨h1 b hb, lt b hb⟩, fun b hb => by rw [hl]; exact hb.2⟩, ⟨f, fun b hb => s.2 b hb.1⟩, f⟩
  ·exact (take_at (lt _ (.inl rfl))).trans m.blk
  ·exact m.k0.same fun b hb => take_at (lt b (.inr (.inl hb)))
  ·exact m.k1.same fun b hb => take_at (lt b (.inr (.inr hb)))
 ·exact ⟨K, F', e, m, s, s.1⟩
structure QPl where
 p : Nat
 x : Pl
 y : Pl
def RefAt (q : QPl) (H : AHeap) (c : Nat) (r : RgS) (F : Nat → Prop) : Prop := ∃ L0 L1, RQ H q.p q.x q.y c L0 L1 r ∧ (∀ b, fpW q.p q.x q.y L0 L1 b → F b) ∧ ∀ b, F b → b < H.length
theorem RefIn.at {H : AHeap} {p c : Nat} {r : RgS} {F : Nat → Prop} (m : RefIn H p c r F) : ∃ q : QPl, q.p = p ∧ RefAt q H c r F := by
 obtain ⟨x, y, L0, L1, m, h1, h2⟩ := m
 exact ⟨⟨p, x, y⟩, rfl, L0, L1, m, h1, h2⟩
theorem RefAt.lt {q : QPl} {H : AHeap} {c : Nat} {r : RgS} {F : Nat → Prop} (m : RefAt q H c r F) : ∀ b, F b → b < H.length := by obtain ⟨_, _, _, _, h2⟩ := m; exact h2
theorem RefAt.fr {q : QPl} {H H' : AHeap} {c : Nat} {r : RgS} {F G : Nat → Prop} (m : RefAt q H c r F) (a : Fr H H' G) (hn : ∀ b, F b → ¬ G b) : RefAt q H' c r F := by
 obtain ⟨L0, L1, m, h1, h2⟩ := m
 exact ⟨L0, L1, m.fr a fun b hb => hn b (h1 b hb), h1, fun b hb => Nat.lt_of_lt_of_le (h2 b hb) a.1⟩
theorem RefAt.adds {q : QPl} {H : AHeap} {c : Nat} {r : RgS} {F : Nat → Prop} (m : RefAt q H c r F) (B : AHeap) : RefAt q (H ++ B) c r F := m.fr (Fr.adds ⟨B, rfl⟩ (fun _ => False)) (fun _ _ h => h)
theorem RefAt.up {q : QPl} {H : AHeap} {c c' : Nat} {r : RgS} {F : Nat → Prop} (m : RefAt q H c r F) (h : c ≤ c') (hb : c' ≤ 1000000000) : RefAt q H c' r F := by
 obtain ⟨L0, L1, m, h1, h2⟩ := m
 exact ⟨L0, L1, m.up h hb, h1, h2⟩
theorem rd_cut {H K : AHeap} {p s v c c0 : Nat} {L L0 : List (AV × Sec)} {w : AV} (t : Trimmable H w K) (m0 : RD H p s v c0 L0) (m : RD K p s v c L) {b : Nat} (hb : fpV L b) : b < H.length := by
 obtain ⟨x, hx, hb⟩ := hb
 have mem : x.1 ∈ L.map (·.1) := List.mem_map.2 ⟨x, hx, rfl⟩
 rcases t.2.2 v _ (lt_of_at m0.bv) m.bv x.1 mem with h | ⟨k, hk2, ha⟩
 ·exact slb_under h hb
 ·rw [m0.bv] at hk2; injection hk2 with hk2; subst hk2
  exact slb_under (m0.v_under _ ha) hb
theorem RefAt.trim {q : QPl} {H K : AHeap} {c c0 : Nat} {r r0 : RgS} {F F' : Nat → Prop} (m0 : RefAt q H c0 r0 F) (m : RefAt q K c r F') (s : RStep H F K F') (v : AV) : ∃ H' F'', trim H (some (v, K)) = some (v, H') ∧ RefAt q H' c r F'' ∧ RStep H F H' F'' ∧ Fr H H' F := by
 rcases trim_if H v K with ⟨t, e⟩ | e
 ·obtain ⟨A0, A1, m0, _, _⟩ := m0
  obtain ⟨L0, L1, m, h1, h2⟩ := m
  have lt : ∀ b, fpW q.p q.x q.y L0 L1 b → b < H.length := fun b hb => by
   rcases hb with rfl | (rfl | rfl | rfl | hb) | (rfl | rfl | rfl | hb)
   ·exact lt_of_at m0.blk
   ·exact lt_of_cells m0.k0.ptr
   ·exact lt_of_at m0.k0.bs
   ·exact lt_of_at m0.k0.bv
   ·exact rd_cut t m0.k0 m.k0 hb
   ·exact lt_of_cells m0.k1.ptr
   ·exact lt_of_at m0.k1.bs
   ·exact lt_of_at m0.k1.bv
   ·exact rd_cut t m0.k1 m.k1 hb
  have hl : (K.take H.length).length = H.length := by rw [List.length_take]; have := t.1; omega
  have f : Fr H (K.take H.length) F := ⟨by omega, fun b hb hn => (take_at hb).trans (s.1.2 b hb hn)⟩
  refine ⟨K.take H.length, fun b => F' b ∧ b < H.length, e, ⟨L0, L1, ⟨?_, ?_, ?_, m.e0, m.e1, m.dis, m.n0, m.n1⟩, fun b hb => ⟨h1 b hb, lt b hb⟩, fun b hb => by rw [hl]; exact hb.2⟩, ⟨f, fun b hb => s.2 b hb.1⟩, f⟩
  ·exact (take_at (lt _ (.inl rfl))).trans m.blk
  ·exact m.k0.same fun b hb => take_at (lt b (.inr (.inl hb)))
  ·exact m.k1.same fun b hb => take_at (lt b (.inr (.inr hb)))
 ·exact ⟨K, F', e, m, s, s.1⟩
end Go.Proofs.Ytfioahnogphnfaa.Eng
end
section
set_option linter.unusedVariables false
namespace Go.Proofs.Ytfioahnogphnfaa.Eng
open Go
theorem exF2 {t : T} {f : (Nat → AV) → T} {Q : (Nat → AV) → Prop} (h : t = f (getT t)) (q : Q (getT t)) : ∃ k, t = f k ∧ Q k := ⟨getT t, h, q⟩
structure ImS where
 i : Int
 b : List Int
deriving DecidableEq
def ImS.cells (x : ImS) : List AV := .int .i64 x.i :: u8s x.b
deriving instance DecidableEq for PgS
def goodS (r : RgS) (f c at_ : Int) : Prop := 0 ≤ f ∧ 2 ≤ c ∧ c ≤ 256 ∧ f ≤ (r.a.length : Int) - c ∧ 0 ≤ at_ ∧ at_ < c
instance (r : RgS) (f c at_ : Int) : Decidable (goodS r f c at_) := by unfold goodS; exact inferInstance
def okIm (x : ImS) : Bool := decide (0 ≤ x.i) && decide (x.i ≤ 65535)
end Go.Proofs.Ytfioahnogphnfaa.Eng
end
section
set_option linter.unusedVariables false
namespace Go.Proofs.Ytfioahnogphnfaa.Eng
open Go
def imRows (l : List ImS) : List (List AV) := l.map ImS.cells
theorem GR.low {k : Nat} {H : AHeap} {B B' : Nat} {l : AV} {rows : List (List AV)} (g : GR k H B l rows) (h : B' ≤ B) : GR k H B' l rows := by
 rcases g with g | ⟨h0, b, hb, h2⟩
 ·exact .inl g
 ·exact .inr ⟨h0, b, by omega, h2⟩
theorem GR.out {k : Nat} {H : AHeap} {B : Nat} {l : AV} {rows : List (List AV)} (g : GR k H B l rows) : ∀ b, slb l = some b → B ≤ b ∧ b < H.length := by
 rcases g with ⟨_, rfl⟩ | ⟨_, b, hb, rfl, h⟩
 ·intro b h; cases h
 ·intro b' h2; injection h2 with h2; subst h2; exact ⟨hb, lt_of_at h⟩
theorem GR.frS {k : Nat} {H H' : AHeap} {F : Nat → Prop} {B : Nat} {l : AV} {rows : List (List AV)} (g : GR k H B l rows) (a : Fr H H' F) (n : ∀ b, slb l = some b → ¬ F b) : GR k H' B l rows :=
 g.same fun b hb => a.2 b (g.out b hb).2 (n b hb)
theorem GR.read {k : Nat} (hk : 1 ≤ k) {H : AHeap} {B : Nat} {l : AV} {rows : List (List AV)} (g : GR k H B l rows) (hr : ∀ r ∈ rows, r.length = k) {i : Nat} {r : List AV} (hi : rows[i]? = some r) :
  ∃ b cs, slb l = some b ∧ idxAddrS k l (.int .i64 (i : Int)) = some (.ptr b (i * k)) ∧ cellsOf H b = some cs ∧ (cs.drop (i * k)).take k = r ∧ i * k + k ≤ cs.length := by
 rcases g with ⟨rfl, _⟩ | ⟨_, b, _, rfl, h⟩
 ·simp at hi
 ·obtain ⟨q1, q2⟩ := rows_sub hr hi 0 k (by omega)
  rw [Nat.add_zero] at q1 q2
  refine ⟨b, _, rfl, idx_nat b k _ _ i false .i64 hk (List.getElem?_eq_some_iff.1 hi).1, cells_rw h, ?_, q2⟩
  rw [q1, List.drop_zero, List.take_of_length_le (by rw [hr r (List.mem_of_getElem? hi)]; exact Nat.le_refl _)]
def oneR (vs : List AV) : List (List AV) := vs.map fun a => [a]
structure LogH (H : AHeap) (B : Nat) (v : AV) (T : List (List ImS)) (vs : List AV) : Prop where
 g : GR 1 H B v (oneR vs)
 len : vs.length = T.length
 el : ∀ (i : Nat) a t, vs[i]? = some a → T[i]? = some t → GR 49 H B a (imRows t)
 ap : ∀ a ∈ vs, ∀ b, slb a = some b → slb v ≠ some b
 b48 : ∀ t ∈ T, ∀ x ∈ t, x.b.length = 48
theorem LogH.nil (H : AHeap) (B : Nat) : LogH H B .nilSl [] [] := ⟨.inl ⟨rfl, rfl⟩, rfl, fun i a t h => (by simp at h), fun a h => (by cases h), fun t h => (by cases h)⟩
theorem LogH.elV {H : AHeap} {B : Nat} {v : AV} {T : List (List ImS)} {vs : List AV} (l : LogH H B v T vs) {a : AV} (h : a ∈ vs) : ∃ rows, GR 49 H B a rows := by
 obtain ⟨i, hi⟩ := List.getElem?_of_mem h
 have lt := (List.getElem?_eq_some_iff.1 hi).1
 rw [l.len] at lt
 exact ⟨_, l.el i a _ hi (List.getElem?_eq_getElem lt)⟩
theorem LogH.fr {H H' : AHeap} {B : Nat} {v : AV} {T : List (List ImS)} {vs : List AV} {F : Nat → Prop} (l : LogH H B v T vs) (a : Fr H H' F) (n : ∀ b, B ≤ b → ¬ F b) : LogH H' B v T vs :=
 ⟨l.g.frS a fun b hb => n b (l.g.out b hb).1, l.len, fun i x t h1 h2 => (l.el i x t h1 h2).frS a fun b hb => n b ((l.el i x t h1 h2).out b hb).1, l.ap, l.b48⟩
theorem LogH.low {H : AHeap} {B B' : Nat} {v : AV} {T : List (List ImS)} {vs : List AV} (l : LogH H B v T vs) (h : B' ≤ B) : LogH H B' v T vs :=
 ⟨l.g.low h, l.len, fun i x t h1 h2 => (l.el i x t h1 h2).low h, l.ap, l.b48⟩
theorem oneR_len (vs : List AV) : ∀ r ∈ oneR vs, r.length = 1 := fun r hr => by obtain ⟨a, _, rfl⟩ := List.mem_map.1 hr; rfl
theorem LogH.push {d : TyD} (hd : d.size = 1) (hb : d.bytes = 24) {K K1 : AHeap} {B : Nat} {v l : AV} {T : List (List ImS)} {vs : List AV} {t : List ImS} (h : LogH K B v T vs) (a : Adds K K1) (g : GR 49 K1 K.length l (imRows t)) (h48 : ∀ x ∈ t, x.b.length = 48) (hB : B ≤ K.length) (hn : T.length ≤ 1000) :
  ∃ v' K2, app d v (.sl K1.length 0 1 1 1 true) (K1 ++ [.rw [l]]) = some (v', K2) ∧ LogH K2 B v' (T ++ [t]) (vs ++ [l]) ∧ Fr K1 K2 (fun b => slb v = some b) ∧ K1.length ≤ K2.length ∧ cellsA v' = some [v'] ∧ v'.isCell = true := by
 have lc := g.cells
 have g0 : GR 1 (K1 ++ [.rw [l]]) B v (oneR vs) := h.g.frS (Fr.adds (a.trans ⟨_, rfl⟩) (fun _ => False)) fun _ _ h => h
 have hvl : (oneR vs).length = T.length := by unfold oneR; rw [List.length_map, h.len]
 have ea := GR.app2 (k := 1) (by omega) (d := d) hd (by omega) (y := .sl K1.length 0 1 1 1 true) (r := [l]) g0 (oneR_len vs) rfl (by
  unfold srcCells readN cellsOf
  simp) (by simp [lc.2]) (by rw [hvl, hb]; unfold roomy; omega)
 have e1 : oneR vs ++ [[l]] = oneR (vs ++ [l]) := by unfold oneR; rw [List.map_append]; rfl
 rw [e1] at ea
 have le1 : (oneR vs).length + 1 = (oneR (vs ++ [l])).length := by unfold oneR; simp
 rw [le1] at ea
 have fr : Fr (K1 ++ [ABlk.rw [l]]) (killS v (K1 ++ [ABlk.rw [l]]) ++ [ABlk.rw (oneR (vs ++ [l])).flatten]) (fun b => slb v = some b) := (Fr.kill v _).trans (Fr.adds ⟨_, rfl⟩ (fun _ => False)) (fun _ _ h => h.elim)
 have fr1 : Fr K1 (killS v (K1 ++ [ABlk.rw [l]]) ++ [ABlk.rw (oneR (vs ++ [l])).flatten]) (fun b => slb v = some b) := (Fr.adds (⟨[ABlk.rw [l]], rfl⟩ : Adds K1 (K1 ++ [ABlk.rw [l]])) _).trans fr fun _ _ h => h
 refine ⟨_, _, ea, ⟨.inr ⟨by unfold oneR; simp, (K1 ++ [ABlk.rw [l]]).length, ?_, rfl, ?_⟩, by simp [h.len], fun i x t' hi ht => ?_, fun x hx b hb => ?_, fun t' ht x hx => ?_⟩, fr1, fr1.1, rfl, rfl⟩
 ·obtain ⟨G, rfl⟩ := a; simp; omega
 ·rw [List.getElem?_append_right (by rw [killS_len]; exact Nat.le_refl _), killS_len, Nat.sub_self]; rfl
 ·by_cases e : i < vs.length
  ·rw [List.getElem?_append_left e] at hi
   rw [List.getElem?_append_left (by rw [← h.len]; exact e)] at ht
   have g1 := h.el i x t' hi ht
   exact (g1.frS (Fr.adds a (fun _ => False)) fun _ _ h => h).frS fr1 fun b hb hv => h.ap x (List.mem_of_getElem? hi) b hb hv
  ·have : i = vs.length := by
    have := (List.getElem?_eq_some_iff.1 hi).1
    rw [List.length_append, List.length_singleton] at this; omega
   subst this
   rw [List.getElem?_append_right (Nat.le_refl _), Nat.sub_self] at hi
   rw [List.getElem?_append_right (by rw [h.len]; exact Nat.le_refl _), h.len, Nat.sub_self] at ht
   simp only [List.getElem?_cons_zero, Option.some.injEq] at hi ht
   subst hi; subst ht
   exact (g.low hB).frS fr1 fun b hb hv => by
    have h1 := (g.out b hb).1
    have h2 := (h.g.out b hv).2
    omega
 ·intro hv
  injection hv with hv
  rcases List.mem_append.1 hx with hx | hx
  ·obtain ⟨rows, gx⟩ := h.elV hx
   have := (gx.out b hb).2
   obtain ⟨G, rfl⟩ := a
   simp only [List.length_append, List.length_singleton] at hv
   omega
  ·rw [List.mem_singleton.1 hx] at hb
   have := (g.out b hb).2
   rw [List.length_append, List.length_singleton] at hv
   omega
 ·rcases List.mem_append.1 ht with ht | ht
  ·exact h.b48 t' ht x hx
  ·rw [List.mem_singleton.1 ht] at hx; exact h48 x hx
end Go.Proofs.Ytfioahnogphnfaa.Eng
end
section
namespace Go.Proofs.Ytfioahnogphnfaa.Eng
open Go
end Go.Proofs.Ytfioahnogphnfaa.Eng
end
section
set_option linter.unusedVariables false
namespace Go.Proofs.Ytfioahnogphnfaa.Eng
open Go
theorem gr_push {k : Nat} (hk : 1 ≤ k) {d : TyD} (hd : d.size = k) (hb : 1 ≤ d.bytes) {K : AHeap} {B s : Nat} {l : AV} {rows : List (List AV)} {r : List AV} (g : GR k K B l rows) (hr : ∀ x ∈ rows, x.length = k) (hs : cellsOf K s = some r) (hl : r.length = k)
  (hc : r.all AV.isCell = true) (hn : (rows.length + 1) * d.bytes ≤ roomy) (hB : B ≤ K.length) : ∃ v' K', Eng.app d l (.sl s 0 k 1 1 true) K = some (v', K') ∧ GR k K' B v' (rows ++ [r]) ∧ Fr K K' (fun b => slb l = some b) ∧ slb v' = some K.length ∧ K'.length = K.length + 1 ∧ cellsA v' = some [v'] ∧ v'.isCell = true := by
 have ea := GR.app2 hk hd hb (y := .sl s 0 k 1 1 true) g hr rfl (by
  unfold srcCells readN
  simp [hs, hl, List.take_of_length_le (Nat.le_of_eq hl)]) hc hn
 have fr : Fr K (killS l K ++ [ABlk.rw (rows ++ [r]).flatten]) (fun b => slb l = some b) := (Fr.kill l K).trans (Fr.adds ⟨_, rfl⟩ (fun _ => False)) (fun _ _ h => h.elim)
 refine ⟨_, _, ea, .inr ⟨by simp, K.length, hB, ?_, ?_⟩, fr, rfl, by rw [List.length_append, killS_len]; rfl, rfl, rfl⟩
 ·simp
 ·rw [List.getElem?_append_right (by rw [killS_len]; exact Nat.le_refl _), killS_len, Nat.sub_self]; rfl
abbrev PrS := Int × Int
def prC (p : PrS) : List AV := [.int .i64 p.1, .int .i64 p.2]
theorem pairs_of {h : AHeap} : ∀ {rows : List (List AV)}, (∀ r ∈ rows, DatR h [.int .i64, .int .i64] r) → ∃ l : List PrS, rows = l.map prC ∧ ∀ p ∈ l, IntKind.i64.has p.1 ∧ IntKind.i64.has p.2
 | [], _ => ⟨[], rfl, fun p hp => by cases hp⟩
 | r :: rows, hr => by
  obtain ⟨l, e, hl⟩ := pairs_of (rows := rows) fun r hm => hr r (by simp [hm])
  have hd := hr r (by simp)
  cases hd with
  | cons d1 t => cases t with
   | cons d2 t => cases t with
    | nil => cases d1 with
     | @int _ x n1 => cases d2 with
      | @int _ y n2 =>
       refine ⟨(x, y) :: l, by rw [e]; rfl, fun p hp => ?_⟩
       rcases List.mem_cons.1 hp with rfl | hp
       ·exact ⟨n1, n2⟩
       ·exact hl p hp
def PS (H : AHeap) (v : AV) (l : List PrS) : Prop := RS 2 H v (l.map prC)
theorem PS.adds {H H' : AHeap} {v : AV} {l : List PrS} (p : PS H v l) (a : Adds H H') : PS H' v l := RS.adds p a
theorem PS.len {H : AHeap} {v : AV} {l : List PrS} (p : PS H v l) : lenSl v = some (.int .i64 l.length) := by
 have := RS.len p
 rwa [List.length_map] at this
theorem PS.idx {H : AHeap} {v : AV} {l : List PrS} (ps : PS H v l) {i : Nat} {p : PrS} (hi : l[i]? = some p) :
  ∃ b cs, idxAddrS 2 v (.int .i64 (i : Int)) = some (.ptr b (i * 2)) ∧ cellsOf H b = some cs ∧ cs[i * 2]? = some (.int .i64 p.1) ∧ cs[i * 2 + 1]? = some (.int .i64 p.2) ∧ i * 2 + 2 ≤ cs.length := by
 obtain ⟨b, cs, ix, hc, hg, _, hle, _⟩ := RS.idx (by omega) ps (get_map prC hi) .i64
 exact ⟨b, cs, ix, hc, by have := hg 0 (by omega); exact this, by have := hg 1 (by omega); exact this, hle⟩
theorem LogH.row {H : AHeap} {B : Nat} {v : AV} {T : List (List ImS)} {vs : List AV} (h : LogH H B v T vs) {i : Nat} {t : List ImS} (ht : T[i]? = some t) :
  ∃ a b cs, vs[i]? = some a ∧ slb v = some b ∧ idxAddrS 1 v (.int .i64 (i : Int)) = some (.ptr b i) ∧ cellsOf H b = some cs ∧ cs[i]? = some a ∧ i + 1 ≤ cs.length ∧ GR 49 H B a (imRows t) ∧ ∀ x ∈ t, x.b.length = 48 := by
 have lt := (List.getElem?_eq_some_iff.1 ht).1
 rw [← h.len] at lt
 have hv := List.getElem?_eq_getElem lt
 obtain ⟨b, cs, sb, ix, hc, hr, hle⟩ := GR.read (by omega) h.g (oneR_len vs) (get_map (fun a => [a]) hv)
 rw [Nat.mul_one] at ix hr hle
 refine ⟨vs[i], b, cs, hv, sb, ix, hc, ?_, hle, h.el i _ t hv ht, h.b48 t (List.mem_of_getElem? ht)⟩
 have := congrArg (fun q : List AV => q[0]?) hr
 rw [List.getElem?_take, if_pos (by omega), List.getElem?_drop, Nat.add_zero] at this
 exact this
end Go.Proofs.Ytfioahnogphnfaa.Eng
end
section
set_option linter.unusedVariables false
namespace Go.Proofs.Ytfioahnogphnfaa.Eng
open Go
section
variable {r q : RgS} (e : ∀ i, r.read 0 i = q.read 0 i)
include e
end
section
variable {R : RgS → RgS → Prop} (hw : ∀ r q i z, R r q → (r.write 0 i z).2 = (q.write 0 i z).2 ∧ R (r.write 0 i z).1 (q.write 0 i z).1) (hf : ∀ r q, R r q → (r.flush 0).2 = (q.flush 0).2 ∧ R (r.flush 0).1 (q.flush 0).1)
include hw hf
end
structure Up (r : RgS) : Prop where
 fuse : r.fuse = -1
 down : r.down = false
theorem Up.pass {r : RgS} (u : Up r) : r.pass = ({ r with done := IntKind.i64.wrap (r.done + 1) }, 0) := by
 unfold RgS.pass
 rw [if_neg (by rw [u.fuse, u.down]; simp), u.fuse]
 simp only [Int.reduceNeg, gt_iff_lt, Int.reduceLT, if_false]
theorem put_up {r : RgS} (u : Up r) (dev : Int) (l : List Sec) : Up (r.put dev l) := by
 unfold RgS.put; split
 ·exact ⟨u.fuse, u.down⟩
 ·split
  ·exact ⟨u.fuse, u.down⟩
  ·exact u
theorem Up.write {r : RgS} (u : Up r) (dev i : Int) (z : List Int) : Up (r.write dev i z).1 := by
 unfold RgS.write
 rw [u.pass]
 split
 ·simp only [if_true]
  exact put_up (r := { r with done := IntKind.i64.wrap (r.done + 1) }) ⟨u.fuse, u.down⟩ _ _
 ·exact u
theorem Up.flush {r : RgS} (u : Up r) (dev : Int) : Up (r.flush dev).1 := by
 unfold RgS.flush
 rw [u.pass]
 split
 ·simp only [if_true]
  exact put_up (r := { r with done := IntKind.i64.wrap (r.done + 1) }) ⟨u.fuse, u.down⟩ _ _
 ·exact u
theorem Up.read {r : RgS} (u : Up r) {i : Nat} {s : Sec} (h : r.a[i]? = some s) : r.read 0 (i : Int) = (s.last, 0) := by
 have lt := (List.getElem?_eq_some_iff.1 h).1
 unfold RgS.read
 rw [if_pos ⟨by omega, by show (i : Int) < (r.a.length : Int); omega⟩, u.down, Int.toNat_natCast]
 show (((r.a[i]?).getD zsec).last, (0 : Int)) = _
 rw [h]; rfl
end Go.Proofs.Ytfioahnogphnfaa.Eng
end
section
set_option linter.unusedVariables false
namespace Go.Proofs.Ytfioahnogphnfaa.Eng
open Go
def cont (r : RgS) (i : Nat) : List Int := ((r.a[i]?).getD zsec).last
def Still (r : RgS) : Prop := ∀ s ∈ r.a, s.vers = []
structure Rn (r : RgS) (f c : Nat) : Prop where
 up : Up r
 c2 : 2 ≤ c
 c256 : c ≤ 256
 fit : f + c ≤ r.a.length
def vw (r : RgS) (f c p j : Nat) : List Int := cont r (f + (p + j) % c)
section
variable {r : RgS} {f c : Nat} (h : Rn r f c)
include h
end
def encI (s : Int) (x : ImS) : List Int := encS 73 s x.i x.b
def secT (s : Int) (l : List ImS) : List (List Int) := l.map (encI s) ++ [encS 67 s l.length zbody]
theorem secT_len (s : Int) (l : List ImS) : (secT s l).length = l.length + 1 := by simp [secT]
structure GoodT (c : Nat) (t : List ImS) : Prop where
 ne : 1 ≤ t.length
 ok : t.all okIm = true
 b : ∀ x ∈ t, B48 x.b
 fit : t.length + 1 ≤ c
section
variable {f c : Nat} (p off : Nat) {s : Int}
end
section
variable {r : RgS} {f c : Nat} (h : Rn r f c) (p off : Nat) {s : Int} (hs : 0 ≤ s ∧ s < 4294967296) {t : List ImS} (g : GoodT c t)
include h hs g
end
def tot (T : List (List ImS)) : Nat := (T.map fun t => t.length + 1).sum
theorem tot_cons (t : List ImS) (T : List (List ImS)) : tot (t :: T) = t.length + 1 + tot T := by simp [tot]
def Trail (r : RgS) (f c p : Nat) : Nat → Int → List (List ImS) → Prop
 | _, _, [] => True
 | off, s, t :: T => (∀ k z, (secT s t)[k]? = some z → vw r f c p (off + k) = z) ∧ Trail r f c p (off + (t.length + 1)) (s + 1) T
theorem Trail.mono {r r' : RgS} {f c p : Nat} : ∀ {T : List (List ImS)} {off : Nat} {s : Int}, Trail r f c p off s T → (∀ j, off ≤ j → j < off + tot T → vw r' f c p j = vw r f c p j) → Trail r' f c p off s T
 | [], _, _, _, _ => trivial
 | t :: T, off, s, ⟨h1, h2⟩, e => by
  rw [tot_cons] at e
  refine ⟨fun k z hz => ?_, h2.mono fun j a b => e j (by omega) (by omega)⟩
  have := (List.getElem?_eq_some_iff.1 hz).1
  rw [secT_len] at this
  rw [e _ (by omega) (by omega)]
  exact h1 k z hz
theorem Trail.take {r : RgS} {f c p : Nat} : ∀ {T : List (List ImS)} {off : Nat} {s : Int} (n : Nat), Trail r f c p off s T → Trail r f c p off s (T.take n)
 | [], _, _, n, _ => by simp [Trail]
 | t :: T, off, s, 0, _ => trivial
 | t :: T, off, s, n + 1, ⟨h1, h2⟩ => ⟨h1, h2.take n⟩
end Go.Proofs.Ytfioahnogphnfaa.Eng
end
section
set_option linter.unusedVariables false
namespace Go.Proofs.Ytfioahnogphnfaa.Eng
open Go
section
variable {r : RgS} {f c p : Nat} {s : Int} {T : List (List ImS)} {t : List ImS}
end
end Go.Proofs.Ytfioahnogphnfaa.Eng
end
section
set_option linter.unusedVariables false
namespace Go.Proofs.Ytfioahnogphnfaa.Eng
open Go
structure Form (z hd : List Int) : Prop where
 l : hd.length = 55
 e : z = hd ++ (putS 8 (checkS hd) ++ [0])
theorem Form.head {z hd : List Int} (f : Form z hd) : z.take 55 = hd := by rw [f.e, List.take_append_of_le_length (by rw [f.l]; exact Nat.le_refl _), List.take_of_length_le (by rw [f.l]; exact Nat.le_refl _)]
end Go.Proofs.Ytfioahnogphnfaa.Eng
end
section
set_option linter.unusedVariables false
namespace Go.Proofs.Ytfioahnogphnfaa.Eng
open Go
def Sub (r : RgS) (A : Nat → List Int → Prop) : Prop := ∀ i s, r.a[i]? = some s → ∀ z, (z = s.there ∨ z ∈ s.vers) → A i z
theorem last_of (s : Sec) : s.last = s.there ∨ s.last ∈ s.vers := by
 unfold Sec.last
 cases h : s.vers.getLast? with
 | none => exact .inl rfl
 | some z => exact .inr (List.mem_of_getLast? h)
theorem Still.sub {r : RgS} (h : Still r) : Sub r fun i z => z = cont r i := fun i s hs z hz => by
 have v := h s (List.mem_of_getElem? hs)
 show z = cont r i
 unfold cont
 rw [hs]
 rcases hz with rfl | hz
 ·show s.there = s.last; unfold Sec.last; rw [v]; rfl
 ·rw [v] at hz; cases hz
theorem Sub.mono {r : RgS} {A B : Nat → List Int → Prop} (h : Sub r A) (hb : ∀ i z, A i z → B i z) : Sub r B := fun i s hs z hz => hb _ _ (h i s hs z hz)
theorem Sub.same {r r' : RgS} {A : Nat → List Int → Prop} (h : Sub r A) (e : r'.a = r.a) : Sub r' A := fun i s hs => by rw [e] at hs; exact h i s hs
theorem pass_a (r : RgS) : r.pass.1.a = r.a := by unfold RgS.pass; split <;> rfl
theorem write_cases (r : RgS) (i : Nat) (hi : i < r.a.length) (z : List Int) : ((r.write 0 (i : Int) z).2 = 0 ∧ (r.write 0 (i : Int) z).1.a = r.a.modify i fun s => ⟨s.there, s.vers ++ [z]⟩) ∨ ((r.write 0 (i : Int) z).2 ≠ 0 ∧ (r.write 0 (i : Int) z).1.a = r.a) := by
 unfold RgS.write
 rw [if_pos ⟨by omega, by show (i : Int) < (r.a.length : Int); omega⟩]
 split
 ·rw [Int.toNat_natCast]; exact .inl ⟨rfl, rfl⟩
 ·rename_i h; exact .inr ⟨h, pass_a r⟩
theorem flush_cases (r : RgS) : ((r.flush 0).2 = 0 ∧ (r.flush 0).1.a = r.a.map settled) ∨ ((r.flush 0).2 ≠ 0 ∧ (r.flush 0).1.a = r.a) := by
 unfold RgS.flush
 rw [if_pos (.inl rfl)]
 split
 ·exact .inl ⟨rfl, rfl⟩
 ·rename_i h; exact .inr ⟨h, pass_a r⟩
theorem Sub.write {r : RgS} {A : Nat → List Int → Prop} (h : Sub r A) {i : Nat} (hi : i < r.a.length) {z : List Int} (hz : A i z) : Sub (r.write 0 (i : Int) z).1 A := by
 rcases write_cases r i hi z with ⟨_, e⟩ | ⟨_, e⟩
 ·intro j s hs y hy
  rw [e, List.getElem?_modify] at hs
  by_cases q : i = j
  ·subst q
   rw [List.getElem?_eq_getElem hi] at hs
   simp only [if_true, Option.map_eq_map, Option.map_some, Option.some.injEq] at hs
   subst hs
   simp only [List.mem_append, List.mem_singleton] at hy
   rcases hy with hy | hy | hy
   ·exact h i _ (List.getElem?_eq_getElem hi) _ (.inl hy)
   ·exact h i _ (List.getElem?_eq_getElem hi) _ (.inr hy)
   ·rw [hy]; exact hz
  ·simp only [if_neg q, Option.map_eq_map, Option.map_id'] at hs
   exact h j s hs y hy
 ·exact h.same e
theorem Sub.flush {r : RgS} {A : Nat → List Int → Prop} (h : Sub r A) : Sub (r.flush 0).1 A := by
 rcases flush_cases r with ⟨_, e⟩ | ⟨_, e⟩
 ·intro j s hs y hy
  rw [e, List.getElem?_map] at hs
  cases hx : r.a[j]? with
  | none => rw [hx] at hs; cases hs
  | some x =>
   rw [hx] at hs
   simp only [Option.map_some, Option.some.injEq] at hs
   subst hs
   rcases hy with hy | hy
   ·rw [hy]; exact h j x hx _ (last_of x)
   ·cases hy
 ·exact h.same e
section
variable {f c : Nat} (p off : Nat) {s : Int}
end
end Go.Proofs.Ytfioahnogphnfaa.Eng
end
section
set_option linter.unusedVariables false
namespace Go.Proofs.Ytfioahnogphnfaa.Eng
open Go
section
variable {r r2 : RgS} {f c p : Nat} {s : Int} {T : List (List ImS)} {t : List ImS}
end
end Go.Proofs.Ytfioahnogphnfaa.Eng
end
section
namespace Go.Proofs.Ytfioahnogphnfaa.Eng
open Go Go.ChangeShapes Go.WideShapes Go.ChangeAt Go.RowKit
variable {P : Program} {H : Type} {enc : TypeId × Value → H}
end Go.Proofs.Ytfioahnogphnfaa.Eng
end
section
set_option linter.unusedVariables false
namespace Go.Proofs.Ytfioahnogphnfaa.Eng
open Go Go.ChangeShapes Go.WideShapes Go.ChangeAt Go.RowKit
abbrev Over := Nat → List AV → AHeap → Option (AV × AHeap)
noncomputable def envX (P : Program) (X : Over) : Env :=
 ⟨fun f args h => match X f args h with | some r => some r | none => (envL P).call f args h, (envL P).yield, (envL P).loop⟩
def Told1 (P : Program) (f : Nat) (args : List AV) (h : AHeap) (v : AV) (h' : AHeap) : Prop :=
 ((∃ fn, P.funcs[f]? = some fn ∧ fn.body.isSome = true) ∧ ∀ φ w (cargs : Array Value) n, St φ h w → VRels φ args cargs.toList → CallsIn Fence.wide n P f cargs w (Post φ h w v h')) ∨
  ((∀ b l, args ≠ .yld b :: l) ∧ ∀ φ w (cargs : Array Value), St φ h w → VRels φ args cargs.toList → ∃ cv w' φ', (callFunc f cargs).run P w = .ok (.value cv) w' ∧ VRel φ' v cv ∧ St φ' h' w' ∧ Ext φ h w φ' h' w')
def Over.Ok (P : Program) (X : Over) : Prop := ∀ f args h v h', X f args h = some (v, h') → Told1 P f args h v h'
theorem envX_sound {P : Program} (g : Good P) {X : Over} (ok : X.Ok P) : SoundE P (envX P X) where
 call f args h v h' hv := by
  unfold envX at hv
  simp only at hv
  cases ho : X f args h with
  | none => rw [ho] at hv; exact (envL_sound g).call _ _ _ _ _ hv
  | some u =>
   rw [ho] at hv
   simp only [Option.some.injEq] at hv
   subst hv
   exact ok f args h v h' ho
 yield := (envL_sound g).yield
 loop := (envL_sound g).loop
def Over.none : Over := fun _ _ _ => .none
theorem none_ok (P : Program) : Over.none.Ok P := fun _ _ _ _ _ h => by cases h
def Over.with (X : Over) (g : Nat) (R : List AV → AHeap → Option (AV × AHeap)) : Over := fun f args h => if f = g then R args h else X f args h
theorem with_ok {P : Program} {X : Over} (ok : X.Ok P) {g : Nat} {R : List AV → AHeap → Option (AV × AHeap)} (hR : ∀ args h v h', R args h = some (v, h') → Told1 P g args h v h') : (X.with g R).Ok P := by
 intro f args h v h' hv
 unfold Over.with at hv
 split at hv
 ·rename_i e; subst e; exact hR _ _ _ _ hv
 ·exact ok _ _ _ _ _ hv
noncomputable def Over.up (P : Program) (X : Over) (g : Nat) : Over := X.with g fun args h => callBody P (envX P X) g args h
theorem up_ok {P : Program} (g : Good P) {X : Over} (ok : X.Ok P) (f : Nat) : (X.up P f).Ok P :=
 with_ok ok fun args h v h' hv => .inl (call_ok g (envX_sound g ok) hv)
def wakeR : List AV → AHeap → Option (AV × AHeap) := fun args h => if args.isEmpty = true then some (.bool true, h) else .none
theorem wake_ok {P : Program} (g : Good P) {X : Over} (ok : X.Ok P) {f : Nat} {h1 : AHeap} (hv : callBody P (envX P X) f [] [] = some (.bool true, h1)) : ∀ args h v h', wakeR args h = some (v, h') → Told1 P f args h v h' := by
 intro args h v h' e
 unfold wakeR at e
 split at e
 ·rename_i he
  cases args with
  | cons _ _ => cases he
  | nil =>
   injection e with e; injection e with e1 e2; subst e1; subst e2
   obtain ⟨q1, q2⟩ := call_ok g (envX_sound g ok) hv
   refine .inl ⟨q1, fun φ w cargs n s hr => CallsIn.mono (q2 (fun _ => Option.none) w cargs n (St.none w) (hr.bare rfl)) fun e w' p => ?_⟩
   obtain ⟨cv, φ', he, hr, _, x⟩ := p
   have keep : ∀ r, r < w.heap.size → w'.heap[r]? = w.heap[r]? := fun r hr => x.cfr r hr (by rintro ⟨_, _, _, hb, _⟩; cases hb)
   refine ⟨cv, φ, he, VRel.bare rfl hr, ⟨fun b e hb => ?_, s.inj⟩, ⟨Nat.le_refl _, x.wlen, x.os, x.tape, x.output, fun _ _ => rfl, fun _ _ _ => rfl, fun _ _ ho => ho, fun r hr _ => keep r hr, fun _ L hL => ⟨L, hL⟩⟩⟩
   obtain ⟨k, o, hk, ho, hrel⟩ := s.dom b e hb
   exact ⟨k, o, hk, by rw [keep _ (s.wlt hb)]; exact ho, hrel⟩
 ·cases e
theorem calls_trueX {P : Program} (g : Good P) {X : Over} (ok : X.Ok P) {f : Nat} {args : List AV} {h0 h' : AHeap} (hn : NoOwn h0) (hv : callBody P (envX P X) f args h0 = some (.bool true, h')) {w : World} {φ : Ren} (s : St φ h0 w) {cargs : Array Value} (ha : VRels φ args cargs.toList) :
  Calls P f cargs w fun e w' => e = .returned (.bool true) ∧ Below w.heap.size w w' := by
 refine Calls.mono (callsIn_wide.1 ((call_ok g (envX_sound g ok) hv).2 φ w cargs 0 s ha)) fun e w' p => ?_
 obtain ⟨cv, φ', rfl, hr, _, x⟩ := p
 cases hr
 exact ⟨rfl, x.under hn⟩
theorem x_loop (P : Program) (X : Over) : (envX P X).loop = (envL P).loop := rfl
theorem x_yield (P : Program) (X : Over) : (envX P X).yield = (envL P).yield := rfl
end Go.Proofs.Ytfioahnogphnfaa.Eng
end
section
set_option linter.unusedVariables false
namespace Go.Proofs.Ytfioahnogphnfaa.Eng
open Go Go.ChangeShapes Go.WideShapes Go.ChangeAt Go.RowKit
def isRw (h : AHeap) (b : Nat) : Bool := match h[b]? with | some (.rw _) => true | _ => false
theorem isRw_of {h : AHeap} {b : Nat} (e : isRw h b = true) : ∃ cs, h[b]? = some (.rw cs) := by
 unfold isRw at e
 split at e
 ·exact ⟨_, by assumption⟩
 ·cases e
def ovR : List AV → AHeap → Option (AV × AHeap) := fun args h => match args with
 | [.sl vb _ _ _ lo _, .sl b _ sz _ lo' _] => if vb ≠ b ∧ 1 ≤ lo ∧ 1 ≤ lo' ∧ 1 ≤ sz ∧ isRw h vb = true ∧ isRw h b = true then some (.bool false, h) else none
 | _ => none
theorem shape_of {w : World} {b : Nat} {C : Array Value} {t : TypeId} (h : w.heap[b]? = some (.cells C t (0, 0))) : w.shape? b = some (t, C.size) := by
 simp [World.shape?, h]
theorem frozen_of {w : World} {a : Addr} {C : Array Value} {t : TypeId} (h : w.heap[a.block]? = some (.cells C t (0, 0))) : w.frozen? a = false := by
 simp [World.frozen?, h]
theorem ov_ok {P : Program} {f : Nat} {fn : Func} {tS tR e : TypeId} {d : TyD} (hf : P.funcs[f]? = some fn) (hname : (fn.name == "runtime.NumGoroutine") = false) (hb : fn.body.isNone = true) (hn : Extern.findNext fn = none)
  (he : Extern.find fn = some (Extern.SlicesOverlaps.overlaps #[tS, tS] #[tR])) (ht : P.underlying tS = some (.slice e)) (hd : tyD P e = some d) : ∀ args h v h', ovR args h = some (v, h') → Told1 P f args h v h' := by
 intro args h v h' hv
 unfold ovR at hv
 split at hv
 ·rename_i vb o1 s1 l1 lo1 ex1 b o2 sz l2 lo2 ex2
  split at hv
  ·rename_i hc
   obtain ⟨hne, h1, h2, h3, r1, r2⟩ := hc
   injection hv with hv; injection hv with e1 e2; subst e1; subst e2
   obtain ⟨c1, k1⟩ := isRw_of r1
   obtain ⟨c2, k2⟩ := isRw_of r2
   refine .inr ⟨fun b l q => (by injection q with q; cases q), fun φ w cargs s hr => ?_⟩
   obtain ⟨x, y, hxy, hx, hy⟩ : ∃ x y, cargs = #[x, y] ∧ VRel φ (.sl vb o1 s1 l1 lo1 ex1) x ∧ VRel φ (.sl b o2 sz l2 lo2 ex2) y := by
    have hl := hr.length_eq
    obtain ⟨x, hx, rx⟩ := hr.get (i := 0) rfl
    obtain ⟨y, hy, ry⟩ := hr.get (i := 1) rfl
    refine ⟨x, y, ?_, rx, ry⟩
    apply Array.ext'
    apply List.ext_getElem?
    intro i
    rcases i with _ | _ | i
    ·exact hx
    ·exact hy
    ·rw [List.getElem?_eq_none (by rw [← hl]; simp), List.getElem?_eq_none (by simp)]
   subst hxy
   obtain ⟨i0, z, ud, K⟩ := tyD_ok hd
   cases hx with
   | @sl _ _ _ _ _ _ E1 A1 cap1 g1 ga1 p1 p2 p3 p4 =>
    cases hy with
    | @sl _ _ _ _ _ _ E2 A2 cap2 g2 ga2 q1 q2 q3 q4 =>
     obtain ⟨k1', ob1, m1, m2, m3⟩ := s.dom _ _ g1
     obtain rfl : ABlk.rw c1 = k1' := Option.some.inj (k1.symm.trans m1)
     obtain ⟨C1, t1, rfl, _⟩ := m3
     obtain ⟨k2', ob2, n1, n2, n3⟩ := s.dom _ _ g2
     obtain rfl : ABlk.rw c2 = k2' := Option.some.inj (k2.symm.trans n1)
     obtain ⟨C2, t2, rfl, hC2⟩ := n3
     have ea1 : A1.block = E1.blk := ga1.elim (fun q => by rw [q]) (fun q => by omega)
     have ea2 : A2.block = E2.blk := ga2.elim (fun q => by rw [q]) (fun q => by omega)
     have hbl := s.inj _ _ _ _ _ _ g1 g2 k1 k2 rfl rfl hne
     have z2 : C2.size ≠ 0 := by
      have e1 := hC2.1
      have : 1 ≤ cap2 * sz := Nat.le_trans (by omega) (Nat.mul_le_mul (show 1 ≤ cap2 by omega) h3)
      omega
     refine ⟨.bool false, w, φ, ?_, .bool false, s, Ext.refl φ h w⟩
     rw [run_callFunc_extern hf hname hb hn he]
     rw [Lib.run_overlaps_apart w tS tR e ht d.size (fun w1 => K.run_size w1) A1 A2 l1 cap1 l2 cap2 (by rw [ea1, ea2]; exact hbl) t1 t2 C1.size C2.size (shape_of (by rw [ea1]; exact m2)) (shape_of (by rw [ea2]; exact n2)) z2 (frozen_of (by rw [ea1]; exact m2)) (frozen_of (by show w.heap[A1.block]? = _; rw [ea1]; exact m2))]
     rfl
  ·cases hv
 ·cases hv
end Go.Proofs.Ytfioahnogphnfaa.Eng
end
section
set_option linter.unusedVariables false
namespace Go.Proofs.Ytfioahnogphnfaa.Eng
open Go Go.ChangeShapes Go.WideShapes Go.ChangeAt Go.RowKit
def insC (sz i : Nat) (cs vs : List AV) : List AV := cs.take (i * sz) ++ vs ++ cs.drop (i * sz)
def insR (sz bytes : Nat) : List AV → AHeap → Option (AV × AHeap) := fun args h => match args with
 | [.sl b 0 s1 n n' false, .int .i64 (.ofNat i), .sl vb 0 s2 1 1 true] =>
  match h[b]?, h[vb]? with
  | some (.rw cs), some (.rw vs) =>
   if s1 = sz ∧ s2 = sz ∧ n' = n ∧ vb ≠ b ∧ i < n ∧ cs.length = n * sz ∧ vs.length = sz ∧ cs.all AV.isCell = true ∧ vs.all AV.isCell = true ∧ (n + 1) * bytes ≤ roomy then
    some (.sl h.length 0 sz (n + 1) (n + 1) false, h.set b .dead ++ [.rw (insC sz i cs vs)])
   else none
  | _, _ => none
 | _ => none
section
variable {φ φ' : Ren} {h K : AHeap} {w w' : World}
theorem St.kill (s : St φ h w) (b : Nat) : St φ (h.set b .dead) w := by
 refine ⟨fun c e hc => ?_, fun c c' e e' k k' hc hc' hk hk' ho ha hne => ?_⟩
 ·obtain ⟨k, o, h1, h2, h3⟩ := s.dom c e hc
  by_cases q : b = c
  ·subst q
   exact ⟨.dead, o, List.getElem?_set_self (List.getElem?_eq_some_iff.1 h1).1, h2, trivial⟩
  ·exact ⟨k, o, by rw [List.getElem?_set_ne q]; exact h1, h2, h3⟩
 ·have key : ∀ (c : Nat) (k : ABlk), (h.set b .dead)[c]? = some k → k.alive = true → h[c]? = some k := fun c k hk ha => by
   by_cases q : b = c
   ·subst q
    have := (List.getElem?_eq_some_iff.1 hk).1
    rw [List.length_set] at this
    rw [List.getElem?_set_self this] at hk
    injection hk with hk; subst hk; cases ha
   ·rwa [List.getElem?_set_ne q] at hk
  exact s.inj c c' e e' k k' hc hc' (key c k hk (ABlk.alive_of_own ho)) (key c' k' hk' ha) ho ha hne
theorem Ext.kill (x : Ext φ h w φ' K w') {b : Nat} {e : Ent} (hb : φ' b = some e) (hl : ∀ L, K[b]? ≠ some (.loop L)) : Ext φ h w φ' (K.set b .dead) w' := by
 refine ⟨by rw [List.length_set]; exact x.hlen, x.wlen, x.os, x.tape, x.output, x.old, fun c hc hn => ?_, fun r hr ho => ?_, x.cfr, fun c L hL => ?_⟩
 ·have : b ≠ c := fun q => by subst q; rw [x.old b hc, hn] at hb; cases hb
  rw [List.getElem?_set_ne this]; exact x.afr c hc hn
 ·refine x.im r hr ?_
  obtain ⟨c, f, k, h1, h2, h3, h4⟩ := ho
  refine ⟨c, f, k, h1, h2, ?_, h4⟩
  by_cases q : b = c
  ·subst q
   have := (List.getElem?_eq_some_iff.1 h3).1
   rw [List.length_set] at this
   rw [List.getElem?_set_self this] at h3
   injection h3 with h3; subst h3; cases h4
  ·rwa [List.getElem?_set_ne q] at h3
 ·obtain ⟨L', hL'⟩ := x.lp c L hL
  have : b ≠ c := fun q => by subst q; exact hl _ hL'
  exact ⟨L', by rw [List.getElem?_set_ne this]; exact hL'⟩
theorem St.wide (s : St φ h w) {b : Nat} {e : Ent} {cs cs' : List AV} (hb : φ b = some e) (hk : h[b]? = some (.rw cs)) (hr : ∀ C, CellsRel φ cs e C → CellsRel φ cs' e C) : St φ (h.set b (.rw cs')) w := by
 have lt := (List.getElem?_eq_some_iff.1 hk).1
 refine ⟨fun c f hc => ?_, fun c c' f f' k k' hc hc' hk1 hk2 ho ha hne => ?_⟩
 ·obtain ⟨k, o, h1, h2, h3⟩ := s.dom c f hc
  by_cases q : b = c
  ·subst q
   obtain rfl : e = f := Option.some.inj (hb.symm.trans hc)
   obtain rfl : ABlk.rw cs = k := Option.some.inj (hk.symm.trans h1)
   obtain ⟨C, t, rfl, hC⟩ := h3
   exact ⟨.rw cs', _, List.getElem?_set_self lt, h2, C, t, rfl, hr C hC⟩
  ·exact ⟨k, o, by rw [List.getElem?_set_ne q]; exact h1, h2, h3⟩
 ·have key : ∀ (c : Nat) (k : ABlk), (h.set b (.rw cs'))[c]? = some k → ∃ k0, h[c]? = some k0 ∧ k0.own = k.own ∧ k0.alive = k.alive := fun c k hk0 => by
   by_cases q : b = c
   ·subst q
    rw [List.getElem?_set_self lt] at hk0
    injection hk0 with hk0; subst hk0
    exact ⟨_, hk, rfl, rfl⟩
   ·rw [List.getElem?_set_ne q] at hk0; exact ⟨k, hk0, rfl, rfl⟩
  obtain ⟨k0, q1, q2, q3⟩ := key c k hk1
  obtain ⟨k1, p1, p2, p3⟩ := key c' k' hk2
  exact s.inj c c' f f' k0 k1 hc hc' q1 p1 (q2.trans ho) (p3.trans ha) hne
theorem Ext.from_wide {b : Nat} {e : Ent} {cs cs' : List AV} (hb : φ b = some e) (hk : h[b]? = some (.rw cs)) (x : Ext φ (h.set b (.rw cs')) w φ' K w') : Ext φ h w φ' K w' := by
 have lt := (List.getElem?_eq_some_iff.1 hk).1
 have own : ∀ r, Owned φ (h.set b (.rw cs')) r ↔ Owned φ h r := fun r => by
  constructor
  ·rintro ⟨c, f, k, h1, h2, h3, h4⟩
   by_cases q : b = c
   ·subst q; exact ⟨b, f, _, h1, h2, hk, rfl⟩
   ·rw [List.getElem?_set_ne q] at h3; exact ⟨c, f, k, h1, h2, h3, h4⟩
  ·rintro ⟨c, f, k, h1, h2, h3, h4⟩
   by_cases q : b = c
   ·subst q; exact ⟨b, f, _, h1, h2, List.getElem?_set_self lt, rfl⟩
   ·exact ⟨c, f, k, h1, h2, by rw [List.getElem?_set_ne q]; exact h3, h4⟩
 refine ⟨by have := x.hlen; rwa [List.length_set] at this, x.wlen, x.os, x.tape, x.output, fun c hc => x.old c (by rw [List.length_set]; exact hc), fun c hc hn => ?_, fun r hr ho => (own r).1 (x.im r hr ho), fun r hr hn => x.cfr r hr fun q => hn ((own r).1 q), fun c L hL => ?_⟩
 ·have : b ≠ c := fun q => by subst q; rw [hn] at hb; cases hb
  have := x.afr c (by rw [List.length_set]; exact hc) hn
  rwa [List.getElem?_set_ne ‹b ≠ c›] at this
 ·have : b ≠ c := fun q => by subst q; rw [hk] at hL; cases hL
  exact x.lp c L (by rw [List.getElem?_set_ne this]; exact hL)
end
theorem VRels.app {φ : Ren} : ∀ {a b : List AV} {x y : List Value}, VRels φ a x → VRels φ b y → VRels φ (a ++ b) (x ++ y)
 | _, _, _, _, .nil, h => h
 | _, _, _, _, .cons h t, g => .cons h (VRels.app t g)
theorem ins_ok {P : Program} (g : Good P) {X : Over} (ok : X.Ok P) {f sz bytes : Nat} (hsz : 1 ≤ sz)
  (HA : ∀ (h : AHeap) (b vb n i cap : Nat) (cs vs rest : List AV), h[b]? = some (.rw (cs ++ rest)) → h[vb]? = some (.rw vs) → vb ≠ b → i < n → n + 1 ≤ cap → cs.length = n * sz → rest.length = (cap - n) * sz → vs.length = sz → cs.all AV.isCell = true → vs.all AV.isCell = true → (n + 1) * bytes ≤ roomy →
   ∃ K, callBody P (envX P X) f [.sl b 0 sz n cap true, .int .i64 (i : Int), .sl vb 0 sz 1 1 true] h = some (.sl b 0 sz (n + 1) cap true, h.set b (.rw K)) ∧ K.take ((n + 1) * sz) = insC sz i cs vs)
  (HB : ∀ (h : AHeap) (b vb n i : Nat) (cs vs : List AV), h[b]? = some (.rw cs) → h[vb]? = some (.rw vs) → vb ≠ b → i < n → cs.length = n * sz → vs.length = sz → cs.all AV.isCell = true → vs.all AV.isCell = true → (n + 1) * bytes ≤ roomy →
   callBody P (envX P X) f [.sl b 0 sz n n true, .int .i64 (i : Int), .sl vb 0 sz 1 1 true] h = some (.sl h.length 0 sz (n + 1) (n + 1) false, h ++ [.rw (insC sz i cs vs)])) :
  ∀ args h v h', insR sz bytes args h = some (v, h') → Told1 P f args h v h' := by
 intro args h v h' hv
 unfold insR at hv
 split at hv
 ·rename_i b s1 n n' i vb s2
  split at hv
  ·rename_i cs vs hk hvk
   split at hv
   ·rename_i hc
    obtain ⟨rfl, rfl, rfl, hne, hi, lc, lv, cc, cv, room⟩ := hc
    injection hv with hv; injection hv with e1 e2; subst e1; subst e2
    have sX := envX_sound g ok
    have hB := HB h b vb n' i cs vs hk hvk hne hi lc lv cc cv room
    have lt := (List.getElem?_eq_some_iff.1 hk).1
    refine .inl ⟨(call_ok g sX hB).1, fun φ w cargs N s hr => ?_⟩
    obtain ⟨x, L, eL, r1, t⟩ : ∃ x L, cargs.toList = x :: L ∧ VRel φ (.sl b 0 s2 n' n' false) x ∧ VRels φ [.int .i64 (.ofNat i), .sl vb 0 s2 1 1 true] L := by
     generalize cargs.toList = Z at hr
     cases hr with
     | cons r1 t => exact ⟨_, _, rfl, r1, t⟩
    cases r1 with
    | @sl _ _ _ _ _ _ E A cap gE gA p1 p2 p3 p4 =>
     by_cases hcap : cap = n'
     ·subst hcap
      have c := (call_ok g sX hB).2 φ w cargs N s (by rw [eL]; exact .cons (.sl gE gA p1 p2 (fun _ => rfl) p4) t)
      refine CallsIn.mono c ?_
      rintro e' w' ⟨cv', φ', rfl, hv', hs', hx'⟩
      have hb' : φ' b = some E := (hx'.old b lt).trans gE
      have hset : (h ++ [ABlk.rw (insC s2 i cs vs)]).set b .dead = h.set b .dead ++ [.rw (insC s2 i cs vs)] := List.set_append_left _ _ lt
      refine ⟨cv', φ', rfl, hv', ?_, ?_⟩
      ·rw [← hset]; exact hs'.kill b
      ·rw [← hset]
       exact hx'.kill hb' fun L q => by rw [List.getElem?_append_left lt, hk] at q; cases q
     ·have hcl : n' + 1 ≤ cap := by omega
      have el : n' * s2 + (cap - n') * s2 = cap * s2 := by rw [← Nat.add_mul]; congr 1; omega
      have kk : (h.set b (.rw (cs ++ List.replicate ((cap - n') * s2) .any)))[b]? = some (.rw (cs ++ List.replicate ((cap - n') * s2) .any)) := List.getElem?_set_self lt
      have kv : (h.set b (.rw (cs ++ List.replicate ((cap - n') * s2) .any)))[vb]? = some (.rw vs) := by rw [List.getElem?_set_ne (fun q => hne q.symm)]; exact hvk
      obtain ⟨K, hA, hK⟩ := HA _ b vb n' i cap cs vs (List.replicate ((cap - n') * s2) .any) kk kv hne hi hcl lc (by simp) lv cc cv room
      have sw := s.wide (cs' := cs ++ List.replicate ((cap - n') * s2) .any) gE hk fun C hC => ⟨hC.1, by rw [List.length_append, List.length_replicate, lc, el]; omega, fun j a hj => by
       by_cases q : j < cs.length
       ·rw [List.getElem?_append_left q] at hj; exact hC.2.2 j a hj
       ·have jl := (List.getElem?_eq_some_iff.1 hj).1
        rw [List.length_append, List.length_replicate, lc, el] at jl
        rw [List.getElem?_append_right (by omega)] at hj
        have ha := (List.mem_replicate.1 (List.mem_of_getElem? hj)).2
        subst ha
        have : E.base + j < C.size := by rw [hC.1]; omega
        exact ⟨_, Array.getElem?_eq_getElem this, .any _⟩⟩
      have c := (call_ok g sX hA).2 φ w cargs N sw (by rw [eL]; exact .cons (.sl gE gA p2 (Nat.le_refl cap) (fun _ => rfl) p4) t)
      refine CallsIn.mono c ?_
      rintro e' w' ⟨cv', φ', rfl, hv', hs', hx'⟩
      have lt1 : b < (h.set b (.rw (cs ++ List.replicate ((cap - n') * s2) .any))).length := by rw [List.length_set]; exact lt
      have hb' : φ' b = some E := (hx'.old b lt1).trans gE
      rw [List.set_set] at hs' hx'
      have k1 : (h.set b (.rw K))[b]? = some (.rw K) := List.getElem?_set_self lt
      obtain ⟨k0, ob, q1, q2, q3⟩ := hs'.dom b E hb'
      obtain rfl : ABlk.rw K = k0 := Option.some.inj (k1.symm.trans q1)
      obtain ⟨C, tt, rfl, hC⟩ := q3
      obtain ⟨s2', x2'⟩ := hs'.regrow hb' k1 (cs := insC s2 i cs vs) (base := E.base) (C := C) (t := tt) fun ψ hψ => by
       have hC2 := hC.mono hψ
       refine ⟨hC2.1, ?_, fun j a hj => ?_⟩
       ·rw [← hK]
        have := hC2.2.1
        have : (K.take ((n' + 1) * s2)).length ≤ K.length := by rw [List.length_take]; omega
        show E.base + _ ≤ E.size
        omega
       ·rw [← hK, List.getElem?_take] at hj
        split at hj
        ·exact hC2.2.2 j a hj
        ·cases hj
      have hw : w'.heap.setIfInBounds E.blk (.cells C tt (0, 0)) = w'.heap := by
       apply Array.ext_getElem?
       intro j
       rw [Array.getElem?_setIfInBounds]
       split
       ·rename_i q
        subst q
        split
        ·exact q2.symm
        ·rename_i q; exact (Array.getElem?_eq_none (by omega)).symm
       ·rfl
      have hl : (h.set b (.rw K)).length = h.length := List.length_set
      rw [hw, List.set_set, hl] at s2' x2'
      refine ⟨cv', _, rfl, ?_, s2', (Ext.from_wide gE hk hx').trans x2'⟩
      cases hv' with
      | @sl _ _ _ _ _ _ E2 A2 cap2 gE2 gA2 m1 m2 m3 m4 =>
       obtain rfl : E = E2 := Option.some.inj (hb'.symm.trans gE2)
       have := m3 rfl
       subst this
       exact .sl (Ren.put_same _ _ _) gA2 (Nat.le_refl _) hcl (fun q => by cases q) m4
   ·cases hv
  ·cases hv
 ·cases hv
end Go.Proofs.Ytfioahnogphnfaa.Eng
end
section
set_option linter.unusedVariables false
namespace Go.Proofs.Ytfioahnogphnfaa.Eng
open Go
theorem sl_from {sz b off len cp i : Nat} {ex : Bool} (h1 : i ≤ len) (h2 : len ≤ cp) : sliceS sz (.sl b off sz len cp ex) (some (.int .i64 (i : Int))) none none = some (.sl b (off + i * sz) sz (len - i) (cp - i) ex) := by
 unfold sliceS asI
 simp only [ne_eq, not_true, if_false, Option.bind_some, Int.toNat_natCast]
 rw [if_pos ⟨by omega, by omega, by omega⟩]
theorem sl_to {sz b off len cp u : Nat} {ex : Bool} (h2 : u ≤ cp) : sliceS sz (.sl b off sz len cp ex) none (some (.int .i64 (u : Int))) none = some (.sl b off sz u cp ex) := by
 unfold sliceS asI
 simp only [ne_eq, not_true, if_false, Option.bind_some, Int.toNat_natCast]
 rw [if_pos ⟨by omega, by omega, by omega⟩]
 simp
theorem copy_sl {d : TyD} {h : AHeap} {b off sz len c b2 off2 m c2 : Nat} {ex ex2 : Bool} {cs src : List AV} (hd : d.size = sz) (hs : sz ≠ 0) (hk : h[b]? = some (.rw cs)) (hm : min m len ≠ 0) (hr : readN h b2 off2 (min m len * sz) = some src) (hl : off + src.length ≤ cs.length) (hc : src.all AV.isCell = true) :
  copyV d (.sl b off sz len c ex) (.sl b2 off2 sz m c2 ex2) h = some (.int .i64 ((min m len : Nat) : Int), h.set b (.rw (splice cs off src))) := by
 unfold copyV srcLen
 simp only [Option.bind_some, hd]
 rw [if_neg (by simp [hs])]
 have : srcCells sz (min m len) (.sl b2 off2 sz m c2 ex2) h = some src := by unfold srcCells; simp only [if_true]; exact hr
 rw [this]
 simp only [Option.bind_some]
 rw [if_neg hm, write_of hk, if_pos ⟨hl, hc⟩]; rfl
theorem appN_ex {d : TyD} {h : AHeap} {b off sz len c k : Nat} {old : List AV} (hd : d.size = sz) (hs : sz ≠ 0) (hb : 1 ≤ d.bytes) (h0 : 0 < k) (h1 : c < len + k) (hr : readN h b off (len * sz) = some old) (hroom : (len + k) * d.bytes ≤ roomy) :
  appN d (.sl b off sz len c true) (.int .i64 (k : Int)) h = some (.sl h.length 0 sz (len + k) (len + k) false, h ++ [.rw (old ++ (List.replicate k d.zero).flatten)]) := by
 have hk : k * d.bytes ≤ (len + k) * d.bytes := Nat.mul_le_mul_right _ (by omega)
 have hk2 : (k : Int) * (d.bytes : Int) ≤ (roomy : Int) := by
  have : k * d.bytes ≤ roomy := by omega
  exact_mod_cast this
 unfold appN
 simp only
 rw [if_pos ⟨by omega, hb, hk2⟩, Int.toNat_natCast]
 unfold appendV
 simp only [hd]
 rw [if_neg (by simp [hs]), if_neg (by omega), if_neg (by omega), if_pos ⟨hb, hroom⟩, hr]
 simp
theorem read_at {h : AHeap} {b : Nat} {cs : List AV} (hk : h[b]? = some (.rw cs)) {off n : Nat} (hl : off + n ≤ cs.length) : readN h b off n = some ((cs.drop off).take n) := by
 unfold readN
 rw [cells_rw hk, Option.bind_some, if_pos hl]
theorem all_drop {l : List AV} (h : l.all AV.isCell = true) (n : Nat) : (l.drop n).all AV.isCell = true := by
 rw [List.all_eq_true] at h ⊢
 exact fun x hx => h x (List.mem_of_mem_drop hx)
theorem prC_len (l : List PrS) : ∀ r ∈ l.map prC, r.length = 2 := fun r hr => by obtain ⟨p, _, rfl⟩ := List.mem_map.1 hr; rfl
theorem prC_flat (l : List PrS) : (l.map prC).flatten.length = l.length * 2 := by rw [rows_len (prC_len l), List.length_map]
theorem prC_cell (l : List PrS) : (l.map prC).flatten.all AV.isCell = true := by
 rw [List.all_eq_true]
 intro x hx
 obtain ⟨r, hr, hx⟩ := List.mem_flatten.1 hx
 obtain ⟨p, _, rfl⟩ := List.mem_map.1 hr
 unfold prC at hx
 simp only [List.mem_cons, List.not_mem_nil, or_false] at hx
 rcases hx with rfl | rfl <;> rfl
theorem insC_rows (l : List PrS) (p : PrS) (i : Nat) (hi : i ≤ l.length) : insC 2 i (l.map prC).flatten (prC p) = ((l.take i ++ p :: l.drop i).map prC).flatten := by
 have e : (l.map prC).flatten = ((l.take i).map prC).flatten ++ ((l.drop i).map prC).flatten := by rw [← List.flatten_append, ← List.map_append, List.take_append_drop]
 have hl : ((l.take i).map prC).flatten.length = i * 2 := by rw [prC_flat, List.length_take]; congr 1; omega
 unfold insC
 rw [e, ← hl, List.take_left, List.drop_left]
 simp
end Go.Proofs.Ytfioahnogphnfaa.Eng
end
section
set_option linter.unusedVariables false
namespace Go.Proofs.Ytfioahnogphnfaa.Eng
open Go
def idxF (b : Int) : Nat → List PrS → Int
 | _, [] => -1
 | n, p :: l => if p.1 = b then (n : Int) else idxF b (n + 1) l
def idxS (l : List PrS) (b : Int) : Int := idxF b 0 l
def tins (b a : Int) : List PrS → List PrS
 | [] => [(b, a)]
 | q :: l => if q.1 > b then (b, a) :: q :: l else q :: tins b a l
def tput (l : List PrS) (b a : Int) : List PrS := if 0 ≤ idxS l b then l.set (idxS l b).toNat (b, a) else tins b a l
def tmerge (a : List PrS) : List PrS → List PrS → List Int → List PrS × List Int
 | [], k, f => (k, f)
 | p :: b, k, f => if 0 ≤ idxS a p.1 then tmerge a b k (f ++ [p.2]) else tmerge a b (tput k p.1 p.2) f
def okAt (blocks area : Int) (pre : List PrS) (p : PrS) : Bool :=
 decide (0 ≤ p.1) && (decide (p.1 < blocks) && (decide (0 ≤ p.2) && (decide (p.2 < area) && (!(pre.map (·.2)).contains p.2 && (match pre.getLast? with | none => true | some q => decide (q.1 < p.1))))))
def tgoodF (blocks area : Int) : List PrS → List PrS → Bool
 | _, [] => true
 | pre, p :: l => okAt blocks area pre p && tgoodF blocks area (pre ++ [p]) l
def tgood (l : List PrS) (blocks area : Int) : Bool := tgoodF blocks area [] l
theorem idxF_rng (b : Int) : ∀ (l : List PrS) (n : Nat), idxF b n l = -1 ∨ ((n : Int) ≤ idxF b n l ∧ idxF b n l < (n : Int) + l.length)
 | [], n => .inl rfl
 | p :: l, n => by
  unfold idxF
  split
  ·right; simp; omega
  ·rcases idxF_rng b l (n + 1) with h | h
   ·exact .inl h
   ·right; simp only [List.length_cons]; push_cast at *; omega
theorem idxS_rng (l : List PrS) (b : Int) : idxS l b = -1 ∨ (0 ≤ idxS l b ∧ idxS l b < l.length) := by
 have := idxF_rng b l 0
 unfold idxS
 simpa using this
def flat (l : List PrS) : List AV := (l.map prC).flatten
theorem flat_len (l : List PrS) : (flat l).length = l.length * 2 := prC_flat l
theorem flat_cell (l : List PrS) : (flat l).all AV.isCell = true := prC_cell l
theorem flat_get {l : List PrS} {i : Nat} {p : PrS} (h : l[i]? = some p) : (flat l)[i * 2]? = some (.int .i64 p.1) ∧ (flat l)[i * 2 + 1]? = some (.int .i64 p.2) ∧ ((flat l).drop (i * 2)).take 2 = prC p ∧ i * 2 + 2 ≤ (flat l).length := by
 have hi := get_map prC h
 have := rows_get (prC_len l) hi
 refine ⟨by have := this 0 (by omega); exact this, by have := this 1 (by omega); exact this, ?_, ?_⟩
 ·exact rows_take (prC_len l) hi
 ·have := (List.getElem?_eq_some_iff.1 h).1
  rw [flat_len]; omega
def IsP (H : AHeap) (v : AV) (l : List PrS) : Prop := (v = .nilSl ∧ l = []) ∨ ∃ b c ex, v = .sl b 0 2 l.length c ex ∧ l.length ≤ c ∧ cellsOf H b = some (flat l)
def Gp (H : AHeap) (B : Nat) (v : AV) (l : List PrS) : Prop :=
 (v = .nilSl ∧ l = []) ∨ (l = [] ∧ ∃ b, B ≤ b ∧ v = .sl b 0 2 0 0 true ∧ H[b]? = some (.rw [])) ∨ (l ≠ [] ∧ ∃ b, B ≤ b ∧ v = .sl b 0 2 l.length l.length false ∧ H[b]? = some (.rw (flat l)))
theorem Gp.isP {H : AHeap} {B : Nat} {v : AV} {l : List PrS} (g : Gp H B v l) : IsP H v l := by
 rcases g with h | ⟨rfl, b, _, rfl, h⟩ | ⟨_, b, _, rfl, h⟩
 ·exact .inl h
 ·exact .inr ⟨b, 0, true, rfl, Nat.le_refl _, cells_rw h⟩
 ·exact .inr ⟨b, _, false, rfl, Nat.le_refl _, cells_rw h⟩
theorem Gp.fr {H H' : AHeap} {F : Nat → Prop} {B : Nat} {v : AV} {l : List PrS} (g : Gp H B v l) (a : Fr H H' F) (n : ∀ b, slb v = some b → ¬ F b) : Gp H' B v l := by
 rcases g with h | ⟨h0, b, hb, rfl, h⟩ | ⟨h0, b, hb, rfl, h⟩
 ·exact .inl h
 ·exact .inr (.inl ⟨h0, b, hb, rfl, a.at h (n b rfl)⟩)
 ·exact .inr (.inr ⟨h0, b, hb, rfl, a.at h (n b rfl)⟩)
theorem Gp.adds {H : AHeap} {B : Nat} {v : AV} {l : List PrS} (g : Gp H B v l) (X : AHeap) : Gp (H ++ X) B v l := g.fr (Fr.adds ⟨X, rfl⟩ (fun _ => False)) fun _ _ h => h
theorem Gp.low {H : AHeap} {B B' : Nat} {v : AV} {l : List PrS} (g : Gp H B v l) (h : B' ≤ B) : Gp H B' v l := by
 rcases g with g | ⟨h0, b, hb, g⟩ | ⟨h0, b, hb, g⟩
 ·exact .inl g
 ·exact .inr (.inl ⟨h0, b, by omega, g⟩)
 ·exact .inr (.inr ⟨h0, b, by omega, g⟩)
theorem Gp.out {H : AHeap} {B : Nat} {v : AV} {l : List PrS} (g : Gp H B v l) : ∀ b, slb v = some b → B ≤ b ∧ b < H.length := by
 rcases g with ⟨rfl, _⟩ | ⟨_, b, hb, rfl, h⟩ | ⟨_, b, hb, rfl, h⟩
 ·intro b h; cases h
 ·intro b' h2; injection h2 with h2; subst h2; exact ⟨hb, lt_of_at h⟩
 ·intro b' h2; injection h2 with h2; subst h2; exact ⟨hb, lt_of_at h⟩
theorem IsP.fr {H H' : AHeap} {F : Nat → Prop} {v : AV} {l : List PrS} (g : IsP H v l) (a : Fr H H' F) (n : ∀ b, slb v = some b → ¬ F b) : IsP H' v l := by
 rcases g with h | ⟨b, c, ex, rfl, h, hc⟩
 ·exact .inl h
 ·exact .inr ⟨b, c, ex, rfl, h, a.cells hc (n b rfl)⟩
theorem IsP.adds {H H' : AHeap} {v : AV} {l : List PrS} (g : IsP H v l) (a : Adds H H') : IsP H' v l := g.fr (Fr.adds a (fun _ => False)) fun _ _ h => h
theorem IsP.len {H : AHeap} {v : AV} {l : List PrS} (g : IsP H v l) : lenSl v = some (.int .i64 l.length) := by
 rcases g with ⟨rfl, rfl⟩ | ⟨b, c, ex, rfl, _, _⟩ <;> rfl
theorem IsP.cell {H : AHeap} {v : AV} {l : List PrS} (g : IsP H v l) : cellsA v = some [v] ∧ v.isCell = true := by
 rcases g with ⟨rfl, rfl⟩ | ⟨b, c, ex, rfl, _, _⟩ <;> exact ⟨rfl, rfl⟩
theorem IsP.lt {H : AHeap} {v : AV} {l : List PrS} (g : IsP H v l) : ∀ b, slb v = some b → b < H.length := by
 rcases g with ⟨rfl, rfl⟩ | ⟨b, c, ex, rfl, _, hc⟩
 ·intro b h; cases h
 ·intro b' h; injection h with h; subst h; exact lt_of_cells hc
theorem IsP.idx {H : AHeap} {v : AV} {l : List PrS} (g : IsP H v l) {i : Nat} {p : PrS} (h : l[i]? = some p) :
  ∃ b cs, slb v = some b ∧ idxAddrS 2 v (.int .i64 (i : Int)) = some (.ptr b (i * 2)) ∧ cellsOf H b = some cs ∧ cs[i * 2]? = some (.int .i64 p.1) ∧ cs[i * 2 + 1]? = some (.int .i64 p.2) ∧ (cs.drop (i * 2)).take 2 = prC p ∧ i * 2 + 2 ≤ cs.length := by
 have lt := (List.getElem?_eq_some_iff.1 h).1
 rcases g with ⟨_, rfl⟩ | ⟨b, c, ex, rfl, _, hc⟩
 ·simp at lt
 ·obtain ⟨q1, q2, q3, q4⟩ := flat_get h
  exact ⟨b, _, rfl, idx_nat b 2 _ c i ex .i64 (by omega) lt, hc, q1, q2, q3, q4⟩
theorem IsP.src {H : AHeap} {v : AV} {l : List PrS} (g : IsP H v l) : srcLen v = some l.length ∧ srcCells 2 l.length v H = some (flat l) := by
 rcases g with ⟨rfl, rfl⟩ | ⟨b, c, ex, rfl, _, hc⟩
 ·exact ⟨rfl, rfl⟩
 ·refine ⟨rfl, ?_⟩
  unfold srcCells readN
  simp only [if_true, hc, Option.bind_some]
  rw [if_pos (by rw [flat_len]; omega), List.drop_zero, List.take_of_length_le (by rw [flat_len]; exact Nat.le_refl _)]
theorem pairs_isP {h : AHeap} {v : AV} (d : DatC h (.sl [.int .i64, .int .i64]) v) : ∃ l, IsP h v l ∧ l.length ≤ 9223372036854775807 ∧ ∀ p ∈ l, IntKind.i64.has p.1 ∧ IntKind.i64.has p.2 := by
 cases d with
 | nil => exact ⟨[], .inl ⟨rfl, rfl⟩, by simp, fun p hp => by cases hp⟩
 | @sl _ b rows hn hb hr =>
  obtain ⟨l, rfl, hl⟩ := pairs_of hr
  refine ⟨l, .inr ⟨b, l.length, false, by simp, Nat.le_refl _, hb⟩, by simpa using hn, hl⟩
theorem flat_app (l m : List PrS) : flat (l ++ m) = flat l ++ flat m := by unfold flat; simp
theorem gp_app {K : AHeap} {B : Nat} {v y : AV} {l m : List PrS} (g : Gp K B v l) (hB : B ≤ K.length) (hs : srcLen y = some m.length) (hc : srcCells 2 m.length y K = some (flat m)) (room : (l.length + m.length) * 16 ≤ roomy) :
  ∃ v' K', app (ty 2 true 16 [.int .i64 0, .int .i64 0]) v y K = some (v', K') ∧ Gp K' B v' (l ++ m) ∧ Fr K K' (fun b => slb v = some b) ∧ (m ≠ [] → slb v' = some K.length) ∧ (m = [] → v' = v ∧ K' = K) := by
 unfold app
 rw [hs]
 simp only [Option.bind_some, show (ty 2 true 16 [.int .i64 0, .int .i64 0]).size = 2 from rfl, hc]
 unfold appendV
 simp only [show (ty 2 true 16 [.int .i64 0, .int .i64 0]).size = 2 from rfl, show (ty 2 true 16 [.int .i64 0, .int .i64 0]).bytes = 16 from rfl]
 by_cases hm : m = []
 ·subst hm
  rcases g with ⟨rfl, rfl⟩ | ⟨rfl, b, hb, rfl, h⟩ | ⟨h0, b, hb, rfl, h⟩
  ·refine ⟨.nilSl, K, by simp, .inl ⟨rfl, rfl⟩, Fr.refl _ _, fun h => absurd rfl h, fun _ => ⟨rfl, rfl⟩⟩
  ·refine ⟨_, K, by simp, .inr (.inl ⟨rfl, b, hb, rfl, h⟩), Fr.refl _ _, fun h => absurd rfl h, fun _ => ⟨rfl, rfl⟩⟩
  ·refine ⟨_, K, by simp, .inr (.inr ⟨by simpa using h0, b, hb, by simp, by simpa using h⟩), Fr.refl _ _, fun h => absurd rfl h, fun _ => ⟨rfl, rfl⟩⟩
 ·have hp := List.length_pos_iff.2 hm
  rcases g with ⟨rfl, rfl⟩ | ⟨rfl, b, hb, rfl, h⟩ | ⟨h0, b, hb, rfl, h⟩
  ·refine ⟨.sl K.length 0 2 m.length m.length false, K ++ [.rw (flat m)], ?_, .inr (.inr ⟨by simpa using hm, K.length, hB, by simp, by simp⟩), Fr.adds ⟨_, rfl⟩ _, fun _ => rfl, fun e => absurd e hm⟩
   rw [if_neg (by omega), if_pos ⟨by omega, by omega, by simpa using room⟩]
  ·refine ⟨.sl K.length 0 2 m.length m.length false, K ++ [.rw (flat m)], ?_, .inr (.inr ⟨by simpa using hm, K.length, hB, by simp, by simp⟩), Fr.adds ⟨_, rfl⟩ _, fun _ => rfl, fun e => absurd e hm⟩
   have hr : readN K b 0 (0 * 2) = some [] := by unfold readN; rw [cells_rw h]; simp
   dsimp only
   rw [if_neg (by simp), if_neg (by omega), if_neg (by omega), if_pos ⟨by omega, by simpa using room⟩, hr]
   simp
  ·have hq := List.length_pos_iff.2 h0
   refine ⟨.sl K.length 0 2 (l.length + m.length) (l.length + m.length) false, K.set b .dead ++ [.rw (flat l ++ flat m)], ?_, .inr (.inr ⟨by simp [h0], K.length, hB, by simp, by rw [flat_app, List.getElem?_append_right (by simp)]; simp⟩), ?_, fun _ => rfl, fun e => absurd e hm⟩
   ·have hr : readN K b 0 (l.length * 2) = some (flat l) := by
     unfold readN
     rw [cells_rw h, Option.bind_some, if_pos (by rw [flat_len]; omega), List.drop_zero, List.take_of_length_le (by rw [flat_len]; exact Nat.le_refl _)]
    dsimp only
    rw [if_neg (by simp), if_neg (by omega), if_neg (by omega), if_pos ⟨by omega, room⟩, hr]
    simp only [Option.bind_some, Bool.false_eq_true, if_false, h]
    rw [if_pos ⟨by rw [flat_len]; omega, flat_cell m⟩]
   ·exact (Fr.set _ _ (F := fun x => slb (.sl b 0 2 l.length l.length false) = some x) rfl).trans (Fr.adds ⟨_, rfl⟩ (F := fun _ => False)) (fun _ _ h => h.elim)
end Go.Proofs.Ytfioahnogphnfaa.Eng
end
section
set_option linter.unusedVariables false
namespace Go.Proofs.Ytfioahnogphnfaa.Eng
open Go
def asc (l : List PrS) : Prop := (l.map (·.1)).Pairwise (· < ·)
structure GoodL (bl ar : Int) (l : List PrS) : Prop where
 rng : ∀ p ∈ l, (0 ≤ p.1 ∧ p.1 < bl) ∧ (0 ≤ p.2 ∧ p.2 < ar)
 up : asc l
 inj : ∀ p ∈ l, ∀ q ∈ l, p.2 = q.2 → p = q
theorem asc_nil : asc [] := by unfold asc; exact List.Pairwise.nil
theorem asc_cons {p : PrS} {l : List PrS} : asc (p :: l) ↔ (∀ q ∈ l, p.1 < q.1) ∧ asc l := by
 unfold asc
 rw [List.map_cons, List.pairwise_cons]
 constructor
 ·rintro ⟨h1, h2⟩; exact ⟨fun q hq => h1 _ (List.mem_map.2 ⟨q, hq, rfl⟩), h2⟩
 ·rintro ⟨h1, h2⟩; exact ⟨fun x hx => by obtain ⟨q, hq, rfl⟩ := List.mem_map.1 hx; exact h1 q hq, h2⟩
theorem asc_app {l m : List PrS} : asc (l ++ m) ↔ asc l ∧ asc m ∧ ∀ p ∈ l, ∀ q ∈ m, p.1 < q.1 := by
 unfold asc
 rw [List.map_append, List.pairwise_append]
 constructor
 ·rintro ⟨h1, h2, h3⟩; exact ⟨h1, h2, fun p hp q hq => h3 _ (List.mem_map.2 ⟨p, hp, rfl⟩) _ (List.mem_map.2 ⟨q, hq, rfl⟩)⟩
 ·rintro ⟨h1, h2, h3⟩; exact ⟨h1, h2, fun x hx y hy => by obtain ⟨p, hp, rfl⟩ := List.mem_map.1 hx; obtain ⟨q, hq, rfl⟩ := List.mem_map.1 hy; exact h3 p hp q hq⟩
theorem asc_inj : ∀ {l : List PrS}, asc l → ∀ p ∈ l, ∀ q ∈ l, p.1 = q.1 → p = q
 | [], _, p, hp, _, _, _ => by cases hp
 | x :: l, h, p, hp, q, hq, e => by
  obtain ⟨h1, h2⟩ := asc_cons.1 h
  rcases List.mem_cons.1 hp with e1 | hp <;> rcases List.mem_cons.1 hq with e2 | hq
  ·rw [e1, e2]
  ·have := h1 q hq; rw [← e1] at this; omega
  ·have := h1 p hp; rw [← e2] at this; omega
  ·exact asc_inj h2 p hp q hq e
theorem okAt_iff {bl ar : Int} {pre : List PrS} {p : PrS} : okAt bl ar pre p = true ↔ ((0 ≤ p.1 ∧ p.1 < bl) ∧ (0 ≤ p.2 ∧ p.2 < ar)) ∧ (∀ q ∈ pre, q.2 ≠ p.2) ∧ (∀ q, pre.getLast? = some q → q.1 < p.1) := by
 unfold okAt
 have hc : (pre.map (·.2)).contains p.2 = false ↔ ∀ q ∈ pre, q.2 ≠ p.2 := by
  rw [← Bool.not_eq_true, List.contains_iff_mem, List.mem_map]
  constructor
  ·intro h q hq e; exact h ⟨q, hq, e⟩
  ·rintro h ⟨q, hq, e⟩; exact h q hq e
 have hl : (match pre.getLast? with | none => true | some q => decide (q.1 < p.1)) = true ↔ ∀ q, pre.getLast? = some q → q.1 < p.1 := by
  cases pre.getLast? with
  | none => simp
  | some q => simp
 rw [Bool.and_eq_true, Bool.and_eq_true, Bool.and_eq_true, Bool.and_eq_true, Bool.and_eq_true, Bool.not_eq_true', hc, decide_eq_true_eq, decide_eq_true_eq, decide_eq_true_eq, decide_eq_true_eq]
 constructor
 ·rintro ⟨a, b, c, d, e, f⟩; exact ⟨⟨⟨a, b⟩, c, d⟩, e, hl.1 f⟩
 ·rintro ⟨⟨⟨a, b⟩, c, d⟩, e, f⟩; exact ⟨a, b, c, d, e, hl.2 f⟩
theorem goodL_snoc {bl ar : Int} {pre : List PrS} {p : PrS} (g : GoodL bl ar pre) : okAt bl ar pre p = true ↔ GoodL bl ar (pre ++ [p]) := by
 rw [okAt_iff]
 constructor
 ·rintro ⟨h1, h2, h3⟩
  have lt : ∀ q ∈ pre, q.1 < p.1 := fun q hq => by
   rcases List.eq_nil_or_concat pre with e | ⟨z, y, e⟩
   ·rw [e] at hq; cases hq
   rw [List.concat_eq_append] at e
   ·have hy := h3 y (by rw [e]; exact List.getLast?_concat)
    rw [e] at hq
    rcases List.mem_append.1 hq with hq | hq
    ·have u := g.up
     rw [e] at u
     have := (asc_app.1 u).2.2 q hq y (by simp)
     omega
    ·rw [List.mem_singleton.1 hq]; exact hy
  refine ⟨fun q hq => (List.mem_append.1 hq).elim (g.rng q) fun e => (by rw [List.mem_singleton.1 e]; exact h1), asc_app.2 ⟨g.up, asc_cons.2 ⟨fun q hq => (by cases hq), asc_nil⟩, fun x hx y hy => (by rw [List.mem_singleton.1 hy]; exact lt x hx)⟩, fun x hx y hy e => ?_⟩
  rcases List.mem_append.1 hx with hx | hx <;> rcases List.mem_append.1 hy with hy | hy
  ·exact g.inj x hx y hy e
  ·rw [List.mem_singleton.1 hy] at e; exact absurd e (h2 x hx)
  ·rw [List.mem_singleton.1 hx] at e; exact absurd e.symm (h2 y hy)
  ·rw [List.mem_singleton.1 hx, List.mem_singleton.1 hy]
 ·intro h
  obtain ⟨u1, u2, u3⟩ := asc_app.1 h.up
  refine ⟨h.rng p (by simp), fun q hq e => ?_, fun q hq => u3 q (List.mem_of_getLast? hq) p (by simp)⟩
  have := h.inj q (by simp [hq]) p (by simp) e
  have lt := u3 q hq p (by simp)
  rw [this] at lt; omega
theorem goodF_iff {bl ar : Int} : ∀ (l pre : List PrS), GoodL bl ar pre → (tgoodF bl ar pre l = true ↔ GoodL bl ar (pre ++ l))
 | [], pre, g => by simp [tgoodF, g]
 | p :: l, pre, g => by
  rw [tgoodF, Bool.and_eq_true, goodL_snoc g]
  constructor
  ·rintro ⟨h1, h2⟩
   have := (goodF_iff l (pre ++ [p]) h1).1 h2
   rwa [List.append_assoc] at this
  ·intro h
   have h1 : GoodL bl ar (pre ++ [p]) := by
    refine ⟨fun q hq => h.rng q ?_, ?_, fun x hx y hy => h.inj x ?_ y ?_⟩
    ·rcases List.mem_append.1 hq with q1 | q1
     ·simp [q1]
     ·simp [List.mem_singleton.1 q1]
    ·have u := h.up
     rw [show pre ++ p :: l = (pre ++ [p]) ++ l by simp] at u
     exact (asc_app.1 u).1
    ·rcases List.mem_append.1 hx with q1 | q1
     ·simp [q1]
     ·simp [List.mem_singleton.1 q1]
    ·rcases List.mem_append.1 hy with q1 | q1
     ·simp [q1]
     ·simp [List.mem_singleton.1 q1]
   refine ⟨h1, (goodF_iff l (pre ++ [p]) h1).2 ?_⟩
   rwa [List.append_assoc]
theorem good_nil (bl ar : Int) : GoodL bl ar [] := ⟨fun p h => (by cases h), asc_nil, fun p h => (by cases h)⟩
theorem good_iff {bl ar : Int} {l : List PrS} : tgood l bl ar = true ↔ GoodL bl ar l := goodF_iff l [] (good_nil bl ar)
theorem idxF_no {b : Int} : ∀ {l : List PrS} {n : Nat}, (idxF b n l = -1 ↔ ∀ p ∈ l, p.1 ≠ b)
 | [], n => by simp [idxF]
 | p :: l, n => by
  unfold idxF
  by_cases h : p.1 = b
  ·rw [if_pos h]
   constructor
   ·intro e; omega
   ·intro e; exact absurd h (e p (by simp))
  ·rw [if_neg h, idxF_no (l := l) (n := n + 1)]
   constructor
   ·intro e q hq
    rcases List.mem_cons.1 hq with rfl | hq
    ·exact h
    ·exact e q hq
   ·intro e q hq; exact e q (by simp [hq])
def fnd (l : List PrS) (b : Int) : Int := if 0 ≤ idxS l b then ((l[(idxS l b).toNat]?).getD (0, 0)).2 else 0
theorem idx_has {l : List PrS} {b : Int} : (0 ≤ idxS l b) ↔ ∃ p ∈ l, p.1 = b := by
 rcases idxS_rng l b with h | h
 ·have := (idxF_no (l := l) (n := 0)).1 h
  constructor
  ·intro e; omega
  ·rintro ⟨p, hp, e⟩; exact absurd e (this p hp)
 ·constructor
  ·intro _
   have h2 : ¬ ∀ p ∈ l, p.1 ≠ b := fun q => by have := (idxF_no (n := 0)).2 q; unfold idxS at h; omega
   exact Classical.byContradiction fun q => h2 fun p hp e => q ⟨p, hp, e⟩
  ·intro _; exact h.1
theorem fnd_mem {l : List PrS} (h : asc l) {p : PrS} (hp : p ∈ l) : 0 ≤ idxS l p.1 ∧ fnd l p.1 = p.2 := by
 have h0 := idx_has.2 ⟨p, hp, rfl⟩
 refine ⟨h0, ?_⟩
 unfold fnd
 rw [if_pos h0]
 have hr := idxS_rng l p.1
 obtain ⟨i, hi⟩ : ∃ i : Nat, idxS l p.1 = i := ⟨(idxS l p.1).toNat, by omega⟩
 have := idxF_rng
 obtain ⟨q, hq, e⟩ : ∃ q, l[i]? = some q ∧ q.1 = p.1 := by
  have key : ∀ (l : List PrS) (n i : Nat), idxF p.1 n l = ((n + i : Nat) : Int) → ∃ q, l[i]? = some q ∧ q.1 = p.1 := by
   intro l
   induction l with
   | nil => intro n i h; simp [idxF] at h; omega
   | cons x l ih =>
    intro n i h
    unfold idxF at h
    split at h
    ·obtain rfl : i = 0 := by omega
     exact ⟨x, rfl, by assumption⟩
    ·cases i with
     | zero =>
      rcases idxF_rng p.1 l (n + 1) with q | ⟨q, _⟩ <;> omega
     | succ i =>
      have := ih (n + 1) i (by rw [h]; congr 1; omega)
      simpa using this
  exact key l 0 i (by rw [Nat.zero_add]; exact hi)
 rw [hi, Int.toNat_natCast, hq]
 rw [asc_inj h q (List.mem_of_getElem? hq) p hp e]; rfl
theorem tins_mem {b a : Int} {p : PrS} : ∀ {l : List PrS}, p ∈ tins b a l ↔ p = (b, a) ∨ p ∈ l
 | [] => by simp [tins]
 | q :: l => by
  unfold tins
  split
  ·simp
  ·rw [List.mem_cons, tins_mem, List.mem_cons]
   constructor
   ·rintro (h | h | h)
    ·exact .inr (.inl h)
    ·exact .inl h
    ·exact .inr (.inr h)
   ·rintro (h | h | h)
    ·exact .inr (.inl h)
    ·exact .inl h
    ·exact .inr (.inr h)
theorem tins_asc {b a : Int} : ∀ {l : List PrS}, asc l → (∀ p ∈ l, p.1 ≠ b) → asc (tins b a l)
 | [], _, _ => asc_cons.2 ⟨fun q hq => (by cases hq), asc_nil⟩
 | q :: l, h, hn => by
  obtain ⟨h1, h2⟩ := asc_cons.1 h
  unfold tins
  split
  ·rename_i hq
   refine asc_cons.2 ⟨fun x hx => ?_, h⟩
   rcases List.mem_cons.1 hx with rfl | hx
   ·exact hq
   ·have := h1 x hx
    show b < x.1
    omega
  ·rename_i hq
   have := hn q (by simp)
   refine asc_cons.2 ⟨fun x hx => ?_, tins_asc h2 fun p hp => hn p (by simp [hp])⟩
   rcases tins_mem.1 hx with rfl | hx
   ·show q.1 < b; omega
   ·exact h1 x hx
theorem tput_mem {l : List PrS} (h : asc l) (b a : Int) : asc (tput l b a) ∧ (∀ p, p ∈ tput l b a ↔ p = (b, a) ∨ (p ∈ l ∧ p.1 ≠ b)) ∧ (tput l b a).length = (if 0 ≤ idxS l b then l.length else l.length + 1) := by
 unfold tput
 by_cases h0 : 0 ≤ idxS l b
 ·rw [if_pos h0, if_pos h0]
  obtain ⟨p, hp, e⟩ := idx_has.1 h0
  have hr := idxS_rng l b
  obtain ⟨i, hi⟩ : ∃ i : Nat, idxS l b = i := ⟨(idxS l b).toNat, by omega⟩
  have il : i < l.length := by omega
  have hq : (l[i]).1 = b := by
   have f := fnd_mem h hp
   have key : ∀ (l : List PrS) (n i : Nat), idxF b n l = ((n + i : Nat) : Int) → ∃ q, l[i]? = some q ∧ q.1 = b := by
    intro l
    induction l with
    | nil => intro n i h; simp [idxF] at h; omega
    | cons x l ih =>
     intro n i h
     unfold idxF at h
     split at h
     ·obtain rfl : i = 0 := by omega
      exact ⟨x, rfl, by assumption⟩
     ·cases i with
      | zero =>
       rcases idxF_rng b l (n + 1) with q | ⟨q, _⟩ <;> omega
      | succ i =>
       have := ih (n + 1) i (by rw [h]; congr 1; omega)
       simpa using this
   obtain ⟨q, hq, e⟩ := key l 0 i (by rw [Nat.zero_add]; exact hi)
   rw [List.getElem?_eq_getElem il] at hq
   rw [Option.some.inj hq]; exact e
  rw [hi, Int.toNat_natCast]
  have e1 : l = l.take i ++ l[i] :: l.drop (i + 1) := by rw [← List.drop_eq_getElem_cons il, List.take_append_drop]
  have e2 : l.set i (b, a) = l.take i ++ (b, a) :: l.drop (i + 1) := List.set_eq_take_append_cons_drop.trans (if_pos il)
  have hs := h
  rw [e1] at hs
  obtain ⟨s1, s2, s3⟩ := asc_app.1 hs
  obtain ⟨s4, s5⟩ := asc_cons.1 s2
  refine ⟨?_, fun x => ?_, by rw [List.length_set]⟩
  ·rw [e2]
   refine asc_app.2 ⟨s1, asc_cons.2 ⟨fun q hq2 => by have := s4 q hq2; rw [hq] at this; exact this, s5⟩, fun x hx y hy => ?_⟩
   rcases List.mem_cons.1 hy with rfl | hy
   ·have := s3 x hx _ (List.mem_cons_self ..); rw [hq] at this; exact this
   ·exact s3 x hx y (List.mem_cons_of_mem _ hy)
  ·rw [e2]
   constructor
   ·intro hx
    rcases List.mem_append.1 hx with hx | hx
    ·refine .inr ⟨e1 ▸ List.mem_append.2 (.inl hx), ?_⟩
     have := s3 x hx _ (List.mem_cons_self ..); rw [hq] at this; omega
    ·rcases List.mem_cons.1 hx with rfl | hx
     ·exact .inl rfl
     ·refine .inr ⟨e1 ▸ List.mem_append.2 (.inr (List.mem_cons_of_mem _ hx)), ?_⟩
      have := s4 x hx; rw [hq] at this; omega
   ·rintro (rfl | ⟨hx, hne⟩)
    ·exact List.mem_append.2 (.inr (List.mem_cons_self ..))
    ·rw [e1] at hx
     rcases List.mem_append.1 hx with hx | hx
     ·exact List.mem_append.2 (.inl hx)
     ·rcases List.mem_cons.1 hx with e3 | hx
      ·exact absurd (e3 ▸ hq) hne
      ·exact List.mem_append.2 (.inr (List.mem_cons_of_mem _ hx))
 ·rw [if_neg h0, if_neg h0]
  have hn : ∀ p ∈ l, p.1 ≠ b := fun p hp e => h0 (idx_has.2 ⟨p, hp, e⟩)
  have tl : ∀ l : List PrS, (tins b a l).length = l.length + 1 := by
   intro l
   induction l with
   | nil => rfl
   | cons q l ih => unfold tins; split <;> simp [ih]
  refine ⟨tins_asc h hn, fun p => ?_, tl l⟩
  rw [tins_mem]
  constructor
  ·rintro (q | q)
   ·exact .inl q
   ·exact .inr ⟨q, hn p q⟩
  ·rintro (q | ⟨q, _⟩)
   ·exact .inl q
   ·exact .inr q
theorem tmerge_mem {a : List PrS} : ∀ (b k : List PrS) (f : List Int), asc k → asc b → (∀ p ∈ k, p ∈ a ∨ ∀ q ∈ b, q.1 ≠ p.1) → (∀ p ∈ a, p ∈ k) →
  asc (tmerge a b k f).1 ∧ (∀ p, p ∈ (tmerge a b k f).1 ↔ p ∈ k ∨ (p ∈ b ∧ ¬ ∃ q ∈ a, q.1 = p.1)) ∧ (∀ z, z ∈ (tmerge a b k f).2 ↔ z ∈ f ∨ ∃ p ∈ b, p.2 = z ∧ ∃ q ∈ a, q.1 = p.1) ∧ (tmerge a b k f).1.length + (tmerge a b k f).2.length = k.length + f.length + b.length
 | [], k, f, hk, _, _, _ => ⟨hk, fun p => by simp [tmerge], fun z => by simp [tmerge], by simp [tmerge]⟩
 | p :: b, k, f, hk, hb, hd, ha => by
  obtain ⟨b1, b2⟩ := asc_cons.1 hb
  unfold tmerge
  by_cases h : 0 ≤ idxS a p.1
  ·have hx := idx_has.1 h
   obtain ⟨r1, r2, r3, r4⟩ := tmerge_mem b k (f ++ [p.2]) hk b2 (fun q hq => (hd q hq).imp_right fun e x hx => e x (by simp [hx])) ha
   rw [if_pos h]
   refine ⟨r1, fun q => ?_, fun z => ?_, by rw [r4]; simp; omega⟩
   ·rw [r2, List.mem_cons]
    constructor
    ·rintro (q1 | ⟨q1, q2⟩)
     ·exact .inl q1
     ·exact .inr ⟨.inr q1, q2⟩
    ·rintro (q1 | ⟨q1, q2⟩)
     ·exact .inl q1
     ·rcases q1 with rfl | q1
      ·exact absurd hx q2
      ·exact .inr ⟨q1, q2⟩
   ·rw [r3, List.mem_append, List.mem_singleton]
    constructor
    ·rintro ((q1 | q1) | ⟨q, q1, q2⟩)
     ·exact .inl q1
     ·exact .inr ⟨p, by simp, q1.symm, hx⟩
     ·exact .inr ⟨q, by simp [q1], q2⟩
    ·rintro (q1 | ⟨q, q1, q2, q3⟩)
     ·exact .inl (.inl q1)
     ·rcases List.mem_cons.1 q1 with rfl | q1
      ·exact .inl (.inr q2.symm)
      ·exact .inr ⟨q, q1, q2, q3⟩
  ·have hx : ¬ ∃ q ∈ a, q.1 = p.1 := fun e => h (idx_has.2 e)
   rw [if_neg h]
   have hkp : ∀ q ∈ k, q.1 ≠ p.1 := fun q hq e => by
    rcases hd q hq with q1 | q1
    ·exact hx ⟨q, q1, e⟩
    ·exact q1 p (by simp) e.symm
   obtain ⟨t1, t2, t3⟩ := tput_mem hk p.1 p.2
   have hi : ¬ 0 ≤ idxS k p.1 := fun e => by obtain ⟨q, hq, e⟩ := idx_has.1 e; exact hkp q hq e
   rw [if_neg hi] at t3
   obtain ⟨r1, r2, r3, r4⟩ := tmerge_mem b (tput k p.1 p.2) f t1 b2 (fun q hq => by
    rcases (t2 q).1 hq with rfl | ⟨q1, q2⟩
    ·exact .inr fun x hx e => by have := b1 x hx; rw [e] at this; exact absurd this (by simp)
    ·exact (hd q q1).imp_right fun e x hx => e x (by simp [hx])) (fun q hq => (t2 q).2 (.inr ⟨ha q hq, hkp q (ha q hq)⟩))
   refine ⟨r1, fun q => ?_, fun z => ?_, by rw [r4, t3]; simp; omega⟩
   ·rw [r2, t2, List.mem_cons]
    constructor
    ·rintro ((q1 | ⟨q1, _⟩) | ⟨q1, q2⟩)
     ·exact .inr ⟨.inl q1, by rw [q1]; exact hx⟩
     ·exact .inl q1
     ·exact .inr ⟨.inr q1, q2⟩
    ·rintro (q1 | ⟨q1 | q1, q2⟩)
     ·exact .inl (.inr ⟨q1, hkp q q1⟩)
     ·exact .inl (.inl q1)
     ·exact .inr ⟨q1, q2⟩
   ·rw [r3]
    constructor
    ·rintro (q1 | ⟨q, q1, q2⟩)
     ·exact .inl q1
     ·exact .inr ⟨q, by simp [q1], q2⟩
    ·rintro (q1 | ⟨q, q1, q2, q3⟩)
     ·exact .inl q1
     ·rcases List.mem_cons.1 q1 with rfl | q1
      ·exact absurd q3 hx
      ·exact .inr ⟨q, q1, q2, q3⟩
end Go.Proofs.Ytfioahnogphnfaa.Eng
end
section
set_option linter.unusedVariables false
namespace Go.Proofs.Ytfioahnogphnfaa.Eng
open Go
structure SnS where
 id : Int
 ch : List Int
 tb : List PrS
deriving DecidableEq
theorem BS.lt {H : AHeap} {v : AV} {zs : List Int} (g : BS H v zs) : ∀ b, slb v = some b → b < H.length := by
 rcases g with ⟨rfl, rfl⟩ | ⟨b, o, l, e, cs, rfl, hc, _⟩
 ·intro b h; cases h
 ·intro b' h; injection h with h; subst h; exact lt_of_cells hc
theorem BS.cell {H : AHeap} {v : AV} {zs : List Int} (g : BS H v zs) : cellsA v = some [v] ∧ v.isCell = true := by
 rcases g with ⟨rfl, rfl⟩ | ⟨b, o, l, e, cs, rfl, hc, _⟩ <;> exact ⟨rfl, rfl⟩
def SnR (H : AHeap) (r : List AV) (s : SnS) : Prop := ∃ vc vt, r = [.int .i64 s.id, vc, vt] ∧ BS H vc s.ch ∧ IsP H vt s.tb
theorem SnR.len {H : AHeap} {r : List AV} {s : SnS} (g : SnR H r s) : r.length = 3 := by obtain ⟨vc, vt, rfl, _⟩ := g; rfl
theorem SnR.cell {H : AHeap} {r : List AV} {s : SnS} (g : SnR H r s) : r.all AV.isCell = true := by
 obtain ⟨vc, vt, rfl, h1, h2⟩ := g
 simp only [List.all_cons, List.all_nil, h1.cell.2, h2.cell.2, Bool.and_true]
 rfl
theorem SnR.lt {H : AHeap} {r : List AV} {s : SnS} (g : SnR H r s) : ∀ x ∈ r, ∀ b, slb x = some b → b < H.length := by
 obtain ⟨vc, vt, rfl, h1, h2⟩ := g
 intro x hx b hb
 simp only [List.mem_cons, List.mem_nil_iff, or_false] at hx
 rcases hx with rfl | rfl | rfl
 ·cases hb
 ·exact h1.lt b hb
 ·exact h2.lt b hb
theorem SnR.fr {H H' : AHeap} {F : Nat → Prop} {r : List AV} {s : SnS} (g : SnR H r s) (a : Fr H H' F) (n : ∀ x ∈ r, ∀ b, slb x = some b → ¬ F b) : SnR H' r s := by
 obtain ⟨vc, vt, rfl, h1, h2⟩ := g
 exact ⟨vc, vt, rfl, h1.fr a (n vc (by simp)), h2.fr a (n vt (by simp))⟩
structure ChR (H : AHeap) (rows : List (List AV)) (L : List SnS) : Prop where
 len : rows.length = L.length
 el : ∀ (i : Nat) r s, rows[i]? = some r → L[i]? = some s → SnR H r s
theorem ChR.get {H : AHeap} {rows : List (List AV)} {L : List SnS} (g : ChR H rows L) {i : Nat} {s : SnS} (h : L[i]? = some s) : ∃ r, rows[i]? = some r ∧ SnR H r s := by
 have lt := (List.getElem?_eq_some_iff.1 h).1
 rw [← g.len] at lt
 exact ⟨_, List.getElem?_eq_getElem lt, g.el i _ s (List.getElem?_eq_getElem lt) h⟩
theorem ChR.row {H : AHeap} {rows : List (List AV)} {L : List SnS} (g : ChR H rows L) {r : List AV} (h : r ∈ rows) : ∃ s ∈ L, SnR H r s := by
 obtain ⟨i, hi⟩ := List.getElem?_of_mem h
 have lt := (List.getElem?_eq_some_iff.1 hi).1
 rw [g.len] at lt
 exact ⟨_, List.getElem_mem lt, g.el i _ _ hi (List.getElem?_eq_getElem lt)⟩
theorem ChR.len3 {H : AHeap} {rows : List (List AV)} {L : List SnS} (g : ChR H rows L) : ∀ r ∈ rows, r.length = 3 := fun r h => by obtain ⟨s, _, q⟩ := g.row h; exact q.len
theorem ChR.fr {H H' : AHeap} {F : Nat → Prop} {rows : List (List AV)} {L : List SnS} (g : ChR H rows L) (a : Fr H H' F) (n : ∀ r ∈ rows, ∀ x ∈ r, ∀ b, slb x = some b → ¬ F b) : ChR H' rows L :=
 ⟨g.len, fun i r s h1 h2 => (g.el i r s h1 h2).fr a (n r (List.mem_of_getElem? h1))⟩
theorem ChR.adds {H H' : AHeap} {rows : List (List AV)} {L : List SnS} (g : ChR H rows L) (a : Adds H H') : ChR H' rows L := g.fr (Fr.adds a (fun _ => False)) fun _ _ _ _ _ _ h => h
def IsC (H : AHeap) (v : AV) (L : List SnS) : Prop := (v = .nilSl ∧ L = []) ∨ ∃ b n e rows X, v = .sl b 0 3 L.length n e ∧ L.length ≤ n ∧ cellsOf H b = some (rows.flatten ++ X) ∧ ChR H rows L
theorem IsC.len {H : AHeap} {v : AV} {L : List SnS} (g : IsC H v L) : lenSl v = some (.int .i64 L.length) := by
 rcases g with ⟨rfl, rfl⟩ | ⟨b, n, e, rows, X, rfl, _⟩ <;> rfl
theorem IsC.cell {H : AHeap} {v : AV} {L : List SnS} (g : IsC H v L) : cellsA v = some [v] ∧ v.isCell = true := by
 rcases g with ⟨rfl, rfl⟩ | ⟨b, n, e, rows, X, rfl, _⟩ <;> exact ⟨rfl, rfl⟩
theorem IsC.lt {H : AHeap} {v : AV} {L : List SnS} (g : IsC H v L) : ∀ b, slb v = some b → b < H.length := by
 rcases g with ⟨rfl, rfl⟩ | ⟨b, n, e, rows, X, rfl, _, hc, _⟩
 ·intro b h; cases h
 ·intro b' h; injection h with h; subst h; exact lt_of_cells hc
theorem IsC.adds {H H' : AHeap} {v : AV} {L : List SnS} (g : IsC H v L) (a : Adds H H') : IsC H' v L := by
 rcases g with h | ⟨b, n, e, rows, X, rfl, hn, hc, hr⟩
 ·exact .inl h
 ·exact .inr ⟨b, n, e, rows, X, rfl, hn, a.cells hc, hr.adds a⟩
theorem IsC.idx {H : AHeap} {v : AV} {L : List SnS} (g : IsC H v L) {i : Nat} {s : SnS} (h : L[i]? = some s) :
  ∃ b cs vc vt, slb v = some b ∧ idxAddrS 3 v (.int .i64 (i : Int)) = some (.ptr b (i * 3)) ∧ cellsOf H b = some cs ∧ cs[i * 3]? = some (.int .i64 s.id) ∧ cs[i * 3 + 1]? = some vc ∧ cs[i * 3 + 2]? = some vt ∧ (cs.drop (i * 3)).take 3 = [.int .i64 s.id, vc, vt] ∧ i * 3 + 3 ≤ cs.length ∧ BS H vc s.ch ∧ IsP H vt s.tb := by
 have lt := (List.getElem?_eq_some_iff.1 h).1
 rcases g with ⟨_, rfl⟩ | ⟨b, n, e, rows, X, rfl, hn, hc, hr⟩
 ·simp at lt
 ·obtain ⟨r, h1, vc, vt, rfl, hb, hp⟩ := hr.get h
  have hl := rows_len hr.len3
  have hle : i * 3 + 3 ≤ rows.flatten.length := by rw [hl, hr.len]; omega
  have q := fun f (hf : f < 3) => rows_get hr.len3 h1 f hf
  have q0 := q 0 (by omega)
  have q1 := q 1 (by omega)
  have q2 := q 2 (by omega)
  rw [Nat.add_zero] at q0
  refine ⟨b, _, vc, vt, rfl, idx_nat b 3 _ n i e .i64 (by omega) lt, hc, ?_, ?_, ?_, ?_, by rw [List.length_append]; omega, hb, hp⟩
  ·rw [List.getElem?_append_left (by omega)]; exact q0
  ·rw [List.getElem?_append_left (by omega)]; exact q1
  ·rw [List.getElem?_append_left (by omega)]; exact q2
  ·rw [List.drop_append_of_le_length (by omega), List.take_append_of_le_length (by rw [List.length_drop]; omega)]
   exact rows_take hr.len3 h1
structure Gc (H : AHeap) (B : Nat) (v : AV) (L : List SnS) (rows : List (List AV)) : Prop where
 g : GR 3 H B v rows
 ch : ChR H rows L
 ap : ∀ r ∈ rows, ∀ x ∈ r, ∀ b, slb x = some b → slb v ≠ some b
theorem Gc.isC {H : AHeap} {B : Nat} {v : AV} {L : List SnS} {rows : List (List AV)} (g : Gc H B v L rows) : IsC H v L := by
 rcases g.g with ⟨rfl, rfl⟩ | ⟨_, b, _, rfl, h⟩
 ·exact .inl ⟨rfl, List.length_eq_zero_iff.1 g.ch.len.symm⟩
 ·refine .inr ⟨b, rows.length, false, rows, [], by rw [g.ch.len], by rw [g.ch.len]; exact Nat.le_refl _, by rw [List.append_nil]; exact cells_rw h, g.ch⟩
theorem Gc.nil (H : AHeap) (B : Nat) : Gc H B .nilSl [] [] := ⟨.inl ⟨rfl, rfl⟩, ⟨rfl, fun i r s h => by simp at h⟩, fun r h => by cases h⟩
theorem Gc.adds {H H' : AHeap} {B : Nat} {v : AV} {L : List SnS} {rows : List (List AV)} (g : Gc H B v L rows) (a : Adds H H') : Gc H' B v L rows :=
 ⟨g.g.frS (Fr.adds a (fun _ => False)) fun _ _ h => h, g.ch.adds a, g.ap⟩
theorem Gc.low {H : AHeap} {B B' : Nat} {v : AV} {L : List SnS} {rows : List (List AV)} (g : Gc H B v L rows) (h : B' ≤ B) : Gc H B' v L rows := ⟨g.g.low h, g.ch, g.ap⟩
theorem Gc.push {d : TyD} (hd : d.size = 3) (hb : 1 ≤ d.bytes) (hb2 : d.bytes ≤ 1000) {K : AHeap} {B s : Nat} {v : AV} {L : List SnS} {rows : List (List AV)} {r : List AV} {x : SnS} (g : Gc K B v L rows) (hs : cellsOf K s = some r) (hx : SnR K r x)
  (ha : ∀ y ∈ r, ∀ b, slb y = some b → slb v ≠ some b) (hn : L.length ≤ 1000) (hB : B ≤ K.length) :
  ∃ v' K', Eng.app d v (.sl s 0 3 1 1 true) K = some (v', K') ∧ Gc K' B v' (L ++ [x]) (rows ++ [r]) ∧ Fr K K' (fun b => slb v = some b) ∧ slb v' = some K.length ∧ K'.length = K.length + 1 ∧ cellsA v' = some [v'] ∧ v'.isCell = true := by
 have hl := g.ch.len
 obtain ⟨v', K', e, g', fr, sb, kl, c1, c2⟩ := gr_push (by omega) hd hb g.g g.ch.len3 hs hx.len hx.cell (by
  have : (rows.length + 1) * d.bytes ≤ 1001 * 1000 := Nat.mul_le_mul (by omega) hb2
  unfold roomy; omega) hB
 have fx := hx.fr fr fun y hy b h1 h2 => ha y hy b h1 h2
 refine ⟨v', K', e, ⟨g', ⟨by simp [hl], fun i r' s' h1 h2 => ?_⟩, fun r' hr y hy b h1 => ?_⟩, fr, sb, kl, c1, c2⟩
 ·by_cases hi : i < rows.length
  ·rw [List.getElem?_append_left hi] at h1
   rw [List.getElem?_append_left (by omega)] at h2
   exact (g.ch.el i r' s' h1 h2).fr fr fun y hy b q1 q2 => g.ap r' (List.mem_of_getElem? h1) y hy b q1 q2
  ·have : i = rows.length := by
    have := (List.getElem?_eq_some_iff.1 h1).1
    rw [List.length_append, List.length_singleton] at this; omega
   subst this
   rw [List.getElem?_append_right (Nat.le_refl _), Nat.sub_self] at h1
   rw [List.getElem?_append_right (by omega), show rows.length - L.length = 0 by omega] at h2
   simp only [List.getElem?_cons_zero, Option.some.injEq] at h1 h2
   subst h1; subst h2; exact fx
 ·rw [sb]
  intro q
  injection q with q
  have : b < K.length := by
   rcases List.mem_append.1 hr with hr | hr
   ·obtain ⟨s, _, hs⟩ := g.ch.row hr; exact hs.lt y hy b h1
   ·rw [List.mem_singleton.1 hr] at hy; exact hx.lt y hy b h1
  omega
theorem snaps_dat {h : AHeap} {v : AV} (d : DatC h (.sl [.int .i64, .sl [.int .u8], .sl [.int .i64, .int .i64]]) v) : ∃ L, IsC h v L ∧ L.length ≤ 9223372036854775807 ∧ ∀ s ∈ L, IntKind.i64.has s.id ∧ IsU8 s.ch ∧ s.ch.length ≤ 9223372036854775807 ∧ s.tb.length ≤ 9223372036854775807 ∧ ∀ p ∈ s.tb, IntKind.i64.has p.1 ∧ IntKind.i64.has p.2 := by
 have key : ∀ rows : List (List AV), (∀ r ∈ rows, DatR h [.int .i64, .sl [.int .u8], .sl [.int .i64, .int .i64]] r) → ∃ L, ChR h rows L ∧ ∀ s ∈ L, IntKind.i64.has s.id ∧ IsU8 s.ch ∧ s.ch.length ≤ 9223372036854775807 ∧ s.tb.length ≤ 9223372036854775807 ∧ ∀ p ∈ s.tb, IntKind.i64.has p.1 ∧ IntKind.i64.has p.2 := by
  intro rows
  induction rows with
  | nil => intro _; exact ⟨[], ⟨rfl, fun i r s h => by simp at h⟩, fun s h => by cases h⟩
  | cons r rows ih =>
   intro hr
   obtain ⟨L, c, q⟩ := ih fun r hm => hr r (by simp [hm])
   have hd := hr r (by simp)
   cases hd with
   | cons d1 t => cases t with
    | cons d2 t => cases t with
     | cons d3 t => cases t with
      | nil => cases d1 with
       | @int _ x n1 =>
        rename_i vc vt
        obtain ⟨zs, bz, uz, _⟩ := d2.bytes
        obtain ⟨l, pl, nl, kl⟩ := pairs_isP d3
        have nz : zs.length ≤ 9223372036854775807 := by
         cases d2 with
         | nil =>
          rcases bz with ⟨_, rfl⟩ | ⟨_, _, _, _, _, h, _⟩
          ·simp
          ·cases h
         | @sl _ b rws hn hb hr2 =>
          rcases bz with ⟨h, _⟩ | ⟨_, _, _, _, _, h, _⟩
          ·cases h
          ·injection h with _ _ _ h _ _; omega
        refine ⟨⟨x, zs, l⟩ :: L, ⟨by simp [c.len], fun i r s h1 h2 => ?_⟩, fun s hs => ?_⟩
        ·cases i with
         | zero =>
          simp only [List.getElem?_cons_zero, Option.some.injEq] at h1 h2
          subst h1; subst h2
          exact ⟨vc, vt, rfl, bz, pl⟩
         | succ i => exact c.el i r s (by simpa using h1) (by simpa using h2)
        ·rcases List.mem_cons.1 hs with rfl | hs
         ·exact ⟨n1, uz, nz, nl, kl⟩
         ·exact q s hs
 cases d with
 | nil => exact ⟨[], .inl ⟨rfl, rfl⟩, by simp, fun s h => by cases h⟩
 | @sl _ b rows hn hb hr =>
  obtain ⟨L, c, q⟩ := key rows hr
  exact ⟨L, .inr ⟨b, rows.length, false, rows, [], by rw [c.len]; rfl, by rw [c.len]; exact Nat.le_refl _, by rw [List.append_nil]; exact hb, c⟩, by rw [← c.len]; exact hn, q⟩
end Go.Proofs.Ytfioahnogphnfaa.Eng
end
section
set_option linter.unusedVariables false
namespace Go.Proofs.Ytfioahnogphnfaa.Eng
open Go
theorem cut_at {K : AHeap} {n b : Nat} (h : b < n) : (K.take n)[b]? = K[b]? := by rw [List.getElem?_take, if_pos h]
theorem cut_cells {K : AHeap} {n b : Nat} (h : b < n) : cellsOf (K.take n) b = cellsOf K b := by unfold cellsOf; rw [cut_at h]
theorem BS.cut {K : AHeap} {v : AV} {zs : List Int} {n : Nat} (g : BS K v zs) (h : ∀ b, slb v = some b → b < n) : BS (K.take n) v zs := by
 rcases g with g | ⟨b, o, l, e, cs, rfl, hc, q⟩
 ·exact .inl g
 ·exact .inr ⟨b, o, l, e, cs, rfl, by rw [cut_cells (h b rfl)]; exact hc, q⟩
theorem IsP.cut {K : AHeap} {v : AV} {l : List PrS} {n : Nat} (g : IsP K v l) (h : ∀ b, slb v = some b → b < n) : IsP (K.take n) v l := by
 rcases g with g | ⟨b, c, ex, rfl, hl, hc⟩
 ·exact .inl g
 ·exact .inr ⟨b, c, ex, rfl, hl, by rw [cut_cells (h b rfl)]; exact hc⟩
theorem GR.cut {k : Nat} {K : AHeap} {B : Nat} {v : AV} {rows : List (List AV)} {n : Nat} (g : GR k K B v rows) (h : ∀ b, slb v = some b → b < n) : GR k (K.take n) B v rows := by
 rcases g with g | ⟨h0, b, hb, rfl, q⟩
 ·exact .inl g
 ·exact .inr ⟨h0, b, hb, rfl, by rw [cut_at (h b rfl)]; exact q⟩
theorem SnR.cut {K : AHeap} {r : List AV} {s : SnS} {n : Nat} (g : SnR K r s) (h : ∀ x ∈ r, ∀ b, slb x = some b → b < n) : SnR (K.take n) r s := by
 obtain ⟨vc, vt, rfl, h1, h2⟩ := g
 exact ⟨vc, vt, rfl, h1.cut (h vc (by simp)), h2.cut (h vt (by simp))⟩
theorem Adds.cut {H K : AHeap} {n : Nat} (a : Adds H K) (h : H.length ≤ n) : Adds H (K.take n) := by
 obtain ⟨X, rfl⟩ := a
 exact ⟨X.take (n - H.length), by rw [List.take_append, List.take_of_length_le h]⟩
theorem Fr.cut {H K : AHeap} {F : Nat → Prop} (a : Fr H K F) : Fr H (K.take H.length) F :=
 ⟨by have := a.1; rw [List.length_take]; omega, fun b hb hn => by rw [cut_at hb]; exact a.2 b hb hn⟩
structure SnS.Fit (s : SnS) : Prop where
 u8 : IsU8 s.ch
 lc : s.ch.length ≤ 1000
 lt : s.tb.length ≤ 1000
def Fits (L : List SnS) : Prop := L.length ≤ 100 ∧ ∀ s ∈ L, s.Fit
theorem trim_adds {H K : AHeap} {v : AV} (a : Adds H K) : trim H (some (v, K)) = some (v, K) ∨ (v.under H.length = true ∧ trim H (some (v, K)) = some (v, H)) := by
 rcases trim_if H v K with ⟨t, e⟩ | e
 ·obtain ⟨X, rfl⟩ := a
  rw [List.take_left] at e
  exact .inr ⟨t.2.1, e⟩
 ·exact .inl e
end Go.Proofs.Ytfioahnogphnfaa.Eng
end
section
set_option linter.unusedVariables false
namespace Go.Proofs.Ytfioahnogphnfaa.Eng
open Go
theorem yield_two {P : Program} {l : Nat} {args : List AV} {K : AHeap} {e0 : Ex} {T0 : T} {ps : List Nat} {ka kb : Code} {a b : CT} (ea : ∀ t h, evalCode P (envL P) ka t h = runC (envL P) a t h) (eb : ∀ t h, evalCode P (envL P) kb t h = runC (envL P) b t h)
  (hl : K[l]? = some (.loop ⟨.ready, e0, T0, ps, ka, kb⟩)) (hp : args.length = ps.length) {t1 : T} {K1 : AHeap} (ha : runC (envL P) a (putParams ps args T0) K = some (.normal, t1, K1)) (h1 : K1[l]? = some (.loop ⟨.ready, e0, T0, ps, ka, kb⟩))
  {ex : Ex} {t2 : T} {K2 : AHeap} (hb : runC (envL P) b t1 (K1.set l (.loop ⟨.busy, e0, T0, ps, ka, kb⟩)) = some (ex, t2, K2)) (h2 : K2[l]? = some (.loop ⟨.busy, e0, T0, ps, ka, kb⟩)) :
  (envL P).yield l args K = trim K (some (.bool ex.isNormal, K2.set l (.loop ⟨if ex.isNormal then .ready else .done, ex, T0, ps, ka, kb⟩))) := by
 rw [yield_run P l args K _ hl hp]
 simp only [ea, ha]
 rw [round_mid P (envL P) l _ t1 K1 _ h1 rfl]
 simp only [eb, hb]
 rw [round_end l ex t2 K2 _ h2]
theorem tr_slb {K K3 : AHeap} {v0 : AV} (t : Trimmable K v0 K3) {b : Nat} (hb : b < K.length) {vs : List AV} (h3 : K3[b]? = some (.rw vs)) {a : AV} (ha : a ∈ vs) (hK : ∀ k, K[b]? = some k → ∀ a ∈ k.vals, ∀ x, slb a = some x → x < K.length) : ∀ x, slb a = some x → x < K.length := by
 intro x hx
 rcases t.2.2 b _ hb h3 a ha with h | ⟨k, hk, ha2⟩
 ·exact slb_under h hx
 ·exact hK k hk a ha2 x hx
theorem trim_two (K : AHeap) (v : AV) (K3 : AHeap) : ∃ K4, trim K (some (v, K3)) = some (v, K4) ∧ (K4 = K3 ∨ (Trimmable K v K3 ∧ K4 = K3.take K.length)) := by
 rcases trim_if K v K3 with ⟨t, e⟩ | e
 ·exact ⟨_, e, .inr ⟨t, rfl⟩⟩
 ·exact ⟨_, e, .inl rfl⟩
theorem two_at {K K3 K4 : AHeap} {v : AV} (h : K4 = K3 ∨ (Trimmable K v K3 ∧ K4 = K3.take K.length)) {b : Nat} (hb : b < K.length) : K4[b]? = K3[b]? := by
 rcases h with rfl | ⟨_, rfl⟩
 ·rfl
 ·exact cut_at hb
theorem two_len {K K3 K4 : AHeap} {v : AV} (h : K4 = K3 ∨ (Trimmable K v K3 ∧ K4 = K3.take K.length)) (hl : K.length ≤ K3.length) : K.length ≤ K4.length := by
 rcases h with rfl | ⟨_, rfl⟩
 ·exact hl
 ·rw [List.length_take]; omega
theorem two_gr {k : Nat} {K K3 K4 : AHeap} {v a : AV} {B : Nat} {rows : List (List AV)} (h : K4 = K3 ∨ (Trimmable K v K3 ∧ K4 = K3.take K.length)) (g : GR k K3 B a rows) {b : Nat} (hb : b < K.length) {vs : List AV} (h3 : K3[b]? = some (.rw vs)) (ha : a ∈ vs) (hK : ∀ k, K[b]? = some k → ∀ a ∈ k.vals, ∀ x, slb a = some x → x < K.length) : GR k K4 B a rows := by
 rcases h with rfl | ⟨t, rfl⟩
 ·exact g
 ·exact g.cut (tr_slb t hb h3 ha hK)
theorem round_gen {P : Program} {l : Nat} {args : List AV} {K : AHeap} {e0 : Ex} {T0 : T} {ps : List Nat} {ka kb : Code} {a b : CT} (ea : ∀ t h, evalCode P (envL P) ka t h = runC (envL P) a t h) (eb : ∀ t h, evalCode P (envL P) kb t h = runC (envL P) b t h)
  (hl : K[l]? = some (.loop ⟨.ready, e0, T0, ps, ka, kb⟩)) (hp : args.length = ps.length) {t1 : T} {cs : List AV} (ha : runC (envL P) a (putParams ps args T0) K = some (.normal, t1, K ++ [ABlk.rw cs]))
  {R : Ex → AHeap → Prop} (hb : Outs (runC (envL P) b t1 ((K ++ [ABlk.rw cs]).set l (.loop ⟨.busy, e0, T0, ps, ka, kb⟩))) fun e _ K2 => R e K2) (h2 : ∀ e K2, R e K2 → K2[l]? = some (.loop ⟨.busy, e0, T0, ps, ka, kb⟩)) :
  ∃ e K2 K4, R e K2 ∧ (envL P).yield l args K = some (.bool e.isNormal, K4) ∧ (K4 = K2.set l (.loop ⟨if e.isNormal then .ready else .done, e, T0, ps, ka, kb⟩) ∨ (Trimmable K (.bool e.isNormal) (K2.set l (.loop ⟨if e.isNormal then .ready else .done, e, T0, ps, ka, kb⟩)) ∧ K4 = (K2.set l (.loop ⟨if e.isNormal then .ready else .done, e, T0, ps, ka, kb⟩)).take K.length)) := by
 obtain ⟨e, t2, K2, er, r⟩ := hb
 have := yield_two ea eb hl hp ha (by rw [List.getElem?_append_left (lt_of_at hl)]; exact hl) er (h2 e K2 r)
 obtain ⟨K4, et, h4⟩ := trim_two K (.bool e.isNormal) (K2.set l (.loop ⟨if e.isNormal then .ready else .done, e, T0, ps, ka, kb⟩))
 exact ⟨e, K2, K4, r, this.trans et, h4⟩
theorem busy_at {K : AHeap} {cs : List AV} {l : Nat} {x : ABlk} {b : Nat} (hb : b < K.length) (hn : b ≠ l) : ((K ++ [ABlk.rw cs]).set l x)[b]? = K[b]? := by
 rw [at_set_ne _ _ _ _ hn, List.getElem?_append_left hb]
theorem busy_new {K : AHeap} {cs : List AV} {l : Nat} {x : ABlk} (hl : l < K.length) : ((K ++ [ABlk.rw cs]).set l x)[K.length]? = some (.rw cs) := by
 rw [at_set_ne _ _ _ _ (by omega), List.getElem?_append_right (Nat.le_refl _), Nat.sub_self]; rfl
theorem busy_lp {K : AHeap} {cs : List AV} {l : Nat} {x : ABlk} (hl : l < K.length) : ((K ++ [ABlk.rw cs]).set l x)[l]? = some x := at_set _ _ _ (by rw [List.length_append]; omega)
theorem busy_len {K : AHeap} {cs : List AV} {l : Nat} {x : ABlk} : ((K ++ [ABlk.rw cs]).set l x).length = K.length + 1 := by rw [List.length_set, List.length_append]; rfl
theorem busy_fr {K : AHeap} {cs : List AV} {l : Nat} {x : ABlk} : Fr K ((K ++ [ABlk.rw cs]).set l x) (fun b => b = l) := ⟨by rw [busy_len]; omega, fun b hb hn => busy_at hb hn⟩
theorem not_loop {K : AHeap} {l : Nat} {L : ALoop} (hl : K[l]? = some (.loop L)) {cs : List AV} {b : Nat} (hc : cellsOf K b = some cs) : b ≠ l := fun e => by
 subst e; unfold cellsOf at hc; rw [hl] at hc; cases hc
theorem BS.nl {K : AHeap} {l : Nat} {L : ALoop} (hl : K[l]? = some (.loop L)) {v : AV} {zs : List Int} (g : BS K v zs) : ∀ b, slb v = some b → ¬ b = l := by
 rcases g with ⟨rfl, _⟩ | ⟨b, o, n, e, cs, rfl, hc, _⟩
 ·intro b h; cases h
 ·intro b' h; injection h with h; subst h; exact not_loop hl hc
theorem IsP.nl {K : AHeap} {l : Nat} {L : ALoop} (hl : K[l]? = some (.loop L)) {v : AV} {zs : List PrS} (g : IsP K v zs) : ∀ b, slb v = some b → ¬ b = l := by
 rcases g with ⟨rfl, _⟩ | ⟨b, c, e, rfl, _, hc⟩
 ·intro b h; cases h
 ·intro b' h; injection h with h; subst h; exact not_loop hl hc
theorem write_one {K : AHeap} {b : Nat} {x y : AV} (h : K[b]? = some (.rw [x])) (hc : y.isCell = true) : writeN K b 0 [y] = some (K.set b (.rw [y])) := by
 rw [write_of h, if_pos ⟨by simp, by simp [hc]⟩, splice_one]; rfl
theorem range_all {E : Env} {f : T → AV} {ps : List Nat} {ka kb : Code} {t : T} {h K : AHeap} {e : Ex} {st : LoopState} {v : AV} (hc : callF E (f t) [.yld h.length] (h ++ [.loop ⟨.ready, .normal, t, ps, ka, kb⟩]) = some (v, K)) (hl : K[h.length]? = some (.loop ⟨st, e, t, ps, ka, kb⟩)) (hs : st ≠ .busy) :
  runC E (.range f ps ka kb) t h = some (e, t, K.set h.length (.loop ⟨.exhausted, e, t, ps, ka, kb⟩)) := by
 rw [runC_range, hc, range_end _ _ _ _ _ hl hs]
theorem Gc.frT {H H' : AHeap} {F : Nat → Prop} {B : Nat} {v : AV} {L : List SnS} {rows : List (List AV)} (g : Gc H B v L rows) (a : Fr H H' F) (n1 : ∀ b, slb v = some b → ¬ F b) (n2 : ∀ r ∈ rows, ∀ x ∈ r, ∀ b, slb x = some b → ¬ F b) : Gc H' B v L rows :=
 ⟨g.g.frS a n1, g.ch.fr a n2, g.ap⟩
def holdF (b : Int) : List SnS → Int × Bool
 | [] => (0, false)
 | s :: L => if 0 ≤ idxS s.tb b then (fnd s.tb b, true) else holdF b L
def holdS (L : List SnS) (i b : Int) : Int × Bool := if i < 0 then (0, false) else holdF b (L.drop i.toNat)
end Go.Proofs.Ytfioahnogphnfaa.Eng
end
section
set_option linter.unusedVariables false
namespace Go.Proofs.Ytfioahnogphnfaa.Eng
open Go Go.Sort
def intsOf : List AV → Option (List Int)
 | [] => some []
 | .int .i64 z :: l => (intsOf l).map (z :: ·)
 | _ => none
theorem intsOf_map : ∀ {cs : List AV} {zs : List Int}, intsOf cs = some zs → cs = zs.map fun z => AV.int .i64 z
 | [], zs, h => by injection h with h; subst h; rfl
 | c :: cs, zs, h => by
  unfold intsOf at h
  split at h
  ·simp_all
  ·rename_i z l he
   injection he with h1 h2
   subst h1; subst h2
   cases hl : intsOf cs with
   | none => rw [hl] at h; cases h
   | some ys =>
    rw [hl] at h; injection h with h; subst h
    rw [intsOf_map hl]; rfl
  ·cases h
theorem intsOf_of (zs : List Int) : intsOf (zs.map fun z => AV.int .i64 z) = some zs := by
 induction zs with
 | nil => rfl
 | cons z zs ih => rw [List.map_cons, intsOf, ih]; rfl
def srt (zs : List Int) : List Int := zs.mergeSort fun x y => decide (x ≤ y)
theorem srt_len (zs : List Int) : (srt zs).length = zs.length := List.length_mergeSort _
def sortR : List AV → AHeap → Option (AV × AHeap) := fun args h => match args with
 | [.nilSl] => some (.tup [], h)
 | [.sl b off 1 len lo ex] => if len = 0 then some (.tup [], h) else match h[b]? with
  | some (.rw cs) => if off + len ≤ cs.length ∧ len < 4611686018427387904 then match intsOf ((cs.drop off).take len) with
   | some zs => some (.tup [], h.set b (.rw (cs.take off ++ (srt zs).map (fun z => AV.int .i64 z) ++ cs.drop (off + len))))
   | none => none
   else none
  | _ => none
 | _ => none
theorem st_heap {φ : Ren} {h : AHeap} {w w' : World} (s : St φ h w) (e : w'.heap = w.heap) : St φ h w' := ⟨fun b x hb => by rw [e]; exact s.dom b x hb, s.inj⟩
theorem ext_heap {φ φ' : Ren} {h h' : AHeap} {w w1 w2 : World} (a : Ext φ h w φ' h' w1) (e : w2.heap = w1.heap) (e1 : w2.os = w1.os) (e2 : w2.tape = w1.tape) (e3 : w2.output = w1.output) : Ext φ h w φ' h' w2 :=
 ⟨a.hlen, by rw [e]; exact a.wlen, e1.trans a.os, e2.trans a.tape, e3.trans a.output, a.old, a.afr, a.im, fun r hr hn => by rw [e]; exact a.cfr r hr hn, a.lp⟩
theorem st_grow {φ : Ren} {h : AHeap} {w : World} (s : St φ h w) (os : Array Obj) : St φ h (grow w os) ∧ Ext φ h w φ h (grow w os) := by
 have hh : ∀ r, r < w.heap.size → (grow w os).heap[r]? = w.heap[r]? := fun r hr => heap_grow_old w os hr
 refine ⟨⟨fun b e hb => ?_, s.inj⟩, ⟨Nat.le_refl _, by simp, rfl, rfl, rfl, fun _ _ => rfl, fun _ _ _ => rfl, fun _ _ h => h, fun r hr _ => hh r hr, fun _ L h => ⟨L, h⟩⟩⟩
 obtain ⟨k, o, h1, h2, h3⟩ := s.dom b e hb
 exact ⟨k, o, h1, by rw [hh _ (s.wlt hb)]; exact h2, h3⟩
theorem vrels_ints {φ : Ren} : ∀ {zs : List Int} {vs : List Value}, VRels φ (zs.map fun z => AV.int .i64 z) vs → vs = zs.map (Value.int .i64)
 | [], vs, h => by cases h; rfl
 | z :: zs, vs, h => by
  cases h with
  | cons h1 h2 => cases h1; rw [vrels_ints h2]; rfl
theorem sort_told {P : Program} {f : Nat} (hb : ∃ fn, P.funcs[f]? = some fn ∧ fn.body.isSome = true)
  (hc : ∀ (blk off cap : Nat) (zs : List Int) (w : World), Holds (Value.int .i64) w blk off zs.toArray → blk < w.heap.size → zs.length < 4611686018427387904 → Calls P f #[.slice (some ⟨blk, off, none⟩) zs.length cap] w fun e w' => e = .returned (.tuple #[]) ∧ ∃ n os, w' = grow (putRow (Value.int .i64) (Sort.ahead w n) blk off (zs.mergeSort fun x y => decide (x ≤ y)).toArray) os)
  (hn : ∀ (p : Option Addr) (cap : Nat) (w : World), Calls P f #[.slice p 0 cap] w fun e w' => e = .returned (.tuple #[]) ∧ w' = w) :
  ∀ args h v h', sortR args h = some (v, h') → Told1 P f args h v h' := by
 intro args h v h' hv
 refine .inl ⟨hb, fun φ w cargs n s hr => callsIn_wide.2 ?_⟩
 unfold sortR at hv
 split at hv
 ·injection hv with hv; injection hv with e1 e2; subst e1; subst e2
  obtain ⟨cl⟩ := cargs
  cases hr with
  | cons h1 h2 => cases h2 with
   | nil =>
    cases h1
    exact (hn _ _ w).mono fun e w' ⟨r1, r2⟩ => by subst r2; exact ⟨_, φ, r1, .tup .nil, s, Ext.refl φ h w'⟩
 ·rename_i b off len lo ex
  split at hv
  ·rename_i hz
   subst hz
   injection hv with hv; injection hv with e1 e2; subst e1; subst e2
   obtain ⟨cl⟩ := cargs
   cases hr with
   | cons h1 h2 => cases h2 with
    | nil =>
     cases h1
     exact (hn _ _ w).mono fun e w' ⟨r1, r2⟩ => by subst r2; exact ⟨_, φ, r1, .tup .nil, s, Ext.refl φ h w'⟩
  ·rename_i hz
   split at hv
   ·rename_i cs hcs
    split at hv
    ·rename_i hl
     split at hv
     ·rename_i zs hzs
      injection hv with hv; injection hv with e1 e2; subst e1; subst e2
      obtain ⟨cl⟩ := cargs
      cases hr with
      | cons h1 h2 => cases h2 with
       | nil => cases h1 with
        | sl hφ ha q1 q2 q3 q4 =>
         rename_i e a cap
         obtain rfl : a = ⟨e.blk, e.base + off, none⟩ := by
          rcases ha with h | h
          ·exact h
          ·omega
         obtain ⟨k, o, g1, g2, g3⟩ := s.dom b e hφ
         rw [hcs] at g1; injection g1 with g1; subst g1
         obtain ⟨C, t, rfl, cr⟩ := g3
         have em := intsOf_map hzs
         have lz : zs.length = len := by
          have := congrArg List.length em
          rw [List.length_map, List.length_take, List.length_drop] at this; omega
         have vr := cr.read off len hl.1
         rw [em] at vr
         have ev := vrels_ints vr
         have hblk := s.wlt hφ
         have at_ : ∀ j, j < len → C[e.base + off + j]? = some (Value.int .i64 (zs[j]!)) := fun j hj => by
          have := congrArg (fun l : List Value => l[j]?) ev
          simp only [List.getElem?_take, List.getElem?_drop, List.getElem?_map] at this
          rw [if_pos hj, Array.getElem?_toList] at this
          rw [this, List.getElem?_eq_getElem (by omega)]
          simp [List.getElem!_eq_getElem?_getD, List.getElem?_eq_getElem (show j < zs.length by omega)]
         have hH : Holds (Value.int .i64) w e.blk (e.base + off) zs.toArray := fun j hj => by
          have hj' : j < len := by simpa [lz] using hj
          refine ⟨?_, by simp [World.frozen?, g2]⟩
          simp only [World.cell?, g2]
          simp only [Option.isSome_none, Bool.false_eq_true, if_false]
          rw [at_ j hj']
          simp
         have key := hc e.blk (e.base + off) cap zs w hH hblk (by omega)
         rw [lz] at key
         refine key.mono fun x w' ⟨r1, nn, os, r2⟩ => ?_
         have o' : BlkRel φ (.rw (cs.take off ++ (srt zs).map (fun z => AV.int .i64 z) ++ cs.drop (off + len))) e (.cells (putCells (Value.int .i64) (e.base + off) (srt zs).toArray C) t (0, 0)) := by
          refine ⟨_, _, rfl, by simp [putCells, cr.1], ?_, fun i a ha => ?_⟩
          ·have := cr.2.1
           rw [List.length_append, List.length_append, List.length_map, srt_len, lz, List.length_take, List.length_drop]; omega
          ·have hsz := cr.1
           have hle := cr.2.1
           have sl := srt_len zs
           have tl : (cs.take off).length = off := by rw [List.length_take]; omega
           have ml : ((srt zs).map (fun z => AV.int .i64 z)).length = len := by rw [List.length_map, sl, lz]
           by_cases c1 : i < off
           ·rw [List.append_assoc, List.getElem?_append_left (by omega), List.getElem?_take, if_pos c1] at ha
            obtain ⟨v, hv, hr⟩ := cr.2.2 i a ha
            refine ⟨v, ?_, hr⟩
            simp only [putCells, Array.getElem?_mapIdx, hv, Option.map_some]
            rw [if_neg (by omega)]
           ·by_cases c2 : i < off + len
            ·rw [List.append_assoc, List.getElem?_append_right (by omega), List.getElem?_append_left (by omega), tl, List.getElem?_map] at ha
             rw [List.getElem?_eq_getElem (show i - off < (srt zs).length by omega)] at ha
             injection ha with ha
             subst ha
             refine ⟨_, ?_, .int _ _⟩
             have hlt : e.base + i < C.size := by omega
             simp only [putCells, Array.getElem?_mapIdx, Array.getElem?_eq_getElem hlt, Option.map_some]
             rw [if_pos ⟨by omega, by simp [sl, lz]; omega⟩]
             congr 2
             rw [show e.base + i - (e.base + off) = i - off by omega]
             simp [List.getElem!_eq_getElem?_getD, List.getElem?_eq_getElem (show i - off < (srt zs).length by omega)]
            ·rw [List.getElem?_append_right (by rw [List.length_append]; omega), List.length_append, tl, ml, List.getElem?_drop, show off + len + (i - (off + len)) = i by omega] at ha
             obtain ⟨v, hv, hr⟩ := cr.2.2 i a ha
             refine ⟨v, ?_, hr⟩
             simp only [putCells, Array.getElem?_mapIdx, hv, Option.map_some]
             rw [if_neg (by simp [sl, lz]; omega)]
         obtain ⟨s1, x1⟩ := s.turn hφ hcs rfl o' rfl (fun L hL => by cases hL)
         have hp : (putRow (Value.int .i64) (Sort.ahead w nn) e.blk (e.base + off) (zs.mergeSort fun x y => decide (x ≤ y)).toArray).heap = w.heap.setIfInBounds e.blk (.cells (putCells (Value.int .i64) (e.base + off) (srt zs).toArray C) t (0, 0)) := by
          apply Array.ext_getElem?
          intro r
          simp only [putRow, mapBlock, Sort.ahead, Array.getElem?_modify]
          by_cases hr : e.blk = r
          ·subst hr
           rw [if_pos rfl, g2, Array.getElem?_setIfInBounds_self_of_lt hblk]; rfl
          ·rw [if_neg hr, Array.getElem?_setIfInBounds_ne hr]
         have s2 := st_heap s1 hp
         have x2 := ext_heap x1 hp rfl rfl rfl
         obtain ⟨s3, x3⟩ := st_grow s2 os
         subst r2
         exact ⟨_, φ, r1, .tup .nil, s3, x2.trans x3⟩
     ·cases hv
    ·cases hv
   ·cases hv
 ·cases hv
end Go.Proofs.Ytfioahnogphnfaa.Eng
end
section
set_option linter.unusedVariables false
namespace Go.Proofs.Ytfioahnogphnfaa.Eng
open Go
def ddF : Option Int → List Int → List Int
 | _, [] => []
 | pv, x :: l => if pv = some x then ddF (some x) l else x :: ddF (some x) l
def ddS (l : List Int) : List Int := ddF none l
def inc (l : List Int) : Prop := l.Pairwise (· ≤ ·)
theorem srt_inc (l : List Int) : inc (srt l) := by
 have := List.pairwise_mergeSort (le := fun x y : Int => decide (x ≤ y)) (fun a b c h1 h2 => by simp only [decide_eq_true_eq] at *; omega) (fun a b => by simp only [Bool.or_eq_true, decide_eq_true_eq]; omega) l
 exact this.imp fun h => by simpa using h
theorem srt_perm (l : List Int) : (srt l).Perm l := List.mergeSort_perm _ _
theorem srt_mem {l : List Int} {x : Int} : x ∈ srt l ↔ x ∈ l := (srt_perm l).mem_iff
theorem ddF_len : ∀ (l : List Int) (pv : Option Int), (ddF pv l).length ≤ l.length
 | [], _ => Nat.le_refl _
 | x :: l, pv => by
  rw [ddF]
  have := ddF_len l (some x)
  split
  ·simp only [List.length_cons]; omega
  ·simp only [List.length_cons]; omega
theorem ddF_sub : ∀ (l : List Int) (pv : Option Int) (x : Int), x ∈ ddF pv l → x ∈ l
 | [], _, _, h => h
 | y :: l, pv, x, h => by
  rw [ddF] at h
  split at h
  ·exact List.mem_cons_of_mem _ (ddF_sub l _ x h)
  ·rcases List.mem_cons.1 h with h | h
   ·exact h ▸ List.mem_cons_self
   ·exact List.mem_cons_of_mem _ (ddF_sub l _ x h)
theorem ddF_mem : ∀ (l : List Int) (pv : Option Int) (x : Int), x ∈ l → x ∈ ddF pv l ∨ pv = some x
 | [], _, _, h => absurd h (by simp)
 | y :: l, pv, x, h => by
  rw [ddF]
  rcases List.mem_cons.1 h with rfl | h
  ·split
   ·rename_i e; exact .inr e
   ·exact .inl List.mem_cons_self
  ·rcases ddF_mem l (some y) x h with q | q
   ·split
    ·exact .inl q
    ·exact .inl (List.mem_cons_of_mem _ q)
   ·injection q with q; subst q
    split
    ·rename_i e; exact .inr e
    ·exact .inl List.mem_cons_self
theorem ddS_mem {l : List Int} {x : Int} : x ∈ ddS l ↔ x ∈ l :=
 ⟨ddF_sub l none x, fun h => (ddF_mem l none x h).elim id fun e => by cases e⟩
theorem ddF_up : ∀ (l : List Int) (pv : Option Int), inc l → (∀ q, pv = some q → ∀ x ∈ l, q ≤ x) → (ddF pv l).Pairwise (· < ·) ∧ ∀ q, pv = some q → ∀ x ∈ ddF pv l, q < x
 | [], pv, _, _ => ⟨List.Pairwise.nil, fun _ _ x h => by cases h⟩
 | y :: l, pv, h, hp => by
  obtain ⟨h1, h2⟩ := List.pairwise_cons.1 h
  have ih := ddF_up l (some y) h2 fun q hq x hx => by injection hq with hq; subst hq; exact h1 x hx
  rw [ddF]
  split
  ·rename_i e
   exact ⟨ih.1, fun q hq x hx => ih.2 q (by rw [← hq, e]) x hx⟩
  ·rename_i e
   refine ⟨List.pairwise_cons.2 ⟨fun x hx => ih.2 y rfl x hx, ih.1⟩, fun q hq x hx => ?_⟩
   have hy := hp q hq y (by simp)
   have hn : q ≠ y := fun h => e (by rw [hq, h])
   rcases List.mem_cons.1 hx with rfl | hx
   ·omega
   ·have := ih.2 y rfl x hx; omega
theorem ddS_up {l : List Int} (h : inc l) : (ddS l).Pairwise (· < ·) := (ddF_up l none h fun q hq => by cases hq).1
def usd (l : List Int) : List Int := ddS (srt l)
theorem usd_up (l : List Int) : (usd l).Pairwise (· < ·) := ddS_up (srt_inc l)
theorem usd_mem {l : List Int} {x : Int} : x ∈ usd l ↔ x ∈ l := ddS_mem.trans srt_mem
theorem usd_len (l : List Int) : (usd l).length ≤ l.length := by
 have := ddF_len (srt l) none
 rw [srt_len] at this
 exact this
theorem up_ext : ∀ {l m : List Int}, l.Pairwise (· < ·) → m.Pairwise (· < ·) → (∀ x, x ∈ l ↔ x ∈ m) → l = m
 | [], [], _, _, _ => rfl
 | [], y :: m, _, _, h => absurd ((h y).2 (by simp)) (by simp)
 | x :: l, [], _, _, h => absurd ((h x).1 (by simp)) (by simp)
 | x :: l, y :: m, h1, h2, h => by
  obtain ⟨a1, a2⟩ := List.pairwise_cons.1 h1
  obtain ⟨b1, b2⟩ := List.pairwise_cons.1 h2
  have e : x = y := by
   rcases List.mem_cons.1 ((h x).1 (by simp)) with q | q
   ·exact q
   ·rcases List.mem_cons.1 ((h y).2 (by simp)) with r | r
    ·exact r.symm
    ·have := a1 y r; have := b1 x q; omega
  subst e
  rw [up_ext a2 b2 fun z => by
   constructor
   ·intro hz
    rcases List.mem_cons.1 ((h z).1 (by simp [hz])) with q | q
    ·have := a1 z hz; omega
    ·exact q
   ·intro hz
    rcases List.mem_cons.1 ((h z).2 (by simp [hz])) with q | q
    ·have := b1 z hz; omega
    ·exact q]
theorem up_nodup {l : List Int} (h : l.Pairwise (· < ·)) : l.Nodup := h.imp fun h e => by omega
theorem ddF_nodup : ∀ (l : List Int) (pv : Option Int), l.Nodup → (∀ q, pv = some q → q ∉ l) → ddF pv l = l
 | [], _, _, _ => rfl
 | x :: l, pv, h, hp => by
  obtain ⟨h1, h2⟩ := List.nodup_cons.1 h
  rw [ddF, if_neg (fun e => hp x e (by simp)), ddF_nodup l (some x) h2 fun q hq => by injection hq with hq; subst hq; exact h1]
theorem usd_nodup {l : List Int} (h : l.Nodup) : (usd l).length = l.length := by
 unfold usd ddS
 rw [ddF_nodup (srt l) none ((srt_perm l).nodup_iff.2 h) fun q hq => by cases hq]
 exact srt_len l
def wth (a : Int) (l : List Int) : Nat := (l.filter fun x => decide (0 ≤ x) && decide (x < a)).length
theorem wth_nil (a : Int) : wth a [] = 0 := rfl
theorem wth_cons (a x : Int) (l : List Int) : wth a (x :: l) = (if 0 ≤ x ∧ x < a then 1 else 0) + wth a l := by
 unfold wth
 rw [List.filter_cons]
 by_cases h : 0 ≤ x ∧ x < a
 ·rw [if_pos h, if_pos (by simp [h]), List.length_cons]; omega
 ·rw [if_neg h, if_neg (by simp; omega)]; omega
theorem wth_app (a : Int) (l m : List Int) : wth a (l ++ m) = wth a l + wth a m := by unfold wth; rw [List.filter_append, List.length_append]
def freeB (u : List Int) : Nat → List Int
 | 0 => []
 | n + 1 => freeB u n ++ (if (n : Int) ∈ u then [] else [(n : Int)])
theorem wth_step {u : List Int} (h : u.Nodup) (n : Nat) : wth ((n + 1 : Nat) : Int) u = wth (n : Int) u + (if (n : Int) ∈ u then 1 else 0) := by
 induction u with
 | nil => simp [wth]
 | cons x u ih =>
  obtain ⟨h1, h2⟩ := List.nodup_cons.1 h
  rw [wth_cons, wth_cons, ih h2]
  by_cases e : x = n
  ·subst e
   rw [if_neg h1, if_pos (by omega), if_neg (by omega), if_pos (by simp)]; omega
  ·have : ((n : Int) ∈ x :: u) ↔ (n : Int) ∈ u := by simp [Ne.symm e]
   by_cases hu : (n : Int) ∈ u
   ·rw [if_pos hu, if_pos (this.2 hu)]
    by_cases q : 0 ≤ x ∧ x < (n : Int)
    ·rw [if_pos (by omega), if_pos q]; omega
    ·rw [if_neg (by omega), if_neg q]; omega
   ·rw [if_neg hu, if_neg (fun w => hu (this.1 w))]
    by_cases q : 0 ≤ x ∧ x < (n : Int)
    ·rw [if_pos (by omega), if_pos q]; omega
    ·rw [if_neg (by omega), if_neg q]; omega
theorem free_all {u : List Int} (h : u.Nodup) : ∀ n : Nat, (freeB u n).length + wth n u = n
 | 0 => by
  have : wth ((0 : Nat) : Int) u = 0 := by
   unfold wth
   rw [List.length_eq_zero_iff, List.filter_eq_nil_iff]
   intro x _; simp
  rw [this]; rfl
 | n + 1 => by
  have ih := free_all h n
  rw [wth_step h, freeB, List.length_append]
  split
  ·simp; omega
  ·simp; omega
end Go.Proofs.Ytfioahnogphnfaa.Eng
end
section
namespace Go.Proofs.Ytfioahnogphnfaa.Eng
open Go Go.ChangeShapes Go.WideShapes Go.ChangeAt Go.RowKit
variable {P : Program} {H : Type} {enc : TypeId × Value → H}
end Go.Proofs.Ytfioahnogphnfaa.Eng
end
