/- What the functions that ChainCuts reaches answer, for every argument. No condition but those in each statement. -/
import Derived.Test.YthhodjcgcgkaaaaGRB
import Derived.Test.YthhodjcgcgkaaaaGRA
set_option linter.unusedSimpArgs false
set_option linter.unusedVariables false
set_option linter.unusedSectionVars false
set_option maxRecDepth 10000
section
namespace Go.Proofs.Ythhodjcgcgkaaaa.G11
open Go Go.Proofs.Ythhodjcgcgkaaaa.Eng
def atsF : List PrS → List Int → Bool
 | [], _ => true
 | p :: l, ats => !ats.contains p.2 && atsF l (ats ++ [p.2])
def pvOk (pv : Option Int) (id : Int) : Bool := match pv with | none => true | some q => decide (q < id)
def cgoodF (bl ar : Int) : List SnS → Option Int → List Int → Bool
 | [], _, _ => true
 | s :: L, pv, ats => oneS s bl ar L.isEmpty && (pvOk pv s.id && (atsF s.tb ats && cgoodF bl ar L (some s.id) (ats ++ s.tb.map (·.2))))
def cgood (L : List SnS) (bl ar : Int) : Bool := decide (L.length ≤ 8) && cgoodF bl ar L none []
def pvAt (L : List SnS) (i : Nat) : Option Int := if i = 0 then none else (L[i - 1]?).map (·.id)
noncomputable abbrev GooL (s : LoopState) (e : Ex) (t : T) : ABlk := .loop ⟨s, e, t, [17, 18], kaq14x0, kbq14x0⟩
structure GooY (H : AHeap) (v : AV) (bl ar : Int) (ats : List Int) (s : LoopState) (e : Ex) (t : T) (w : AV) (K : AHeap) : Prop where
 old : ∀ b, b < H.length → K[b]? = H[b]?
 len : H.length + 8 ≤ K.length
 vb : K[H.length]? = some (.rw [v])
 bb : K[H.length + 1]? = some (.rw [.int .i64 bl])
 ab : K[H.length + 2]? = some (.rw [.int .i64 ar])
 rb : K[H.length + 3]? = some (.rw [.bool false])
 wb : K[H.length + 4]? = some (.rw [w])
 lb : K[H.length + 5]? = some (.rw [v])
 lp : K[H.length + 7]? = some (GooL s e t)
 fs : FS K (H.length + 8) w ats
theorem GooY.step {H K K' : AHeap} {v : AV} {bl ar : Int} {ats ats' : List Int} {s s' : LoopState} {e e' : Ex} {t : T} {w w' : AV} (y : GooY H v bl ar ats s e t w K) (a : ∀ b, b < H.length + 8 → b ≠ H.length + 4 → b ≠ H.length + 6 → b ≠ H.length + 7 → K'[b]? = K[b]?) (l : H.length + 8 ≤ K'.length) (wb : K'[H.length + 4]? = some (.rw [w'])) (lp : K'[H.length + 7]? = some (GooL s' e' t)) (fs : FS K' (H.length + 8) w' ats') : GooY H v bl ar ats' s' e' t w' K' :=
 ⟨fun b hb => by rw [a b (by omega) (by omega) (by omega) (by omega)]; exact y.old b hb, l, by rw [a _ (by omega) (by omega) (by omega) (by omega)]; exact y.vb, by rw [a _ (by omega) (by omega) (by omega) (by omega)]; exact y.bb, by rw [a _ (by omega) (by omega) (by omega) (by omega)]; exact y.ab, by rw [a _ (by omega) (by omega) (by omega) (by omega)]; exact y.rb, wb, by rw [a _ (by omega) (by omega) (by omega) (by omega)]; exact y.lb, lp, fs⟩
structure GooP (H : AHeap) (v : AV) (L : List SnS) (bl ar : Int) (ans : Bool) (t : T) (i : Nat) (K : AHeap) : Prop where
 ex : ∃ w ats, GooY H v bl ar ats .ready .normal t w K ∧ ans = cgoodF bl ar (L.drop i) (pvAt L i) ats ∧ ats.length ≤ 1000 * i
 ib : K[H.length + 6]? = some (.rw [.int .i64 (i : Int)])
theorem FS.out {K : AHeap} {B : Nat} {v : AV} {zs : List Int} (g : FS K B v zs) : ∀ b, slb v = some b → B ≤ b ∧ b < K.length := GR.out g
theorem FS.frT {K K' : AHeap} {F : Nat → Prop} {B : Nat} {v : AV} {zs : List Int} (g : FS K B v zs) (a : Fr K K' F) (n : ∀ b, slb v = some b → ¬ F b) : FS K' B v zs := GR.frS g a n
section
variable {H : AHeap} {v : AV} {bl ar : Int} {s : SnS} {vt : AV} (pt : IsP H vt s.tb) (ft : s.Fit)
include pt ft
set_option maxHeartbeats 8000000 in
theorem gooL {t0 : T} {i0 : Int} : ∀ (k i : Nat) (K : AHeap) (w : AV) (ats : List Int) (t : T), t.length = 61 → getT t 6 = .ptr (H.length + 3) 0 → getT t 7 = .ptr (H.length + 4) 0 → getT t 45 = vt → getT t 46 = .int .i64 (s.tb.length : Int) → getT t 47 = .int .i64 (i : Int) →
  GooY H v bl ar ats .busy .normal t0 w K → K[H.length + 6]? = some (.rw [.int .i64 i0]) → ats.length ≤ 10000 + i → i + k = s.tb.length →
  Outs (LP1 l14x0 t K) fun e t' K' => K'[H.length + 6]? = some (.rw [.int .i64 i0]) ∧ K.length ≤ K'.length ∧ ∃ w' ats', GooY H v bl ar ats' .busy .normal t0 w' K' ∧ ((e = .exit 2 ∧ atsF (s.tb.drop i) ats = true ∧ ats' = ats ++ (s.tb.drop i).map (·.2)) ∨ (e = .ret ∧ atsF (s.tb.drop i) ats = false)) := by
 intro k
 obtain ⟨L0, hL0⟩ : ∃ L, L = LP1 l14x0 := ⟨_, rfl⟩
 have lo := loop_open hL0
 have lt1 := ft.lt
 rw [← hL0]
 induction k with
 | zero =>
  intro i K w ats t ht t6 t7 t45 t46 t47 y ib al hi
  obtain rfl : i = s.tb.length := by omega
  have hd : decide ((s.tb.length : Int) < (s.tb.length : Int)) = false := by simp
  rw [lo, List.drop_length]
  unfold l14x0
  simp -implicitDefEqProofs (maxSteps := 5000000) only [go_sem, Nat.reduceShiftRight, Nat.reduceAnd, Nat.reduceBNe, Int.reduceEq, Nat.reduceAdd, Nat.reduceSub, Nat.reduceMul, Nat.reduceLeDiff, reduceIte, reduceCtorEq, Nat.reduceBEq, Nat.reduceEqDiff, getT_set, ht, t45, t46, t47, List.length_set, Nat.reduceLT, hd, seqR_exit', outs_normal]
  exact ⟨ib, w, ats, y, .inl ⟨rfl, by simp⟩⟩
 | succ k ih =>
  intro i K w ats t ht t6 t7 t45 t46 t47 y ib al hi
  have hlt : i < s.tb.length := by omega
  have hd : decide ((i : Int) < (s.tb.length : Int)) = true := decide_eq_true (by omega)
  have e2 : IntKind.i64.wrap ((i : Int) + 1) = ((i + 1 : Nat) : Int) := by rw [wrap64 (by omega) (by omega)]; omega
  have hx := List.getElem?_eq_getElem hlt
  rw [List.drop_eq_getElem_cons hlt, atsF, List.map_cons]
  generalize s.tb[i] = p at *
  have aK : Adds H K := Adds.of_get (by have := y.len; omega) y.old
  have kl := y.len
  obtain ⟨bb, cs, sb, ix, hc0, h1, h2, hh, hle⟩ := pt.idx hx
  have hc := aK.cells hc0
  unfold prC at hh
  obtain ⟨K1, hK1⟩ : ∃ K1, K1 = K ++ [ABlk.rw [.int .i64 p.1, .int .i64 p.2]] := ⟨_, rfl⟩
  have A1 : Adds K K1 := ⟨_, hK1⟩
  have l1 : K1.length = K.length + 1 := by rw [hK1]; simp
  have cp : cellsOf K1 K.length = some [.int .i64 p.1, .int .i64 p.2] := by rw [hK1]; unfold cellsOf; simp
  have w1 := A1.at y.wb
  have cw := cells_rw w1
  have f1 : FS K1 (H.length + 8) w ats := y.fs.frT (Fr.adds A1 (fun _ => False)) fun _ _ h => h
  have ec := containsC f1 (by omega) p.2
  have hK1 := hK1.symm
  have key := ih (i + 1)
  have at1 : ∀ z, z < K.length → K1[z]? = K[z]? := fun z hz => by rw [← hK1, List.getElem?_append_left hz]
  rcases hh2 : ats.contains p.2 with _ | _
  ·rw [hh2] at ec
   obtain ⟨K2, hK2⟩ : ∃ K2, K2 = K1 ++ [ABlk.rw [.int .i64 p.2]] := ⟨_, rfl⟩
   have A2 : Adds K1 K2 := ⟨_, hK2⟩
   have l2 : K2.length = K1.length + 1 := by rw [hK2]; simp
   have c2 : cellsOf K2 K1.length = some [.int .i64 p.2] := by rw [hK2]; unfold cellsOf; simp
   obtain ⟨w', K3, ep, f3, fr3, sb3, l3⟩ := FS.push (f1.frT (Fr.adds A2 (fun _ => False)) fun _ _ h => h) c2 (by omega) (by omega)
   have wg := f1.out
   have at3 : ∀ z, z < H.length + 8 → K3[z]? = K[z]? := fun z hz => by
    rw [fr3.2 z (by omega) (fun h => by have := (wg z h).1; omega), hK2, List.getElem?_append_left (by omega), at1 z (by omega)]
   have w3 : K3[H.length + 4]? = some (.rw [w]) := by rw [at3 _ (by omega)]; exact y.wb
   have cw' : cellsA w' = some [w'] ∧ w'.isCell = true := by
    rcases f3 with ⟨_, rfl⟩ | ⟨_, _, _, rfl, _⟩ <;> exact ⟨rfl, rfl⟩
   have wr := write_one (y := w') w3 cw'.2
   obtain ⟨K4, hK4⟩ : ∃ K4, K4 = K3.set (H.length + 4) (ABlk.rw [w']) := ⟨_, rfl⟩
   rw [← hK4] at wr
   have at4 : ∀ z, z < H.length + 8 → z ≠ H.length + 4 → K4[z]? = K[z]? := fun z hz h4 => by rw [hK4, at_set_ne _ _ _ _ h4]; exact at3 z hz
   have l4 : K4.length = K.length + 3 := by rw [hK4, List.length_set, l3]; omega
   have y4 : GooY H v bl ar (ats ++ [p.2]) .busy .normal t0 w' K4 := y.step (fun z hz h4 _ _ => at4 z hz h4) (by omega) (by rw [hK4]; exact at_set _ _ _ (by omega)) (by rw [at4 _ (by omega) (by omega)]; exact y.lp) (f3.frT (by rw [hK4]; exact Fr.set _ _ (F := fun z => z = H.length + 4) rfl) fun z hz h => by have := (FS.out f3 z hz).1; omega)
   have hK2 := hK2.symm
   have cwK2 := cells_rw (A2.at w1)
   have cp2 := A2.cells cp
   rw [lo]
   unfold l14x0
   simp -implicitDefEqProofs (maxSteps := 5000000) only [go_sem, Nat.reduceShiftRight, Nat.reduceAnd, Nat.reduceBNe, Int.reduceEq, Nat.reduceAdd, Nat.reduceSub, Nat.reduceMul, Nat.reduceLeDiff, reduceIte, reduceCtorEq, Nat.reduceBEq, Nat.reduceEqDiff, wrap64, runC_loop, runC_range, callF_fn, callV_fn, callV_yld, yield_eq, yieldBody, yieldRaw, roundMid, roundEnd, rangeEnd, Bool.not_not, put_cons, put_nil, trim_same, at_zero, at_add, set_zero, set_add, store_one, write_zero, write_add, write_head, write_succ, splice_one, splice_more, List.drop_nil, List.take_nil, cell_int, cell_bool, fillS, splice_one, idxA, Ex.isNormal, List.set_nil, List.length_set, List.all_cons, List.all_nil, Bool.and_self, and_self, true_and, and_true, List.getElem?_nil, Int.reduceLT, Int.reduceLE, Int.reduceToNat, Int.toNat_zero, Int.toNat_one, Int.reduceAdd, Int.reduceSub, Int.reduceMul, Int.reduceNeg, Int.reduceBEq, Int.reduceBNe, Int.reduceGE, Int.reduceGT, Nat.reduceLT, trim_keep, under_fn, under_ptr, under_sl, Nat.lt_irrefl, not_lt_add, trim_tail, keepOk, ABlk.vals, Int.cast_ofNat_Int, decide_true, decide_false, List.all_cons, List.all_nil, Nat.zero_mul, Nat.mul_one, Nat.one_mul, getT_set, ht, t6, t7, t45, t46, t47, List.length_set, Nat.reduceLT, hd, ix, hc, hh, hle, hK1, cw, cp, ec, hK2, ep, cw'.1, wr, e2]
   refine Outs.mono (key K4 w' (ats ++ [p.2]) _ (by simp [ht]) (by simp [getT_set, ht, t6]) (by simp [getT_set, ht, t7]) (by simp [getT_set, ht, t45]) (by simp [getT_set, ht, t46]) (by simp [getT_set, ht]) y4 (by rw [at4 _ (by omega) (by omega)]; exact ib) (by rw [List.length_append, List.length_singleton]; omega) (by omega)) fun e t' K' ⟨q1, q2, w2, ats2, q3, q4⟩ => ⟨q1, by omega, w2, ats2, q3, ?_⟩
   rcases q4 with ⟨rfl, q4, q5⟩ | ⟨rfl, q4⟩
   ·exact .inl ⟨rfl, q4, by rw [q5, List.append_assoc]; rfl⟩
   ·exact .inr ⟨rfl, q4⟩
  ·rw [hh2] at ec
   have r1 := A1.at y.rb
   have wr := write_one (y := .bool false) r1 rfl
   obtain ⟨K4, hK4⟩ : ∃ K4, K4 = K1.set (H.length + 3) (ABlk.rw [.bool false]) := ⟨_, rfl⟩
   rw [← hK4] at wr
   have at4 : ∀ z, z < K.length → K4[z]? = K[z]? := fun z hz => by
    rw [hK4]
    by_cases h3 : z = H.length + 3
    ·subst h3; rw [at_set _ _ _ (by omega)]; exact y.rb.symm
    ·rw [at_set_ne _ _ _ _ h3]; exact at1 z hz
   have l4 : K4.length = K.length + 1 := by rw [hK4, List.length_set, l1]
   have a4 : Adds K K4 := Adds.of_get (by omega) at4
   have y4 : GooY H v bl ar ats .busy .normal t0 w K4 := y.step (fun z hz _ _ _ => at4 z (by omega)) (by omega) (by rw [at4 _ (by omega)]; exact y.wb) (by rw [at4 _ (by omega)]; exact y.lp) (y.fs.frT (Fr.adds a4 (fun _ => False)) fun _ _ h => h)
   rw [lo]
   unfold l14x0
   simp -implicitDefEqProofs (maxSteps := 5000000) only [go_sem, Nat.reduceShiftRight, Nat.reduceAnd, Nat.reduceBNe, Int.reduceEq, Nat.reduceAdd, Nat.reduceSub, Nat.reduceMul, Nat.reduceLeDiff, reduceIte, reduceCtorEq, Nat.reduceBEq, Nat.reduceEqDiff, wrap64, runC_loop, runC_range, callF_fn, callV_fn, callV_yld, yield_eq, yieldBody, yieldRaw, roundMid, roundEnd, rangeEnd, Bool.not_not, put_cons, put_nil, trim_same, at_zero, at_add, set_zero, set_add, store_one, write_zero, write_add, write_head, write_succ, splice_one, splice_more, List.drop_nil, List.take_nil, cell_int, cell_bool, fillS, splice_one, idxA, Ex.isNormal, List.set_nil, List.length_set, List.all_cons, List.all_nil, Bool.and_self, and_self, true_and, and_true, List.getElem?_nil, Int.reduceLT, Int.reduceLE, Int.reduceToNat, Int.toNat_zero, Int.toNat_one, Int.reduceAdd, Int.reduceSub, Int.reduceMul, Int.reduceNeg, Int.reduceBEq, Int.reduceBNe, Int.reduceGE, Int.reduceGT, Nat.reduceLT, trim_keep, under_fn, under_ptr, under_sl, Nat.lt_irrefl, not_lt_add, trim_tail, keepOk, ABlk.vals, Int.cast_ofNat_Int, decide_true, decide_false, List.all_cons, List.all_nil, Nat.zero_mul, Nat.mul_one, Nat.one_mul, getT_set, ht, t6, t7, t45, t46, t47, List.length_set, Nat.reduceLT, hd, ix, hc, hh, hle, hK1, cw, cp, ec, wr, outs_normal]
   exact ⟨by rw [at4 _ (by omega)]; exact ib, by omega, w, ats, y4, .inr trivial⟩
end
theorem pvAt_succ {L : List SnS} {i : Nat} {s : SnS} (h : L[i]? = some s) : pvAt L (i + 1) = some s.id := by
 unfold pvAt; rw [if_neg (by omega), Nat.add_sub_cancel, h]; rfl
section
variable {H : AHeap} {v : AV} {L : List SnS} (g : IsC H v L) (fi : Fits L) (h8 : L.length ≤ 8) {bl : Int} (hbl : bl ≤ 9223372036854775807) (ar : Int)
include g fi h8 hbl
set_option maxHeartbeats 8000000 in
theorem gooRound {ans : Bool} {t : T} (ht : t.length = 61) (t3 : getT t 3 = .ptr H.length 0) (t4 : getT t 4 = .ptr (H.length + 1) 0) (t5 : getT t 5 = .ptr (H.length + 2) 0) (t6 : getT t 6 = .ptr (H.length + 3) 0) (t7 : getT t 7 = .ptr (H.length + 4) 0) {i : Nat} {K : AHeap} {s : SnS} {vc vt : AV} (y : GooP H v L bl ar ans t i K) (hx : L[i]? = some s) (hbs : BS H vc s.ch) (hip : IsP H vt s.tb) :
  ∃ K', ((envL prog).yield (H.length + 7) [.int .i64 (i : Int), .agg [.int .i64 s.id, vc, vt]] K = some (.bool true, K') ∧ K'[H.length + 6]? = some (.rw [.int .i64 (i : Int)]) ∧ GooP H v L bl ar ans t (i + 1) (K'.set (H.length + 6) (.rw [.int .i64 ((i + 1 : Nat) : Int)]))) ∨ ((envL prog).yield (H.length + 7) [.int .i64 (i : Int), .agg [.int .i64 s.id, vc, vt]] K = some (.bool false, K') ∧ ans = false ∧ ∃ w ats, GooY H v bl ar ats .done .ret t w K') := by
 obtain ⟨⟨w, ats, y, inv, al⟩, ib⟩ := y
 have kl := y.len
 have ft := fits_get fi hx
 have lt := (List.getElem?_eq_some_iff.1 hx).1
 rw [List.drop_eq_getElem_cons lt, Option.some.inj ((List.getElem?_eq_getElem lt).symm.trans hx), cgoodF] at inv
 have aK : Adds H K := Adds.of_get (by omega) y.old
 have bK := aK.bs hbs
 have pK := hip.adds aK
 have w0 := snAlloc bK pK
 obtain ⟨Kb, hKb⟩ : ∃ Kb, Kb = (K ++ [ABlk.rw [.int .i64 s.id, vc, vt]]).set (H.length + 7) (GooL .busy .normal t) := ⟨_, rfl⟩
 have lb : Kb.length = K.length + 1 := by rw [hKb]; exact busy_len
 have fb : ∀ b, b < K.length → b ≠ H.length + 7 → Kb[b]? = K[b]? := fun b hb hn => by rw [hKb]; exact busy_at hb hn
 have b6 : Kb[K.length]? = some (.rw [.int .i64 s.id, vc, vt]) := by rw [hKb]; exact busy_new (by omega)
 have frb : Fr K Kb (fun b => b = H.length + 7) := by rw [hKb]; exact busy_fr
 have yb : GooY H v bl ar ats .busy .normal t w Kb := y.step (fun b hb _ _ h7 => fb b (by omega) h7) (by omega) (by rw [fb _ (by omega) (by omega)]; exact y.wb) (by rw [hKb]; exact busy_lp (by omega)) (y.fs.frT frb fun z hz h => by have := (FS.out y.fs z hz).1; omega)
 have ib2 : Kb[H.length + 6]? = some (.rw [.int .i64 (i : Int)]) := by rw [fb _ (by omega) (by omega)]; exact ib
 have aKb : Adds H Kb := Adds.of_get (by omega) yb.old
 have c6 := cells_rw b6
 have c3 := cells_rw yb.vb
 have c4 := cells_rw yb.bb
 have c5 := cells_rw yb.ab
 have wl := g.len
 have e1 : IntKind.i64.wrap ((L.length : Int) - 1) = (L.length : Int) - 1 := wrap64 (by omega) (by omega)
 have hlast : ((i : Int) == (L.length : Int) - 1) = (L.drop (i + 1)).isEmpty := by
  by_cases h : i + 1 = L.length
  ·rw [List.drop_eq_nil_of_le (by omega), show (L.length : Int) - 1 = (i : Int) by omega]; simp
  ·have : (L.drop (i + 1)).isEmpty = false := by
    cases hq : L.drop (i + 1) with
    | nil => have := congrArg List.length hq; rw [List.length_drop] at this; simp at this; omega
    | cons _ _ => rfl
   rw [this, beq_eq_false_iff_ne]; omega
 have eo := oneC (aKb.bs hbs) (hip.adds aKb) ft hbl ar (L.drop (i + 1)).isEmpty
 have r1 := yb.rb
 have wr := write_one (y := .bool false) r1 rfl
 have Kbs : Kb.set (H.length + 3) (.rw [.bool false]) = Kb := by
  apply List.ext_getElem?
  intro z
  by_cases h3 : z = H.length + 3
  ·subst h3; rw [at_set _ _ _ (by omega)]; exact r1.symm
  ·rw [at_set_ne _ _ _ _ h3]
 rw [Kbs] at wr
 have wt := hip.len
 have il : IntKind.i64.wrap ((i : Int) - 1) = (i : Int) - 1 := wrap64 (by omega) (by omega)
 obtain ⟨e, K2, K4, r, ey, h4⟩ := round_gen (P := prog) (l := H.length + 7) (args := [.int .i64 (i : Int), .agg [.int .i64 s.id, vc, vt]]) (K := K) (eaq14x0 _) (ebq14x0 _) y.lp rfl (t1 := (((t.set 17 (.int .i64 (i : Int))).set 18 (.agg [.int .i64 s.id, vc, vt])).set 8 (.int .i64 (i : Int))).set 9 (.ptr K.length 0)) (cs := [.int .i64 s.id, vc, vt]) (by
   unfold aq14x0
   simp -implicitDefEqProofs (maxSteps := 5000000) only [go_sem, Nat.reduceShiftRight, Nat.reduceAnd, Nat.reduceBNe, Int.reduceEq, Nat.reduceAdd, Nat.reduceSub, Nat.reduceMul, Nat.reduceLeDiff, reduceIte, reduceCtorEq, Nat.reduceBEq, Nat.reduceEqDiff, putParams, getT_set, ht, List.length_set, Nat.reduceLT, store_one, cellsA_agg, w0])
  (R := fun e K2 => K2[H.length + 6]? = some (.rw [.int .i64 (i : Int)]) ∧ K.length + 1 ≤ K2.length ∧ ∃ w' ats', GooY H v bl ar ats' .busy .normal t w' K2 ∧ ((e = .normal ∧ ans = cgoodF bl ar (L.drop (i + 1)) (some s.id) ats' ∧ ats' = ats ++ s.tb.map (·.2)) ∨ (e = .ret ∧ ans = false))) (by
   rw [← hKb]
   unfold bq14x0
   generalize hR : (fun (e : Ex) (_ : T) (K2 : AHeap) => K2[H.length + 6]? = some (ABlk.rw [AV.int .i64 (i : Int)]) ∧ K.length + 1 ≤ K2.length ∧ ∃ w' ats', GooY H v bl ar ats' .busy .normal t w' K2 ∧ ((e = .normal ∧ ans = cgoodF bl ar (L.drop (i + 1)) (some s.id) ats' ∧ ats' = ats ++ s.tb.map (·.2)) ∨ (e = .ret ∧ ans = false))) = Q
   have stay : ans = false → Q .ret [] Kb := fun h => by rw [← hR]; exact ⟨ib2, by omega, w, ats, yb, .inr ⟨rfl, h⟩⟩
   rcases h1 : oneS s bl ar (L.drop (i + 1)).isEmpty with _ | _
   ·rw [h1] at eo inv
    simp -implicitDefEqProofs (maxSteps := 5000000) only [go_sem, Nat.reduceShiftRight, Nat.reduceAnd, Nat.reduceBNe, Int.reduceEq, Nat.reduceAdd, Nat.reduceSub, Nat.reduceMul, Nat.reduceLeDiff, reduceIte, reduceCtorEq, Nat.reduceBEq, Nat.reduceEqDiff, wrap64, runC_loop, runC_range, callF_fn, callV_fn, callV_yld, yield_eq, yieldBody, yieldRaw, roundMid, roundEnd, rangeEnd, Bool.not_not, put_cons, put_nil, trim_same, at_zero, at_add, set_zero, set_add, store_one, write_zero, write_add, write_head, write_succ, splice_one, splice_more, List.drop_nil, List.take_nil, cell_int, cell_bool, fillS, splice_one, idxA, Ex.isNormal, List.set_nil, List.length_set, List.all_cons, List.all_nil, Bool.and_self, and_self, true_and, and_true, List.getElem?_nil, Int.reduceLT, Int.reduceLE, Int.reduceToNat, Int.toNat_zero, Int.toNat_one, Int.reduceAdd, Int.reduceSub, Int.reduceMul, Int.reduceNeg, Int.reduceBEq, Int.reduceBNe, Int.reduceGE, Int.reduceGT, Nat.reduceLT, trim_keep, under_fn, under_ptr, under_sl, Nat.lt_irrefl, not_lt_add, trim_tail, keepOk, ABlk.vals, Int.cast_ofNat_Int, decide_true, decide_false, List.all_cons, List.all_nil, Nat.zero_mul, Nat.mul_one, Nat.one_mul, getT_set, ht, t3, t4, t5, t6, t7, List.length_set, Nat.reduceLT, c3, c4, c5, c6, wl, e1, hlast, eo, wr, outs_normal]
    have := stay inv
    rw [← hR] at this ⊢
    exact this
   rw [h1] at eo inv
   have go : pvOk (pvAt L i) s.id = true → ans = (atsF s.tb ats && cgoodF bl ar (L.drop (i + 1)) (some s.id) (ats ++ s.tb.map (·.2))) := fun h => by rw [inv, h]; rfl
   have loop : ans = (atsF s.tb ats && cgoodF bl ar (L.drop (i + 1)) (some s.id) (ats ++ s.tb.map (·.2))) → ∀ T1 : T, T1.length = 61 → getT T1 6 = .ptr (H.length + 3) 0 → getT T1 7 = .ptr (H.length + 4) 0 → getT T1 45 = vt → getT T1 46 = .int .i64 (s.tb.length : Int) → getT T1 47 = .int .i64 0 → Outs (LP1 l14x0 T1 Kb) fun e t' K' => Q (match e with | .exit 2 => .normal | e => e) t' K' ∧ (e = .exit 2 ∨ e = .ret) := fun hans T1 q0 q1 q2 q3 q4 q5 => by
    refine (gooL hip ft (t0 := t) (i0 := (i : Int)) s.tb.length 0 Kb w ats T1 q0 q1 q2 q3 q4 q5 yb ib2 (by omega) (by omega)).mono fun e t' K' ⟨z1, z2, w', ats', z3, z4⟩ => ?_
    rw [← hR]
    rw [List.drop_zero] at z4
    rcases z4 with ⟨rfl, z4, z5⟩ | ⟨rfl, z4⟩
    ·exact ⟨⟨z1, by omega, w', ats', z3, .inl ⟨rfl, by rw [hans, z4, z5]; rfl, z5⟩⟩, .inl rfl⟩
    ·exact ⟨⟨z1, by omega, w', ats', z3, .inr ⟨rfl, by rw [hans, z4]; rfl⟩⟩, .inr rfl⟩
   cases i with
   | zero =>
    have lp := loop (go rfl)
    have dz : decide ((0 : Int) > 0) = false := rfl
    rw [show ((0 : Nat) : Int) = 0 from rfl] at hlast
    simp -implicitDefEqProofs (maxSteps := 5000000) only [go_sem, Nat.reduceShiftRight, Nat.reduceAnd, Nat.reduceBNe, Int.reduceEq, Nat.reduceAdd, Nat.reduceSub, Nat.reduceMul, Nat.reduceLeDiff, reduceIte, reduceCtorEq, Nat.reduceBEq, Nat.reduceEqDiff, wrap64, runC_loop, runC_range, callF_fn, callV_fn, callV_yld, yield_eq, yieldBody, yieldRaw, roundMid, roundEnd, rangeEnd, Bool.not_not, put_cons, put_nil, trim_same, at_zero, at_add, set_zero, set_add, store_one, write_zero, write_add, write_head, write_succ, splice_one, splice_more, List.drop_nil, List.take_nil, cell_int, cell_bool, fillS, splice_one, idxA, Ex.isNormal, List.set_nil, List.length_set, List.all_cons, List.all_nil, Bool.and_self, and_self, true_and, and_true, List.getElem?_nil, Int.reduceLT, Int.reduceLE, Int.reduceToNat, Int.toNat_zero, Int.toNat_one, Int.reduceAdd, Int.reduceSub, Int.reduceMul, Int.reduceNeg, Int.reduceBEq, Int.reduceBNe, Int.reduceGE, Int.reduceGT, Nat.reduceLT, trim_keep, under_fn, under_ptr, under_sl, Nat.lt_irrefl, not_lt_add, trim_tail, keepOk, ABlk.vals, Int.cast_ofNat_Int, decide_true, decide_false, List.all_cons, List.all_nil, Nat.zero_mul, Nat.mul_one, Nat.one_mul, runC_loop, getT_set, ht, t3, t4, t5, t6, t7, List.length_set, Nat.reduceLT, c3, c4, c5, c6, wl, e1, hlast, eo, dz, wt]
    unfold LP1 at lp
    generalize (envL prog).loop (runC (envL prog) (l14x0 (envL prog))) = LL at lp ⊢
    refine outs_ctx (fun x => blockR 1 (blockR 2 x)) (lp _ (by simp [ht]) (by simp [getT_set, ht, t6]) (by simp [getT_set, ht, t7]) (by simp [getT_set, ht]) (by simp [getT_set, ht]) (by simp [getT_set, ht])) ?_
    rintro e t' K' ⟨q1, rfl | rfl⟩
    ·simp -implicitDefEqProofs (maxSteps := 5000000) only [go_sem, Nat.reduceShiftRight, Nat.reduceAnd, Nat.reduceBNe, Int.reduceEq, Nat.reduceAdd, Nat.reduceSub, Nat.reduceMul, Nat.reduceLeDiff, reduceIte, reduceCtorEq, Nat.reduceBEq, Nat.reduceEqDiff, outs_normal]
     exact q1
    ·simp -implicitDefEqProofs (maxSteps := 5000000) only [go_sem, Nat.reduceShiftRight, Nat.reduceAnd, Nat.reduceBNe, Int.reduceEq, Nat.reduceAdd, Nat.reduceSub, Nat.reduceMul, Nat.reduceLeDiff, reduceIte, reduceCtorEq, Nat.reduceBEq, Nat.reduceEqDiff, outs_normal]
     exact q1
   | succ n =>
    have hn : n < L.length := by omega
    have hy := List.getElem?_eq_getElem hn
    have hpv : pvAt L (n + 1) = some L[n].id := pvAt_succ hy
    obtain ⟨bb, cs, uc, ut, sb, ix, hc0, h1', h2, h3, hh, hle, _⟩ := g.idx hy
    have hc := aKb.cells hc0
    have dz : decide (((n + 1 : Nat) : Int) > 0) = true := decide_eq_true (by omega)
    have il2 : IntKind.i64.wrap (((n + 1 : Nat) : Int) - 1) = (n : Int) := by rw [wrap64 (by omega) (by omega)]; omega
    by_cases hle2 : s.id ≤ L[n].id
    ·have dl := decide_eq_true hle2
     have hpf : pvOk (some L[n].id) s.id = false := decide_eq_false (by omega)
     have ha : ans = false := by rw [inv, hpv, hpf]; rfl
     simp -implicitDefEqProofs (maxSteps := 5000000) only [go_sem, Nat.reduceShiftRight, Nat.reduceAnd, Nat.reduceBNe, Int.reduceEq, Nat.reduceAdd, Nat.reduceSub, Nat.reduceMul, Nat.reduceLeDiff, reduceIte, reduceCtorEq, Nat.reduceBEq, Nat.reduceEqDiff, wrap64, runC_loop, runC_range, callF_fn, callV_fn, callV_yld, yield_eq, yieldBody, yieldRaw, roundMid, roundEnd, rangeEnd, Bool.not_not, put_cons, put_nil, trim_same, at_zero, at_add, set_zero, set_add, store_one, write_zero, write_add, write_head, write_succ, splice_one, splice_more, List.drop_nil, List.take_nil, cell_int, cell_bool, fillS, splice_one, idxA, Ex.isNormal, List.set_nil, List.length_set, List.all_cons, List.all_nil, Bool.and_self, and_self, true_and, and_true, List.getElem?_nil, Int.reduceLT, Int.reduceLE, Int.reduceToNat, Int.toNat_zero, Int.toNat_one, Int.reduceAdd, Int.reduceSub, Int.reduceMul, Int.reduceNeg, Int.reduceBEq, Int.reduceBNe, Int.reduceGE, Int.reduceGT, Nat.reduceLT, trim_keep, under_fn, under_ptr, under_sl, Nat.lt_irrefl, not_lt_add, trim_tail, keepOk, ABlk.vals, Int.cast_ofNat_Int, decide_true, decide_false, List.all_cons, List.all_nil, Nat.zero_mul, Nat.mul_one, Nat.one_mul, getT_set, ht, t3, t4, t5, t6, t7, List.length_set, Nat.reduceLT, c3, c4, c5, c6, wl, e1, hlast, eo, dz, il2, ix, hc, h1', dl, wr, outs_normal]
     have := stay ha
     rw [← hR] at this ⊢
     exact this
    ·have dl := decide_eq_false hle2
     have lp := loop (go (by rw [hpv]; unfold pvOk; exact decide_eq_true (by omega)))
     simp -implicitDefEqProofs (maxSteps := 5000000) only [go_sem, Nat.reduceShiftRight, Nat.reduceAnd, Nat.reduceBNe, Int.reduceEq, Nat.reduceAdd, Nat.reduceSub, Nat.reduceMul, Nat.reduceLeDiff, reduceIte, reduceCtorEq, Nat.reduceBEq, Nat.reduceEqDiff, wrap64, runC_loop, runC_range, callF_fn, callV_fn, callV_yld, yield_eq, yieldBody, yieldRaw, roundMid, roundEnd, rangeEnd, Bool.not_not, put_cons, put_nil, trim_same, at_zero, at_add, set_zero, set_add, store_one, write_zero, write_add, write_head, write_succ, splice_one, splice_more, List.drop_nil, List.take_nil, cell_int, cell_bool, fillS, splice_one, idxA, Ex.isNormal, List.set_nil, List.length_set, List.all_cons, List.all_nil, Bool.and_self, and_self, true_and, and_true, List.getElem?_nil, Int.reduceLT, Int.reduceLE, Int.reduceToNat, Int.toNat_zero, Int.toNat_one, Int.reduceAdd, Int.reduceSub, Int.reduceMul, Int.reduceNeg, Int.reduceBEq, Int.reduceBNe, Int.reduceGE, Int.reduceGT, Nat.reduceLT, trim_keep, under_fn, under_ptr, under_sl, Nat.lt_irrefl, not_lt_add, trim_tail, keepOk, ABlk.vals, Int.cast_ofNat_Int, decide_true, decide_false, List.all_cons, List.all_nil, Nat.zero_mul, Nat.mul_one, Nat.one_mul, runC_loop, getT_set, ht, t3, t4, t5, t6, t7, List.length_set, Nat.reduceLT, c3, c4, c5, c6, wl, e1, hlast, eo, dz, il2, ix, hc, h1', dl, wt]
     unfold LP1 at lp
     generalize (envL prog).loop (runC (envL prog) (l14x0 (envL prog))) = LL at lp ⊢
     refine outs_ctx (fun x => blockR 1 (blockR 2 x)) (lp _ (by simp [ht]) (by simp [getT_set, ht, t6]) (by simp [getT_set, ht, t7]) (by simp [getT_set, ht]) (by simp [getT_set, ht]) (by simp [getT_set, ht])) ?_
     rintro e t' K' ⟨q1, rfl | rfl⟩
     ·simp -implicitDefEqProofs (maxSteps := 5000000) only [go_sem, Nat.reduceShiftRight, Nat.reduceAnd, Nat.reduceBNe, Int.reduceEq, Nat.reduceAdd, Nat.reduceSub, Nat.reduceMul, Nat.reduceLeDiff, reduceIte, reduceCtorEq, Nat.reduceBEq, Nat.reduceEqDiff, outs_normal]
      exact q1
     ·simp -implicitDefEqProofs (maxSteps := 5000000) only [go_sem, Nat.reduceShiftRight, Nat.reduceAnd, Nat.reduceBNe, Int.reduceEq, Nat.reduceAdd, Nat.reduceSub, Nat.reduceMul, Nat.reduceLeDiff, reduceIte, reduceCtorEq, Nat.reduceBEq, Nat.reduceEqDiff, outs_normal]
      exact q1) (by
   rintro e K2 ⟨_, _, w', ats', y', _⟩
   exact y'.lp)
 obtain ⟨i2, l2, w', ats', y', h⟩ := r
 have wlt := fun b hb => (FS.out y.fs b hb).2
 have hK1 : ∀ k, K[H.length + 4]? = some k → ∀ a ∈ k.vals, ∀ x, slb a = some x → x < K.length := fun k hk a ha x hx => by
  rw [y.wb] at hk; injection hk with hk; subst hk
  rw [List.mem_singleton.1 ha] at hx; exact wlt x hx
 have fin : ∀ {st : LoopState}, (K4 = K2.set (H.length + 7) (GooL st e t) ∨ (Trimmable K (.bool e.isNormal) (K2.set (H.length + 7) (GooL st e t)) ∧ K4 = (K2.set (H.length + 7) (GooL st e t)).take K.length)) → GooY H v bl ar ats' st e t w' K4 ∧ K4[H.length + 6]? = some (.rw [.int .i64 (i : Int)]) := fun {st} h4 => by
  have l4 := two_len h4 (by rw [List.length_set]; omega)
  have a4 := fun {z} (hz : z < K.length) => two_at h4 hz
  have f3 : FS (K2.set (H.length + 7) (GooL st e t)) (H.length + 8) w' ats' := y'.fs.frT (Fr.set _ _ (F := fun z => z = H.length + 7) rfl) fun z hz h => by have := (FS.out y'.fs z hz).1; omega
  have f4 : FS K4 (H.length + 8) w' ats' := two_gr h4 f3 (b := H.length + 4) (vs := [w']) (by omega) (by rw [at_set_ne _ _ _ _ (by omega)]; exact y'.wb) (by simp) hK1
  exact ⟨y'.step (fun b hb _ _ h7 => by rw [a4 (by omega), at_set_ne _ _ _ _ h7]) (by omega) (by rw [a4 (by omega), at_set_ne _ _ _ _ (by omega)]; exact y'.wb) (by rw [a4 (by omega), at_set _ _ _ (by omega)]) f4, by rw [a4 (by omega), at_set_ne _ _ _ _ (by omega)]; exact i2⟩
 rcases h with ⟨rfl, ha, he⟩ | ⟨rfl, ha⟩
 ·rw [show Ex.isNormal .normal = true from rfl] at ey h4
  simp only [if_true] at h4
  obtain ⟨y4, i4⟩ := fin h4
  refine ⟨K4, .inl ⟨ey, i4, ⟨⟨w', ats', y4.step (fun b hb _ h6 _ => by rw [at_set_ne _ _ _ _ h6]) (by rw [List.length_set]; exact y4.len) (by rw [at_set_ne _ _ _ _ (by omega)]; exact y4.wb) (by rw [at_set_ne _ _ _ _ (by omega)]; exact y4.lp) (y4.fs.frT (Fr.set _ _ (F := fun z => z = H.length + 6) rfl) fun z hz h => by have := (FS.out y4.fs z hz).1; omega), by rw [pvAt_succ hx]; exact ha, by rw [he, List.length_append, List.length_map]; have := ft.lt; omega⟩, at_set _ _ _ (by have := y4.len; omega)⟩⟩⟩
 ·rw [show Ex.isNormal .ret = false from rfl] at ey h4
  simp only [Bool.false_eq_true, if_false] at h4
  obtain ⟨y4, i4⟩ := fin h4
  exact ⟨K4, .inr ⟨ey, ha, w', ats', y4⟩⟩
end
end Go.Proofs.Ythhodjcgcgkaaaa.G11
end
section
namespace Go.Proofs.Ythhodjcgcgkaaaa.G11
open Go Go.Proofs.Ythhodjcgcgkaaaa.Eng
section
variable {H : AHeap} {v : AV} {L : List SnS} (g : IsC H v L) (fi : Fits L) {bl : Int} (hbl : bl ≤ 9223372036854775807) (ar : Int)
include g fi hbl
set_option maxHeartbeats 4000000 in
theorem gooRange (h8 : L.length ≤ 8) {T : T} (ht : T.length = 61) (t3 : getT T 3 = .ptr H.length 0) (t4 : getT T 4 = .ptr (H.length + 1) 0) (t5 : getT T 5 = .ptr (H.length + 2) 0) (t6 : getT T 6 = .ptr (H.length + 3) 0) (t7 : getT T 7 = .ptr (H.length + 4) 0) (tf : getT T 16 = .fn 52 [.ptr (H.length + 6) 0, .ptr (H.length + 5) 0]) :
  Outs (runC (envL prog) (.range (X 16) [17, 18] kaq14x0 kbq14x0) T (H ++ [ABlk.rw [v], .rw [.int .i64 bl], .rw [.int .i64 ar], .rw [.bool false], .rw [.nilSl], .rw [v], .rw [.int .i64 0]])) fun e t K => t = T ∧ ((e = .normal ∧ cgoodF bl ar L none [] = true) ∨ (e = .ret ∧ cgoodF bl ar L none [] = false)) ∧ ∃ w ats, GooY H v bl ar ats .exhausted e T w K := by
 obtain ⟨G, hG⟩ : ∃ G, G = H ++ [ABlk.rw [v], .rw [.int .i64 bl], .rw [.int .i64 ar], .rw [.bool false], .rw [.nilSl], .rw [v], .rw [.int .i64 0]] := ⟨_, rfl⟩
 obtain ⟨K0, hK0⟩ : ∃ K0, K0 = G ++ [GooL .ready .normal T] := ⟨_, rfl⟩
 have lG : G.length = H.length + 7 := by rw [hG]; simp
 have y0 : GooY H v bl ar [] .ready .normal T .nilSl K0 := ⟨fun z hz => by rw [hK0, hG, List.getElem?_append_left (by simp; omega), List.getElem?_append_left hz], by rw [hK0, List.length_append, lG]; simp, by rw [hK0, hG]; simp, by rw [hK0, hG]; simp, by rw [hK0, hG]; simp, by rw [hK0, hG]; simp, by rw [hK0, hG]; simp, by rw [hK0, hG]; simp, by rw [hK0, ← lG]; simp, .inl ⟨rfl, rfl⟩⟩
 have ib0 : K0[H.length + 6]? = some (.rw [.int .i64 ((0 : Nat) : Int)]) := by rw [hK0, hG]; simp
 rw [← hG]
 have cf : ∀ K, callF (envL prog) (X 16 T) [.yld G.length] K = (envL prog).call 52 [.yld (H.length + 7), .ptr (H.length + 6) 0, .ptr (H.length + 5) 0] K := fun K => by
  rw [lG, X_ap, tf]; rfl
 have hP : ∀ i K, GooP H v L bl ar (cgoodF bl ar L none []) T i K → K[H.length + 6]? = some (.rw [.int .i64 (i : Int)]) ∧ cellsOf K (H.length + 5) = some [v] ∧ Adds H K := fun i K y => by
  obtain ⟨⟨w, ats, y, _⟩, ib⟩ := y
  exact ⟨ib, cells_rw y.lb, Adds.of_get (by have := y.len; omega) y.old⟩
 obtain ⟨K1, ec, h1⟩ := fromAll g (v := v) (L := L) (p := H.length + 6) (q := H.length + 5) (y := H.length + 7) (P := GooP H v L bl ar (cgoodF bl ar L none []) T) (Q := fun K => cgoodF bl ar L none [] = false ∧ ∃ w ats, GooY H v bl ar ats .done .ret T w K) fi.1 hP (fun i K s vc vt y hx hbs hip => gooRound g fi h8 hbl ar ht t3 t4 t5 t6 t7 y hx hbs hip) (i := 0) (K := K0) ⟨⟨_, _, y0, rfl, by simp⟩, ib0⟩
 have l0 : K0.length = H.length + 8 := by rw [hK0, List.length_append, lG]; rfl
 obtain ⟨K4, et, h4⟩ := trim_two K0 (.tup []) K1
 rw [et] at ec
 have hK1 : ∀ k, K0[H.length + 4]? = some k → ∀ a ∈ k.vals, ∀ x, slb a = some x → x < K0.length := fun k hk a ha x hx => by
  rw [y0.wb] at hk; injection hk with hk; subst hk
  rw [List.mem_singleton.1 ha] at hx; cases hx
 have fin : ∀ {e : Ex} {st : LoopState} {w : AV} {ats : List Int}, GooY H v bl ar ats st e T w K1 → st ≠ .busy → runC (envL prog) (.range (X 16) [17, 18] kaq14x0 kbq14x0) T G = some (e, T, K4.set (H.length + 7) (GooL .exhausted e T)) ∧ GooY H v bl ar ats .exhausted e T w (K4.set (H.length + 7) (GooL .exhausted e T)) := by
  intro e st w ats y hs
  have hl := y.len
  have a4 := fun {z} (hz : z < K0.length) => two_at h4 hz
  have l4 := two_len h4 (by omega)
  have f4 : FS K4 (H.length + 8) w ats := two_gr h4 y.fs (by omega) y.wb (by simp) hK1
  have := range_all (E := envL prog) (f := X 16) (ps := [17, 18]) (ka := kaq14x0) (kb := kbq14x0) (t := T) (h := G) (K := K4) (e := e) (st := st) (v := .tup []) (by rw [cf]; rw [hK0] at ec; exact ec) (by rw [lG, a4 (by omega)]; exact y.lp) hs
  rw [lG] at this
  exact ⟨this, y.step (fun b hb _ _ h7 => by rw [at_set_ne _ _ _ _ h7, a4 (by omega)]) (by rw [List.length_set]; omega) (by rw [at_set_ne _ _ _ _ (by omega), a4 (by omega)]; exact y.wb) (at_set _ _ _ (by omega)) (f4.frT (Fr.set _ _ (F := fun z => z = H.length + 7) rfl) fun z hz h => by have := (FS.out y.fs z hz).1; omega)⟩
 rcases h1 with ⟨j, hj, _, _, ⟨w, ats, y, inv, _⟩, _⟩ | ⟨ha, w, ats, y⟩
 ·obtain ⟨e1, e2⟩ := fin y (by decide)
  rw [e1]
  exact ⟨_, _, _, rfl, rfl, .inl ⟨rfl, by rw [inv, List.drop_eq_nil_of_le hj]; rfl⟩, w, ats, e2⟩
 ·obtain ⟨e1, e2⟩ := fin y (by decide)
  rw [e1]
  exact ⟨_, _, _, rfl, rfl, .inr ⟨rfl, ha⟩, w, ats, e2⟩
theorem cgoodC : (envL prog).call 14 [v, .int .i64 bl, .int .i64 ar] H = some (.bool (cgood L bl ar), H) := by
 have hr := fun h8 T => gooRange g fi hbl ar h8 (T := T)
 have ef := fromC (g.adds (⟨[ABlk.rw [v], .rw [.int .i64 bl], .rw [.int .i64 ar], .rw [.bool false], .rw [.nilSl]], rfl⟩ : Adds H _)) 0
 have hc := g.cell
 have wl := g.len
 have key : Outs (runC (envL prog) (b14 (envL prog)) ([v, .int .i64 bl, .int .i64 ar] ++ List.replicate (61 - [v, AV.int .i64 bl, .int .i64 ar].length) .undef) H) fun e' t K => Adds H K ∧ fin [.cell 6 1 false] (some (e', t, K)) = some (.bool (cgood L bl ar), K) := by
  unfold b14
  generalize hQ : (fun (e' : Ex) (t : T) (K : AHeap) => Adds H K ∧ fin [.cell 6 1 false] (some (e', t, K)) = some (AV.bool (cgood L bl ar), K)) = Q
  by_cases h8 : (L.length : Int) > 8
  ·have d8 := decide_eq_true h8
   have hs : cgood L bl ar = false := by unfold cgood; rw [decide_eq_false (by omega)]; rfl
   simp -implicitDefEqProofs (maxSteps := 5000000) only [go_sem, Nat.reduceShiftRight, Nat.reduceAnd, Nat.reduceBNe, Int.reduceEq, Nat.reduceAdd, Nat.reduceSub, Nat.reduceMul, Nat.reduceLeDiff, reduceIte, reduceCtorEq, Nat.reduceBEq, Nat.reduceEqDiff, wrap64, runC_loop, runC_range, callF_fn, callV_fn, callV_yld, yield_eq, yieldBody, yieldRaw, roundMid, roundEnd, rangeEnd, Bool.not_not, put_cons, put_nil, trim_same, at_zero, at_add, set_zero, set_add, store_one, write_zero, write_add, write_head, write_succ, splice_one, splice_more, List.drop_nil, List.take_nil, cell_int, cell_bool, fillS, splice_one, idxA, Ex.isNormal, List.set_nil, List.length_set, List.all_cons, List.all_nil, Bool.and_self, and_self, true_and, and_true, List.getElem?_nil, Int.reduceLT, Int.reduceLE, Int.reduceToNat, Int.toNat_zero, Int.toNat_one, Int.reduceAdd, Int.reduceSub, Int.reduceMul, Int.reduceNeg, Int.reduceBEq, Int.reduceBNe, Int.reduceGE, Int.reduceGT, Nat.reduceLT, trim_keep, under_fn, under_ptr, under_sl, Nat.lt_irrefl, not_lt_add, trim_tail, keepOk, ABlk.vals, Int.cast_ofNat_Int, decide_true, decide_false, List.all_cons, List.all_nil, Nat.zero_mul, Nat.mul_one, Nat.one_mul, hc.1, wl, d8, outs_normal]
   subst hQ
   rw [hs]
   refine ⟨⟨_, rfl⟩, ?_⟩
   simp -implicitDefEqProofs (maxSteps := 5000000) only [go_sem, Nat.reduceShiftRight, Nat.reduceAnd, Nat.reduceBNe, Int.reduceEq, Nat.reduceAdd, Nat.reduceSub, Nat.reduceMul, Nat.reduceLeDiff, reduceIte, reduceCtorEq, Nat.reduceBEq, Nat.reduceEqDiff, wrap64, runC_loop, runC_range, callF_fn, callV_fn, callV_yld, yield_eq, yieldBody, yieldRaw, roundMid, roundEnd, rangeEnd, Bool.not_not, put_cons, put_nil, trim_same, at_zero, at_add, set_zero, set_add, store_one, write_zero, write_add, write_head, write_succ, splice_one, splice_more, List.drop_nil, List.take_nil, cell_int, cell_bool, fillS, splice_one, idxA, Ex.isNormal, List.set_nil, List.length_set, List.all_cons, List.all_nil, Bool.and_self, and_self, true_and, and_true, List.getElem?_nil, Int.reduceLT, Int.reduceLE, Int.reduceToNat, Int.toNat_zero, Int.toNat_one, Int.reduceAdd, Int.reduceSub, Int.reduceMul, Int.reduceNeg, Int.reduceBEq, Int.reduceBNe, Int.reduceGE, Int.reduceGT, Nat.reduceLT, trim_keep, under_fn, under_ptr, under_sl, Nat.lt_irrefl, not_lt_add, trim_tail, keepOk, ABlk.vals, Int.cast_ofNat_Int, decide_true, decide_false, List.all_cons, List.all_nil, Nat.zero_mul, Nat.mul_one, Nat.one_mul]
  have d8 := decide_eq_false h8
  have hs : cgood L bl ar = cgoodF bl ar L none [] := by unfold cgood; rw [decide_eq_true (by omega)]; rfl
  simp -implicitDefEqProofs (maxSteps := 5000000) only [go_sem, Nat.reduceShiftRight, Nat.reduceAnd, Nat.reduceBNe, Int.reduceEq, Nat.reduceAdd, Nat.reduceSub, Nat.reduceMul, Nat.reduceLeDiff, reduceIte, reduceCtorEq, Nat.reduceBEq, Nat.reduceEqDiff, wrap64, runC_loop, callF_fn, callV_fn, callV_yld, Bool.not_not, put_cons, put_nil, trim_same, at_zero, at_add, set_zero, set_add, store_one, write_zero, write_add, write_head, write_succ, splice_one, splice_more, List.drop_nil, List.take_nil, cell_int, cell_bool, fillS, splice_one, idxA, Ex.isNormal, List.set_nil, List.length_set, List.all_cons, List.all_nil, Bool.and_self, and_self, true_and, and_true, List.getElem?_nil, Int.reduceLT, Int.reduceLE, Int.reduceToNat, Int.toNat_zero, Int.toNat_one, Int.reduceAdd, Int.reduceSub, Int.reduceMul, Int.reduceNeg, Int.reduceBEq, Int.reduceBNe, Int.reduceGE, Int.reduceGT, Nat.reduceLT, trim_keep, under_fn, under_ptr, under_sl, Nat.lt_irrefl, not_lt_add, trim_tail, keepOk, ABlk.vals, Int.cast_ofNat_Int, decide_true, decide_false, List.all_cons, List.all_nil, Nat.zero_mul, Nat.mul_one, Nat.one_mul, hc.1, wl, d8, ef]
  refine outs_ctx (fun r => seqR (blockR 0 r) _) (hr (by omega) _ rfl rfl rfl rfl rfl rfl rfl) ?_
  rintro e t K ⟨rfl, h, w, ats, y⟩
  have aK : Adds H K := Adds.of_get (by have := y.len; omega) y.old
  have hl := y.len
  rcases h with ⟨rfl, ha⟩ | ⟨rfl, ha⟩
  ·have wr := write_one (y := .bool true) y.rb rfl
   obtain ⟨Kd, hKd⟩ : ∃ Kd, Kd = K.set (H.length + 3) (ABlk.rw [.bool true]) := ⟨_, rfl⟩
   rw [← hKd] at wr
   have d1 := cells_rw (show Kd[H.length + 3]? = some (.rw [.bool true]) by rw [hKd]; exact at_set _ _ _ (by omega))
   have aD : Adds H Kd := Adds.of_get (by rw [hKd, List.length_set]; omega) fun z hz => by rw [hKd, at_set_ne _ _ _ _ (by omega)]; exact y.old z hz
   simp -implicitDefEqProofs (maxSteps := 5000000) only [go_sem, Nat.reduceShiftRight, Nat.reduceAnd, Nat.reduceBNe, Int.reduceEq, Nat.reduceAdd, Nat.reduceSub, Nat.reduceMul, Nat.reduceLeDiff, reduceIte, reduceCtorEq, Nat.reduceBEq, Nat.reduceEqDiff, wrap64, runC_loop, runC_range, callF_fn, callV_fn, callV_yld, yield_eq, yieldBody, yieldRaw, roundMid, roundEnd, rangeEnd, Bool.not_not, put_cons, put_nil, trim_same, at_zero, at_add, set_zero, set_add, store_one, write_zero, write_add, write_head, write_succ, splice_one, splice_more, List.drop_nil, List.take_nil, cell_int, cell_bool, fillS, splice_one, idxA, Ex.isNormal, List.set_nil, List.length_set, List.all_cons, List.all_nil, Bool.and_self, and_self, true_and, and_true, List.getElem?_nil, Int.reduceLT, Int.reduceLE, Int.reduceToNat, Int.toNat_zero, Int.toNat_one, Int.reduceAdd, Int.reduceSub, Int.reduceMul, Int.reduceNeg, Int.reduceBEq, Int.reduceBNe, Int.reduceGE, Int.reduceGT, Nat.reduceLT, trim_keep, under_fn, under_ptr, under_sl, Nat.lt_irrefl, not_lt_add, trim_tail, keepOk, ABlk.vals, Int.cast_ofNat_Int, decide_true, decide_false, List.all_cons, List.all_nil, Nat.zero_mul, Nat.mul_one, Nat.one_mul, wr, outs_normal]
   subst hQ
   rw [hs, ha]
   refine ⟨aD, ?_⟩
   simp -implicitDefEqProofs (maxSteps := 5000000) only [go_sem, Nat.reduceShiftRight, Nat.reduceAnd, Nat.reduceBNe, Int.reduceEq, Nat.reduceAdd, Nat.reduceSub, Nat.reduceMul, Nat.reduceLeDiff, reduceIte, reduceCtorEq, Nat.reduceBEq, Nat.reduceEqDiff, wrap64, runC_loop, runC_range, callF_fn, callV_fn, callV_yld, yield_eq, yieldBody, yieldRaw, roundMid, roundEnd, rangeEnd, Bool.not_not, put_cons, put_nil, trim_same, at_zero, at_add, set_zero, set_add, store_one, write_zero, write_add, write_head, write_succ, splice_one, splice_more, List.drop_nil, List.take_nil, cell_int, cell_bool, fillS, splice_one, idxA, Ex.isNormal, List.set_nil, List.length_set, List.all_cons, List.all_nil, Bool.and_self, and_self, true_and, and_true, List.getElem?_nil, Int.reduceLT, Int.reduceLE, Int.reduceToNat, Int.toNat_zero, Int.toNat_one, Int.reduceAdd, Int.reduceSub, Int.reduceMul, Int.reduceNeg, Int.reduceBEq, Int.reduceBNe, Int.reduceGE, Int.reduceGT, Nat.reduceLT, trim_keep, under_fn, under_ptr, under_sl, Nat.lt_irrefl, not_lt_add, trim_tail, keepOk, ABlk.vals, Int.cast_ofNat_Int, decide_true, decide_false, List.all_cons, List.all_nil, Nat.zero_mul, Nat.mul_one, Nat.one_mul, d1]
  ·have d1 := cells_rw y.rb
   simp -implicitDefEqProofs (maxSteps := 5000000) only [go_sem, Nat.reduceShiftRight, Nat.reduceAnd, Nat.reduceBNe, Int.reduceEq, Nat.reduceAdd, Nat.reduceSub, Nat.reduceMul, Nat.reduceLeDiff, reduceIte, reduceCtorEq, Nat.reduceBEq, Nat.reduceEqDiff, wrap64, runC_loop, runC_range, callF_fn, callV_fn, callV_yld, yield_eq, yieldBody, yieldRaw, roundMid, roundEnd, rangeEnd, Bool.not_not, put_cons, put_nil, trim_same, at_zero, at_add, set_zero, set_add, store_one, write_zero, write_add, write_head, write_succ, splice_one, splice_more, List.drop_nil, List.take_nil, cell_int, cell_bool, fillS, splice_one, idxA, Ex.isNormal, List.set_nil, List.length_set, List.all_cons, List.all_nil, Bool.and_self, and_self, true_and, and_true, List.getElem?_nil, Int.reduceLT, Int.reduceLE, Int.reduceToNat, Int.toNat_zero, Int.toNat_one, Int.reduceAdd, Int.reduceSub, Int.reduceMul, Int.reduceNeg, Int.reduceBEq, Int.reduceBNe, Int.reduceGE, Int.reduceGT, Nat.reduceLT, trim_keep, under_fn, under_ptr, under_sl, Nat.lt_irrefl, not_lt_add, trim_tail, keepOk, ABlk.vals, Int.cast_ofNat_Int, decide_true, decide_false, List.all_cons, List.all_nil, Nat.zero_mul, Nat.mul_one, Nat.one_mul, outs_normal]
   subst hQ
   rw [hs, ha]
   refine ⟨aK, ?_⟩
   simp -implicitDefEqProofs (maxSteps := 5000000) only [go_sem, Nat.reduceShiftRight, Nat.reduceAnd, Nat.reduceBNe, Int.reduceEq, Nat.reduceAdd, Nat.reduceSub, Nat.reduceMul, Nat.reduceLeDiff, reduceIte, reduceCtorEq, Nat.reduceBEq, Nat.reduceEqDiff, wrap64, runC_loop, runC_range, callF_fn, callV_fn, callV_yld, yield_eq, yieldBody, yieldRaw, roundMid, roundEnd, rangeEnd, Bool.not_not, put_cons, put_nil, trim_same, at_zero, at_add, set_zero, set_add, store_one, write_zero, write_add, write_head, write_succ, splice_one, splice_more, List.drop_nil, List.take_nil, cell_int, cell_bool, fillS, splice_one, idxA, Ex.isNormal, List.set_nil, List.length_set, List.all_cons, List.all_nil, Bool.and_self, and_self, true_and, and_true, List.getElem?_nil, Int.reduceLT, Int.reduceLE, Int.reduceToNat, Int.toNat_zero, Int.toNat_one, Int.reduceAdd, Int.reduceSub, Int.reduceMul, Int.reduceNeg, Int.reduceBEq, Int.reduceBNe, Int.reduceGE, Int.reduceGT, Nat.reduceLT, trim_keep, under_fn, under_ptr, under_sl, Nat.lt_irrefl, not_lt_add, trim_tail, keepOk, ABlk.vals, Int.cast_ofNat_Int, decide_true, decide_false, List.all_cons, List.all_nil, Nat.zero_mul, Nat.mul_one, Nat.one_mul, d1]
 obtain ⟨e', t, K, hr, aK, hf⟩ := key
 rw [c14, hr, hf]; exact aK.trimS rfl
end
end Go.Proofs.Ythhodjcgcgkaaaa.G11
end
section
namespace Go.Proofs.Ythhodjcgcgkaaaa.G11
open Go Go.Proofs.Ythhodjcgcgkaaaa.Eng
section
variable {H : AHeap} {v : AV} {L : List SnS} (g : IsC H v L) (fi : Fits L)
include g fi
theorem closS (n : Int) (q : Nat) (s : SnS) (vc vt : AV) (bc : BS H vc s.ch) (pt : IsP H vt s.tb) (hq : cellsOf H q = some [.int .i64 n]) : (envL prog).call 40 [.agg [.int .i64 s.id, vc, vt], .ptr q 0] H = some (.bool (s.id == n), H) := by
 have c1 : ∀ X, cellsOf (H ++ X) q = some [.int .i64 n] := fun X => cells_old hq
 have cc := bc.cell
 have ct := pt.cell
 rw [c40]
 unfold b40
 simp -implicitDefEqProofs (maxSteps := 5000000) only [go_sem, Nat.reduceShiftRight, Nat.reduceAnd, Nat.reduceBNe, Int.reduceEq, Nat.reduceAdd, Nat.reduceSub, Nat.reduceMul, Nat.reduceLeDiff, reduceIte, reduceCtorEq, Nat.reduceBEq, Nat.reduceEqDiff, wrap64, runC_loop, runC_range, callF_fn, callV_fn, callV_yld, yield_eq, yieldBody, yieldRaw, roundMid, roundEnd, rangeEnd, Bool.not_not, put_cons, put_nil, trim_same, at_zero, at_add, set_zero, set_add, store_one, write_zero, write_add, write_head, write_succ, splice_one, splice_more, List.drop_nil, List.take_nil, cell_int, cell_bool, fillS, splice_one, idxA, Ex.isNormal, List.set_nil, List.length_set, List.all_cons, List.all_nil, Bool.and_self, and_self, true_and, and_true, List.getElem?_nil, Int.reduceLT, Int.reduceLE, Int.reduceToNat, Int.toNat_zero, Int.toNat_one, Int.reduceAdd, Int.reduceSub, Int.reduceMul, Int.reduceNeg, Int.reduceBEq, Int.reduceBNe, Int.reduceGE, Int.reduceGT, Nat.reduceLT, trim_keep, under_fn, under_ptr, under_sl, Nat.lt_irrefl, not_lt_add, trim_tail, keepOk, ABlk.vals, Int.cast_ofNat_Int, decide_true, decide_false, List.all_cons, List.all_nil, Nat.zero_mul, Nat.mul_one, Nat.one_mul, cellsA_agg, cc.2, ct.2, c1]
set_option maxHeartbeats 4000000 in
theorem cidL (n : Int) {q : Nat} (hq : cellsOf H q = some [.int .i64 n]) (x2 x3 x6 : AV) : ∀ (k i : Nat) (j5 j9 j10 j11 j12 j13 j14 j15 j16 j17 j18 : AV), i + k = L.length →
  Outs (LP1 l39x0 [v, .fn 40 [.ptr q 0], x2, x3, .int .i64 0, j5, x6, .int .i64 (L.length : Int), .int .i64 (i : Int), j9, j10, j11, j12, j13, j14, j15, j16, j17, j18] H) fun e t K => K = H ∧ ∃ fv : Nat → AV, t = [v, .fn 40 [.ptr q 0], x2, x3, (fv 4), (fv 5), x6, .int .i64 (L.length : Int), (fv 8), (fv 9), (fv 10), (fv 11), (fv 12), (fv 13), (fv 14), (fv 15), (fv 16), (fv 17), (fv 18)] ∧ ((e = .exit 0 ∧ cidF n i (L.drop i) = -1) ∨ (e = .ret ∧ fv 4 = .int .i64 (cidF n i (L.drop i)))) := by
 intro k
 obtain ⟨L0, hL0⟩ : ∃ L, L = LP1 l39x0 := ⟨_, rfl⟩
 have lo := loop_open hL0
 have fl := fi.1
 rw [← hL0]
 induction k with
 | zero =>
  intro i j5 j9 j10 j11 j12 j13 j14 j15 j16 j17 j18 hi
  obtain rfl : i = L.length := by omega
  have hd : decide ((L.length : Int) < (L.length : Int)) = false := by simp
  rw [List.drop_length, lo]
  unfold l39x0
  simp -implicitDefEqProofs (maxSteps := 5000000) only [go_sem, Nat.reduceShiftRight, Nat.reduceAnd, Nat.reduceBNe, Int.reduceEq, Nat.reduceAdd, Nat.reduceSub, Nat.reduceMul, Nat.reduceLeDiff, reduceIte, reduceCtorEq, Nat.reduceBEq, Nat.reduceEqDiff, hd, seqR_exit', outs_normal]
  exact exF2 rfl (.inl rfl)
 | succ k ih =>
  intro i j5 j9 j10 j11 j12 j13 j14 j15 j16 j17 j18 hi
  have hlt : i < L.length := by omega
  have hd : decide ((i : Int) < (L.length : Int)) = true := decide_eq_true (by omega)
  have e2 : IntKind.i64.wrap ((i : Int) + 1) = ((i + 1 : Nat) : Int) := by rw [wrap64 (by omega) (by omega)]; omega
  have hx := List.getElem?_eq_getElem hlt
  rw [List.drop_eq_getElem_cons hlt]
  generalize L[i] = s at *
  obtain ⟨bb, cs, vc, vt, sb, ix, hc, h1, h2, h3, ht, hle, hbs, hip⟩ := g.idx hx
  have ec := closS g fi n q s vc vt hbs hip hq
  rw [lo]
  unfold l39x0
  by_cases h : s.id = n
  ·have hb : (s.id == n) = true := by simp [h]
   rw [cidF, if_pos h]
   simp -implicitDefEqProofs (maxSteps := 5000000) only [go_sem, Nat.reduceShiftRight, Nat.reduceAnd, Nat.reduceBNe, Int.reduceEq, Nat.reduceAdd, Nat.reduceSub, Nat.reduceMul, Nat.reduceLeDiff, reduceIte, reduceCtorEq, Nat.reduceBEq, Nat.reduceEqDiff, wrap64, runC_loop, runC_range, callF_fn, callV_fn, callV_yld, yield_eq, yieldBody, yieldRaw, roundMid, roundEnd, rangeEnd, Bool.not_not, put_cons, put_nil, trim_same, at_zero, at_add, set_zero, set_add, store_one, write_zero, write_add, write_head, write_succ, splice_one, splice_more, List.drop_nil, List.take_nil, cell_int, cell_bool, fillS, splice_one, idxA, Ex.isNormal, List.set_nil, List.length_set, List.all_cons, List.all_nil, Bool.and_self, and_self, true_and, and_true, List.getElem?_nil, Int.reduceLT, Int.reduceLE, Int.reduceToNat, Int.toNat_zero, Int.toNat_one, Int.reduceAdd, Int.reduceSub, Int.reduceMul, Int.reduceNeg, Int.reduceBEq, Int.reduceBNe, Int.reduceGE, Int.reduceGT, Nat.reduceLT, trim_keep, under_fn, under_ptr, under_sl, Nat.lt_irrefl, not_lt_add, trim_tail, keepOk, ABlk.vals, Int.cast_ofNat_Int, decide_true, decide_false, List.all_cons, List.all_nil, Nat.zero_mul, Nat.mul_one, Nat.one_mul, hd, ix, hc, ht, hle, ec, hb, seqR_ret, outs_normal]
   exact exF2 rfl (.inr rfl)
  ·have hb : (s.id == n) = false := by simp [h]
   rw [cidF, if_neg h]
   simp -implicitDefEqProofs (maxSteps := 5000000) only [go_sem, Nat.reduceShiftRight, Nat.reduceAnd, Nat.reduceBNe, Int.reduceEq, Nat.reduceAdd, Nat.reduceSub, Nat.reduceMul, Nat.reduceLeDiff, reduceIte, reduceCtorEq, Nat.reduceBEq, Nat.reduceEqDiff, wrap64, runC_loop, runC_range, callF_fn, callV_fn, callV_yld, yield_eq, yieldBody, yieldRaw, roundMid, roundEnd, rangeEnd, Bool.not_not, put_cons, put_nil, trim_same, at_zero, at_add, set_zero, set_add, store_one, write_zero, write_add, write_head, write_succ, splice_one, splice_more, List.drop_nil, List.take_nil, cell_int, cell_bool, fillS, splice_one, idxA, Ex.isNormal, List.set_nil, List.length_set, List.all_cons, List.all_nil, Bool.and_self, and_self, true_and, and_true, List.getElem?_nil, Int.reduceLT, Int.reduceLE, Int.reduceToNat, Int.toNat_zero, Int.toNat_one, Int.reduceAdd, Int.reduceSub, Int.reduceMul, Int.reduceNeg, Int.reduceBEq, Int.reduceBNe, Int.reduceGE, Int.reduceGT, Nat.reduceLT, trim_keep, under_fn, under_ptr, under_sl, Nat.lt_irrefl, not_lt_add, trim_tail, keepOk, ABlk.vals, Int.cast_ofNat_Int, decide_true, decide_false, List.all_cons, List.all_nil, Nat.zero_mul, Nat.mul_one, Nat.one_mul, hd, ix, hc, ht, hle, ec, hb, e2]
   exact ih (i + 1) _ _ _ _ _ _ _ _ _ _ _ (by omega)
theorem cidFC (n : Int) {q : Nat} (hq : cellsOf H q = some [.int .i64 n]) : (envL prog).call 39 [v, .fn 40 [.ptr q 0]] H = some (.int .i64 (cidF n 0 L), H) := by
 have l0 := cidL g fi n hq (k := L.length) (i := 0)
 rw [show ((0 : Nat) : Int) = 0 from rfl, List.drop_zero] at l0
 have wl := g.len
 have key : Outs (runC (envL prog) (b39 (envL prog)) ([v, .fn 40 [.ptr q 0]] ++ List.replicate (19 - [v, AV.fn 40 [.ptr q 0]].length) .undef) H) fun e' t K => K = H ∧ fin [.tmp 4] (some (e', t, K)) = some (.int .i64 (cidF n 0 L), K) := by
  unfold b39
  generalize hQ : (fun (e' : Ex) (t : T) (K : AHeap) => K = H ∧ fin [.tmp 4] (some (e', t, K)) = some (AV.int .i64 (cidF n 0 L), K)) = Q
  simp -implicitDefEqProofs (maxSteps := 5000000) only [go_sem, Nat.reduceShiftRight, Nat.reduceAnd, Nat.reduceBNe, Int.reduceEq, Nat.reduceAdd, Nat.reduceSub, Nat.reduceMul, Nat.reduceLeDiff, reduceIte, reduceCtorEq, Nat.reduceBEq, Nat.reduceEqDiff, wrap64, runC_loop, runC_range, callF_fn, callV_fn, callV_yld, yield_eq, yieldBody, yieldRaw, roundMid, roundEnd, rangeEnd, Bool.not_not, put_cons, put_nil, trim_same, at_zero, at_add, set_zero, set_add, store_one, write_zero, write_add, write_head, write_succ, splice_one, splice_more, List.drop_nil, List.take_nil, cell_int, cell_bool, fillS, splice_one, idxA, Ex.isNormal, List.set_nil, List.length_set, List.all_cons, List.all_nil, Bool.and_self, and_self, true_and, and_true, List.getElem?_nil, Int.reduceLT, Int.reduceLE, Int.reduceToNat, Int.toNat_zero, Int.toNat_one, Int.reduceAdd, Int.reduceSub, Int.reduceMul, Int.reduceNeg, Int.reduceBEq, Int.reduceBNe, Int.reduceGE, Int.reduceGT, Nat.reduceLT, trim_keep, under_fn, under_ptr, under_sl, Nat.lt_irrefl, not_lt_add, trim_tail, keepOk, ABlk.vals, Int.cast_ofNat_Int, decide_true, decide_false, List.all_cons, List.all_nil, Nat.zero_mul, Nat.mul_one, Nat.one_mul, runC_loop, wl]
  unfold LP1 at l0
  generalize (envL prog).loop (runC (envL prog) (l39x0 (envL prog))) = L0 at l0 ⊢
  refine outs_ctx (fun r => seqR (blockR 0 r) _) (l0 _ _ _ _ _ _ _ _ _ _ _ _ _ _ (by omega)) ?_
  rintro e t K ⟨rfl, fv, rfl, ⟨rfl, ho⟩ | ⟨rfl, f4⟩⟩
  ·simp -implicitDefEqProofs (maxSteps := 5000000) only [go_sem, Nat.reduceShiftRight, Nat.reduceAnd, Nat.reduceBNe, Int.reduceEq, Nat.reduceAdd, Nat.reduceSub, Nat.reduceMul, Nat.reduceLeDiff, reduceIte, reduceCtorEq, Nat.reduceBEq, Nat.reduceEqDiff, outs_normal]
   subst hQ
   rw [ho]
   refine ⟨rfl, ?_⟩
   simp -implicitDefEqProofs (maxSteps := 5000000) only [go_sem, Nat.reduceShiftRight, Nat.reduceAnd, Nat.reduceBNe, Int.reduceEq, Nat.reduceAdd, Nat.reduceSub, Nat.reduceMul, Nat.reduceLeDiff, reduceIte, reduceCtorEq, Nat.reduceBEq, Nat.reduceEqDiff]
  ·simp -implicitDefEqProofs (maxSteps := 5000000) only [go_sem, Nat.reduceShiftRight, Nat.reduceAnd, Nat.reduceBNe, Int.reduceEq, Nat.reduceAdd, Nat.reduceSub, Nat.reduceMul, Nat.reduceLeDiff, reduceIte, reduceCtorEq, Nat.reduceBEq, Nat.reduceEqDiff, outs_normal]
   subst hQ
   refine ⟨rfl, ?_⟩
   simp -implicitDefEqProofs (maxSteps := 5000000) only [go_sem, Nat.reduceShiftRight, Nat.reduceAnd, Nat.reduceBNe, Int.reduceEq, Nat.reduceAdd, Nat.reduceSub, Nat.reduceMul, Nat.reduceLeDiff, reduceIte, reduceCtorEq, Nat.reduceBEq, Nat.reduceEqDiff, f4]
 obtain ⟨e', t, K, hr, rfl, hf⟩ := key
 rw [c39, hr, hf]; exact trim_same rfl
theorem cindexC (n : Int) : (envL prog).call 16 [v, .int .i64 n] H = some (.int .i64 (cidF n 0 L), H) := by
 have ec := cidFC (g.adds (⟨[.rw [.int .i64 n]], rfl⟩ : Adds H (H ++ [.rw [.int .i64 n]]))) fi n (q := H.length) (by unfold cellsOf; simp)
 rw [c16]
 unfold b16
 simp -implicitDefEqProofs (maxSteps := 5000000) only [go_sem, Nat.reduceShiftRight, Nat.reduceAnd, Nat.reduceBNe, Int.reduceEq, Nat.reduceAdd, Nat.reduceSub, Nat.reduceMul, Nat.reduceLeDiff, reduceIte, reduceCtorEq, Nat.reduceBEq, Nat.reduceEqDiff, wrap64, runC_loop, runC_range, callF_fn, callV_fn, callV_yld, yield_eq, yieldBody, yieldRaw, roundMid, roundEnd, rangeEnd, Bool.not_not, put_cons, put_nil, trim_same, at_zero, at_add, set_zero, set_add, store_one, write_zero, write_add, write_head, write_succ, splice_one, splice_more, List.drop_nil, List.take_nil, cell_int, cell_bool, fillS, splice_one, idxA, Ex.isNormal, List.set_nil, List.length_set, List.all_cons, List.all_nil, Bool.and_self, and_self, true_and, and_true, List.getElem?_nil, Int.reduceLT, Int.reduceLE, Int.reduceToNat, Int.toNat_zero, Int.toNat_one, Int.reduceAdd, Int.reduceSub, Int.reduceMul, Int.reduceNeg, Int.reduceBEq, Int.reduceBNe, Int.reduceGE, Int.reduceGT, Nat.reduceLT, trim_keep, under_fn, under_ptr, under_sl, Nat.lt_irrefl, not_lt_add, trim_tail, keepOk, ABlk.vals, Int.cast_ofNat_Int, decide_true, decide_false, List.all_cons, List.all_nil, Nat.zero_mul, Nat.mul_one, Nat.one_mul, ec]
end
def fairS (L : List SnS) : Bool := L.all (fun s => decide (s.ch.length ≤ 40) && decide (s.tb.length ≤ 80)) && decide (L.length ≤ 12)
section
variable {H : AHeap} {v : AV} {L : List SnS} (g : IsC H v L) (fb : L.length ≤ 9223372036854775807 ∧ ∀ s ∈ L, s.ch.length ≤ 9223372036854775807 ∧ s.tb.length ≤ 9223372036854775807)
include g fb
set_option maxHeartbeats 4000000 in
theorem fairL (x1 x26 x27 x28 : AV) : ∀ (k i : Nat) (j4 j5 j6 j7 j8 j9 j10 j11 j12 j13 j14 j15 j16 j17 j18 j19 j20 j21 j22 j23 j24 j25 : AV), i + k = L.length →
  Outs (LP1 l9x0 [v, x1, .bool false, .int .i64 (i : Int), j4, j5, j6, j7, j8, j9, j10, j11, j12, j13, j14, j15, j16, j17, j18, j19, j20, j21, j22, j23, j24, j25, x26, x27, x28] H) fun e t K => K = H ∧ ∃ fv : Nat → AV, t = [v, x1, (fv 2), (fv 3), (fv 4), (fv 5), (fv 6), (fv 7), (fv 8), (fv 9), (fv 10), (fv 11), (fv 12), (fv 13), (fv 14), (fv 15), (fv 16), (fv 17), (fv 18), (fv 19), (fv 20), (fv 21), (fv 22), (fv 23), (fv 24), (fv 25), x26, x27, x28] ∧ ((e = .exit 0 ∧ (L.drop i).all (fun s => decide (s.ch.length ≤ 40) && decide (s.tb.length ≤ 80)) = true) ∨ (e = .ret ∧ fv 2 = .bool false ∧ (L.drop i).all (fun s => decide (s.ch.length ≤ 40) && decide (s.tb.length ≤ 80)) = false)) := by
 intro k
 obtain ⟨L0, hL0⟩ : ∃ L, L = LP1 l9x0 := ⟨_, rfl⟩
 have lo := loop_open hL0
 have fl := fb.1
 have wl := g.len
 rw [← hL0]
 induction k with
 | zero =>
  intro i j4 j5 j6 j7 j8 j9 j10 j11 j12 j13 j14 j15 j16 j17 j18 j19 j20 j21 j22 j23 j24 j25 hi
  obtain rfl : i = L.length := by omega
  have hd : decide ((L.length : Int) < (L.length : Int)) = false := by simp
  rw [List.drop_length, lo]
  unfold l9x0
  simp -implicitDefEqProofs (maxSteps := 5000000) only [go_sem, Nat.reduceShiftRight, Nat.reduceAnd, Nat.reduceBNe, Int.reduceEq, Nat.reduceAdd, Nat.reduceSub, Nat.reduceMul, Nat.reduceLeDiff, reduceIte, reduceCtorEq, Nat.reduceBEq, Nat.reduceEqDiff, wl, hd, seqR_exit', outs_normal]
  exact exF2 rfl (.inl rfl)
 | succ k ih =>
  intro i j4 j5 j6 j7 j8 j9 j10 j11 j12 j13 j14 j15 j16 j17 j18 j19 j20 j21 j22 j23 j24 j25 hi
  have hlt : i < L.length := by omega
  have hd : decide ((i : Int) < (L.length : Int)) = true := decide_eq_true (by omega)
  have e2 : IntKind.i64.wrap ((i : Int) + 1) = ((i + 1 : Nat) : Int) := by rw [wrap64 (by omega) (by omega)]; omega
  have hx := List.getElem?_eq_getElem hlt
  have hm := fb.2 _ (List.getElem_mem hlt)
  rw [List.drop_eq_getElem_cons hlt, List.all_cons]
  generalize L[i] = s at *
  obtain ⟨bb, cs, vc, vt, sb, ix, hc, h1, h2, h3, ht, hle, hbs, hip⟩ := g.idx hx
  have w1 := hbs.len
  have w2 := hip.len
  rw [lo]
  unfold l9x0
  by_cases h : (s.ch.length : Int) > 40
  ·have d1 := decide_eq_true h
   rw [decide_eq_false (show ¬ s.ch.length ≤ 40 by omega)]
   simp -implicitDefEqProofs (maxSteps := 5000000) only [go_sem, Nat.reduceShiftRight, Nat.reduceAnd, Nat.reduceBNe, Int.reduceEq, Nat.reduceAdd, Nat.reduceSub, Nat.reduceMul, Nat.reduceLeDiff, reduceIte, reduceCtorEq, Nat.reduceBEq, Nat.reduceEqDiff, wrap64, runC_loop, runC_range, callF_fn, callV_fn, callV_yld, yield_eq, yieldBody, yieldRaw, roundMid, roundEnd, rangeEnd, Bool.not_not, put_cons, put_nil, trim_same, at_zero, at_add, set_zero, set_add, store_one, write_zero, write_add, write_head, write_succ, splice_one, splice_more, List.drop_nil, List.take_nil, cell_int, cell_bool, fillS, splice_one, idxA, Ex.isNormal, List.set_nil, List.length_set, List.all_cons, List.all_nil, Bool.and_self, and_self, true_and, and_true, List.getElem?_nil, Int.reduceLT, Int.reduceLE, Int.reduceToNat, Int.toNat_zero, Int.toNat_one, Int.reduceAdd, Int.reduceSub, Int.reduceMul, Int.reduceNeg, Int.reduceBEq, Int.reduceBNe, Int.reduceGE, Int.reduceGT, Nat.reduceLT, trim_keep, under_fn, under_ptr, under_sl, Nat.lt_irrefl, not_lt_add, trim_tail, keepOk, ABlk.vals, Int.cast_ofNat_Int, decide_true, decide_false, List.all_cons, List.all_nil, Nat.zero_mul, Nat.mul_one, Nat.one_mul, wl, hd, ix, hc, h2, h3, w1, w2, d1, seqR_ret, outs_normal]
   exact exF2 rfl (.inr rfl)
  ·have d1 := decide_eq_false h
   rw [decide_eq_true (show s.ch.length ≤ 40 by omega)]
   by_cases h' : (s.tb.length : Int) > 80
   ·have d2 := decide_eq_true h'
    rw [decide_eq_false (show ¬ s.tb.length ≤ 80 by omega)]
    simp -implicitDefEqProofs (maxSteps := 5000000) only [go_sem, Nat.reduceShiftRight, Nat.reduceAnd, Nat.reduceBNe, Int.reduceEq, Nat.reduceAdd, Nat.reduceSub, Nat.reduceMul, Nat.reduceLeDiff, reduceIte, reduceCtorEq, Nat.reduceBEq, Nat.reduceEqDiff, wrap64, runC_loop, runC_range, callF_fn, callV_fn, callV_yld, yield_eq, yieldBody, yieldRaw, roundMid, roundEnd, rangeEnd, Bool.not_not, put_cons, put_nil, trim_same, at_zero, at_add, set_zero, set_add, store_one, write_zero, write_add, write_head, write_succ, splice_one, splice_more, List.drop_nil, List.take_nil, cell_int, cell_bool, fillS, splice_one, idxA, Ex.isNormal, List.set_nil, List.length_set, List.all_cons, List.all_nil, Bool.and_self, and_self, true_and, and_true, List.getElem?_nil, Int.reduceLT, Int.reduceLE, Int.reduceToNat, Int.toNat_zero, Int.toNat_one, Int.reduceAdd, Int.reduceSub, Int.reduceMul, Int.reduceNeg, Int.reduceBEq, Int.reduceBNe, Int.reduceGE, Int.reduceGT, Nat.reduceLT, trim_keep, under_fn, under_ptr, under_sl, Nat.lt_irrefl, not_lt_add, trim_tail, keepOk, ABlk.vals, Int.cast_ofNat_Int, decide_true, decide_false, List.all_cons, List.all_nil, Nat.zero_mul, Nat.mul_one, Nat.one_mul, wl, hd, ix, hc, h2, h3, w1, w2, d1, d2, seqR_ret, outs_normal]
    exact exF2 rfl (.inr rfl)
   ·have d2 := decide_eq_false h'
    rw [decide_eq_true (show s.tb.length ≤ 80 by omega)]
    simp -implicitDefEqProofs (maxSteps := 5000000) only [go_sem, Nat.reduceShiftRight, Nat.reduceAnd, Nat.reduceBNe, Int.reduceEq, Nat.reduceAdd, Nat.reduceSub, Nat.reduceMul, Nat.reduceLeDiff, reduceIte, reduceCtorEq, Nat.reduceBEq, Nat.reduceEqDiff, wrap64, runC_loop, runC_range, callF_fn, callV_fn, callV_yld, yield_eq, yieldBody, yieldRaw, roundMid, roundEnd, rangeEnd, Bool.not_not, put_cons, put_nil, trim_same, at_zero, at_add, set_zero, set_add, store_one, write_zero, write_add, write_head, write_succ, splice_one, splice_more, List.drop_nil, List.take_nil, cell_int, cell_bool, fillS, splice_one, idxA, Ex.isNormal, List.set_nil, List.length_set, List.all_cons, List.all_nil, Bool.and_self, and_self, true_and, and_true, List.getElem?_nil, Int.reduceLT, Int.reduceLE, Int.reduceToNat, Int.toNat_zero, Int.toNat_one, Int.reduceAdd, Int.reduceSub, Int.reduceMul, Int.reduceNeg, Int.reduceBEq, Int.reduceBNe, Int.reduceGE, Int.reduceGT, Nat.reduceLT, trim_keep, under_fn, under_ptr, under_sl, Nat.lt_irrefl, not_lt_add, trim_tail, keepOk, ABlk.vals, Int.cast_ofNat_Int, decide_true, decide_false, List.all_cons, List.all_nil, Nat.zero_mul, Nat.mul_one, Nat.one_mul, wl, hd, ix, hc, h2, h3, w1, w2, d1, d2, e2]
    exact ih (i + 1) _ _ _ _ _ _ _ _ _ _ _ _ _ _ _ _ _ _ _ _ _ _ (by omega)
theorem fairC : (envL prog).call 9 [v] H = some (.bool (fairS L), H) := by
 have l0 := fairL g fb (k := L.length) (i := 0)
 rw [show ((0 : Nat) : Int) = 0 from rfl, List.drop_zero] at l0
 have wl := g.len
 have hd : decide ((L.length : Int) ≤ 12) = decide (L.length ≤ 12) := by
  by_cases h : L.length ≤ 12
  ·rw [decide_eq_true h, decide_eq_true (by omega)]
  ·rw [decide_eq_false h, decide_eq_false (by omega)]
 have key : Outs (runC (envL prog) (b9 (envL prog)) ([v] ++ List.replicate (29 - [v].length) .undef) H) fun e' t K => K = H ∧ fin [.tmp 2] (some (e', t, K)) = some (.bool (fairS L), K) := by
  unfold b9
  generalize hQ : (fun (e' : Ex) (t : T) (K : AHeap) => K = H ∧ fin [.tmp 2] (some (e', t, K)) = some (AV.bool (fairS L), K)) = Q
  simp -implicitDefEqProofs (maxSteps := 5000000) only [go_sem, Nat.reduceShiftRight, Nat.reduceAnd, Nat.reduceBNe, Int.reduceEq, Nat.reduceAdd, Nat.reduceSub, Nat.reduceMul, Nat.reduceLeDiff, reduceIte, reduceCtorEq, Nat.reduceBEq, Nat.reduceEqDiff, wrap64, runC_loop, runC_range, callF_fn, callV_fn, callV_yld, yield_eq, yieldBody, yieldRaw, roundMid, roundEnd, rangeEnd, Bool.not_not, put_cons, put_nil, trim_same, at_zero, at_add, set_zero, set_add, store_one, write_zero, write_add, write_head, write_succ, splice_one, splice_more, List.drop_nil, List.take_nil, cell_int, cell_bool, fillS, splice_one, idxA, Ex.isNormal, List.set_nil, List.length_set, List.all_cons, List.all_nil, Bool.and_self, and_self, true_and, and_true, List.getElem?_nil, Int.reduceLT, Int.reduceLE, Int.reduceToNat, Int.toNat_zero, Int.toNat_one, Int.reduceAdd, Int.reduceSub, Int.reduceMul, Int.reduceNeg, Int.reduceBEq, Int.reduceBNe, Int.reduceGE, Int.reduceGT, Nat.reduceLT, trim_keep, under_fn, under_ptr, under_sl, Nat.lt_irrefl, not_lt_add, trim_tail, keepOk, ABlk.vals, Int.cast_ofNat_Int, decide_true, decide_false, List.all_cons, List.all_nil, Nat.zero_mul, Nat.mul_one, Nat.one_mul, runC_loop]
  unfold LP1 at l0
  generalize (envL prog).loop (runC (envL prog) (l9x0 (envL prog))) = L0 at l0 ⊢
  refine outs_ctx (fun r => seqR (blockR 0 r) _) (l0 _ _ _ _ _ _ _ _ _ _ _ _ _ _ _ _ _ _ _ _ _ _ _ _ _ _ (by omega)) ?_
  rintro e t K ⟨rfl, fv, rfl, ⟨rfl, ho⟩ | ⟨rfl, f4, ho⟩⟩
  ·simp -implicitDefEqProofs (maxSteps := 5000000) only [go_sem, Nat.reduceShiftRight, Nat.reduceAnd, Nat.reduceBNe, Int.reduceEq, Nat.reduceAdd, Nat.reduceSub, Nat.reduceMul, Nat.reduceLeDiff, reduceIte, reduceCtorEq, Nat.reduceBEq, Nat.reduceEqDiff, wrap64, runC_loop, runC_range, callF_fn, callV_fn, callV_yld, yield_eq, yieldBody, yieldRaw, roundMid, roundEnd, rangeEnd, Bool.not_not, put_cons, put_nil, trim_same, at_zero, at_add, set_zero, set_add, store_one, write_zero, write_add, write_head, write_succ, splice_one, splice_more, List.drop_nil, List.take_nil, cell_int, cell_bool, fillS, splice_one, idxA, Ex.isNormal, List.set_nil, List.length_set, List.all_cons, List.all_nil, Bool.and_self, and_self, true_and, and_true, List.getElem?_nil, Int.reduceLT, Int.reduceLE, Int.reduceToNat, Int.toNat_zero, Int.toNat_one, Int.reduceAdd, Int.reduceSub, Int.reduceMul, Int.reduceNeg, Int.reduceBEq, Int.reduceBNe, Int.reduceGE, Int.reduceGT, Nat.reduceLT, trim_keep, under_fn, under_ptr, under_sl, Nat.lt_irrefl, not_lt_add, trim_tail, keepOk, ABlk.vals, Int.cast_ofNat_Int, decide_true, decide_false, List.all_cons, List.all_nil, Nat.zero_mul, Nat.mul_one, Nat.one_mul, wl, hd, outs_normal]
   subst hQ
   have : fairS L = decide (L.length ≤ 12) := by unfold fairS; rw [ho]; rfl
   rw [this]
   refine ⟨rfl, ?_⟩
   simp -implicitDefEqProofs (maxSteps := 5000000) only [go_sem, Nat.reduceShiftRight, Nat.reduceAnd, Nat.reduceBNe, Int.reduceEq, Nat.reduceAdd, Nat.reduceSub, Nat.reduceMul, Nat.reduceLeDiff, reduceIte, reduceCtorEq, Nat.reduceBEq, Nat.reduceEqDiff]
  ·simp -implicitDefEqProofs (maxSteps := 5000000) only [go_sem, Nat.reduceShiftRight, Nat.reduceAnd, Nat.reduceBNe, Int.reduceEq, Nat.reduceAdd, Nat.reduceSub, Nat.reduceMul, Nat.reduceLeDiff, reduceIte, reduceCtorEq, Nat.reduceBEq, Nat.reduceEqDiff, outs_normal]
   subst hQ
   have : fairS L = false := by unfold fairS; rw [ho]; rfl
   rw [this]
   refine ⟨rfl, ?_⟩
   simp -implicitDefEqProofs (maxSteps := 5000000) only [go_sem, Nat.reduceShiftRight, Nat.reduceAnd, Nat.reduceBNe, Int.reduceEq, Nat.reduceAdd, Nat.reduceSub, Nat.reduceMul, Nat.reduceLeDiff, reduceIte, reduceCtorEq, Nat.reduceBEq, Nat.reduceEqDiff, f4]
 obtain ⟨e', t, K, hr, rfl, hf⟩ := key
 rw [c9, hr, hf]; exact trim_same rfl
end
end Go.Proofs.Ythhodjcgcgkaaaa.G11
end
section
namespace Go.Proofs.Ythhodjcgcgkaaaa.G11
open Go Go.Proofs.Ythhodjcgcgkaaaa.Eng
section
variable {H : AHeap} {v : AV} {L : List SnS} (g : IsC H v L) (fi : Fits L)
include g fi
end
end Go.Proofs.Ythhodjcgcgkaaaa.G11
end
section
namespace Go.Proofs.Ythhodjcgcgkaaaa.G11
open Go Go.Proofs.Ythhodjcgcgkaaaa.Eng
end Go.Proofs.Ythhodjcgcgkaaaa.G11
end
section
namespace Go.Proofs.Ythhodjcgcgkaaaa.G11
open Go Go.Proofs.Ythhodjcgcgkaaaa.Eng
section
variable {K : AHeap} {B : Nat} {w : AV} {ats : List Int} (fs : FS K B w ats) (al : ats.length ≤ 100000) {s : SnS} {q : Nat} {vc vt : AV} (hq : cellsOf K q = some [.int .i64 s.id, vc, vt]) (bc : BS K vc s.ch) (pt : IsP K vt s.tb) (ft : s.Fit)
include fs al hq pt ft
include bc
end
section
variable {H : AHeap} {s : SnS} {q : Nat} {vc vt : AV} (pt : IsP H vt s.tb) (ft : s.Fit)
include pt ft
end
section
variable {K : AHeap} {v : AV} {n i0 : Nat} (wv : lenSl v = some (.int .i64 (n : Int))) (hn : n ≤ 1000) (hi0 : i0 < n) {cl : AV} {cs : List Int} (hcl : IS K cl cs) (cn : cs.length ≤ 100000) {s : SnS} {q : Nat} {vc vt : AV} (hq : cellsOf K q = some [.int .i64 s.id, vc, vt]) (pt : IsP K vt s.tb) (ft : s.Fit)
include wv hn hi0 hcl cn hq pt ft
end
end Go.Proofs.Ythhodjcgcgkaaaa.G11
end
section
namespace Go.Proofs.Ythhodjcgcgkaaaa.G11
open Go Go.Proofs.Ythhodjcgcgkaaaa.Eng
section
variable {H : AHeap} {v : AV} {L : List SnS} (g : IsC H v L) (fi : Fits L) (h8 : L.length ≤ 8) {bl : Int} (hbl : bl ≤ 9223372036854775807) (ar : Int)
include g fi h8 hbl
end
end Go.Proofs.Ythhodjcgcgkaaaa.G11
end
section
namespace Go.Proofs.Ythhodjcgcgkaaaa.G11
open Go Go.Proofs.Ythhodjcgcgkaaaa.Eng
def L3 : List SnS := [⟨1, [6], [(1, 0), (2, 1)]⟩, ⟨4, [12], [(2, 2), (3, 3)]⟩, ⟨5, [16], []⟩]
def K3 : AHeap := [.rw [.int .u8 6], .rw [.int .i64 1, .int .i64 0, .int .i64 2, .int .i64 1], .rw [.int .u8 12], .rw [.int .i64 2, .int .i64 2, .int .i64 3, .int .i64 3], .rw [.int .u8 16], .rw [.int .i64 1, .sl 0 0 1 1 1 true, .sl 1 0 2 2 2 true, .int .i64 4, .sl 2 0 1 1 1 true, .sl 3 0 2 2 2 true, .int .i64 5, .sl 4 0 1 1 1 true, .nilSl]]
set_option maxHeartbeats 4000000 in
theorem threeC : (envL prog).call 31 [] [] = some (.sl 5 0 3 3 3 true, K3) := by
 rw [c31]
 unfold b31
 simp -implicitDefEqProofs (maxSteps := 5000000) only [go_sem, Nat.reduceShiftRight, Nat.reduceAnd, Nat.reduceBNe, Int.reduceEq, Nat.reduceAdd, Nat.reduceSub, Nat.reduceMul, Nat.reduceLeDiff, reduceIte, reduceCtorEq, Nat.reduceBEq, Nat.reduceEqDiff, wrap64, runC_loop, runC_range, callF_fn, callV_fn, callV_yld, yield_eq, yieldBody, yieldRaw, roundMid, roundEnd, rangeEnd, Bool.not_not, put_cons, put_nil, trim_same, at_zero, at_add, set_zero, set_add, store_one, write_zero, write_add, write_head, write_succ, splice_one, splice_more, List.drop_nil, List.take_nil, cell_int, cell_bool, fillS, splice_one, idxA, Ex.isNormal, List.set_nil, List.length_set, List.all_cons, List.all_nil, Bool.and_self, and_self, true_and, and_true, List.getElem?_nil, Int.reduceLT, Int.reduceLE, Int.reduceToNat, Int.toNat_zero, Int.toNat_one, Int.reduceAdd, Int.reduceSub, Int.reduceMul, Int.reduceNeg, Int.reduceBEq, Int.reduceBNe, Int.reduceGE, Int.reduceGT, Nat.reduceLT, trim_keep, under_fn, under_ptr, under_sl, Nat.lt_irrefl, not_lt_add, trim_tail, keepOk, ABlk.vals, Int.cast_ofNat_Int, decide_true, decide_false, List.all_cons, List.all_nil, Nat.zero_mul, Nat.mul_one, Nat.one_mul, cellsA_agg]
 rfl
theorem isC3 : IsC K3 (.sl 5 0 3 3 3 true) L3 := by
 refine .inr ⟨5, 3, true, [[.int .i64 1, .sl 0 0 1 1 1 true, .sl 1 0 2 2 2 true], [.int .i64 4, .sl 2 0 1 1 1 true, .sl 3 0 2 2 2 true], [.int .i64 5, .sl 4 0 1 1 1 true, .nilSl]], [], rfl, by decide, rfl, rfl, fun i r s h1 h2 => ?_⟩
 match i with
 | 0 =>
  simp only [L3, List.getElem?_cons_zero, Option.some.injEq] at h1 h2
  subst h1; subst h2
  exact ⟨_, _, rfl, BS.block (H := K3) (b := 0) (zs := [6]) (l := 1) (e := true) rfl, .inr ⟨1, 2, true, rfl, by decide, rfl⟩⟩
 | 1 =>
  simp only [L3, List.getElem?_cons_succ, List.getElem?_cons_zero, Option.some.injEq] at h1 h2
  subst h1; subst h2
  exact ⟨_, _, rfl, BS.block (H := K3) (b := 2) (zs := [12]) (l := 1) (e := true) rfl, .inr ⟨3, 2, true, rfl, by decide, rfl⟩⟩
 | 2 =>
  simp only [L3, List.getElem?_cons_succ, List.getElem?_cons_zero, Option.some.injEq] at h1 h2
  subst h1; subst h2
  exact ⟨_, _, rfl, BS.block (H := K3) (b := 4) (zs := [16]) (l := 1) (e := true) rfl, .inl ⟨rfl, rfl⟩⟩
 | n + 3 => simp [L3] at h2
theorem fits3 : Fits L3 := ⟨by decide, fun s hs => by
 simp only [L3, List.mem_cons, List.mem_nil_iff, or_false] at hs
 rcases hs with rfl | rfl | rfl <;> exact ⟨by unfold IsU8; decide, by decide, by decide⟩⟩
noncomputable def XD : Over := X3.up prog 22
theorem xd_ok : XD.Ok prog := up_ok goodP x3_ok _
theorem xd_call (f : Nat) (args : List AV) (h : AHeap) (ed : (f == 22) = false) (em : (f == 44) = false) (e0 : (f == 61) = false) (e1 : (f == 69) = false) (e2 : (f == 70) = false) : (envX prog XD).call f args h = (envL prog).call f args h := by
 unfold XD Over.up; rw [x_miss _ _ ed, x3_call _ _ _ em e0 e1 e2]
theorem xd_drop {args : List AV} {h : AHeap} {r : AV × AHeap} (e : callBody prog (envX prog X3) 22 args h = some r) : (envX prog XD).call 22 args h = some r := x_hit e
set_option maxHeartbeats 8000000 in
theorem wakesC : ∃ h1, callBody prog (envX prog XD) 10 [] [] = some (.bool true, h1) := by
 have e0 := threeC
 obtain ⟨v1, K1, e1, a1, g1⟩ := dropC isC3 fits3 1
 have e1 := xd_drop e1
 rw [show dropS L3 1 = [⟨1, [14], [(1, 0), (2, 1), (3, 3)]⟩, ⟨5, [16], []⟩] by decide +kernel] at g1
 have c3 := isC3.adds a1
 obtain ⟨v2, K2, e2, a2, g2⟩ := cutC c3 fits3 1
 rw [show cutS L3 1 = [⟨1, [6], [(1, 0), (2, 1)]⟩, ⟨4, [0], []⟩] by decide +kernel] at g2
 have c3 := c3.adds a2
 have g1 := g1.adds a2
 have e3 := holderC c3 fits3 3 0
 have e4 := holderC c3 fits3 4 0
 rw [show holdS L3 0 3 = (3, true) by decide +kernel] at e3
 rw [show holdS L3 0 4 = (0, false) by decide +kernel] at e4
 have e5 := cgoodC c3 fits3 (bl := 8) (by decide) 4
 rw [show cgood L3 8 4 = true by decide +kernel] at e5
 have e6 := cindexC c3 fits3 5
 have e7 := cindexC c3 fits3 2
 rw [show cidF 5 0 L3 = 2 by decide +kernel] at e6
 rw [show cidF 2 0 L3 = -1 by decide +kernel] at e7
 obtain ⟨v3, K4, e8, a3, g3⟩ := changedC c3 fits3 2 0
 rw [show chgS L3 0 2 = [14] by decide +kernel] at g3
 have A4 : Adds K4 (K4 ++ [ABlk.rw [.int .u8 14]]) := ⟨_, rfl⟩
 have e9 := Bt.bytesC (A4.bs g3) (w := .sl K4.length 0 1 1 1 true) (ys := [14]) (BS.block (H := K4 ++ [ABlk.rw [.int .u8 14]]) (b := K4.length) (zs := [14]) (l := 1) (e := true) (by simp; rfl)) (by unfold IsU8; decide) (by unfold IsU8; decide)
 rw [show decide (([14] : List Int) = [14]) = true by decide] at e9
 have l1 := g1.len
 have l2 := g2.len
 obtain ⟨b1, cs1, vc1, vt1, _, ix1, hc1, _, q1, q2, _, _, bc1, pt1⟩ := g1.idx (i := 0) (s := ⟨1, [14], [(1, 0), (2, 1), (3, 3)]⟩) rfl
 obtain ⟨b2, cs2, vc2, vt2, _, ix2, hc2, _, r1, r2, _, _, bc2, pt2⟩ := g2.idx (i := 1) (s := ⟨4, [0], []⟩) rfl
 have m1 := pt1.len
 have m2 := pt2.len
 obtain ⟨p1, jx1, ld1⟩ := bc1.idx (i := 0) (z := 14) rfl .i64
 obtain ⟨p2, jx2, ld2⟩ := bc2.idx (i := 0) (z := 0) rfl .i64
 rw [show (((0 : Nat)) : Int) = 0 from rfl] at ix1 jx1 jx2
 rw [show (((1 : Nat)) : Int) = 1 from rfl] at ix2
 simp only [List.length_cons, List.length_nil] at l1 l2 m1 m2
 simp only [Nat.reduceAdd, Nat.reduceMul, Nat.zero_add, Nat.zero_mul, Nat.one_mul, show ((3 : Nat) : Int) = 3 from rfl, show ((2 : Nat) : Int) = 2 from rfl, show ((0 : Nat) : Int) = 0 from rfl] at l1 l2 m1 m2 ix1 ix2 q1 q2 r1 r2
 rw [d10]
 have key : Outs (runC (envX prog XD) (b10 (envX prog XD)) ([] ++ List.replicate (96 - ([] : List AV).length) .undef) []) fun e t h1 => fin [.tmp 0] (some (e, t, h1)) = some (AV.bool true, h1) := by
  unfold b10
  generalize hQ : (fun (e : Ex) (t : T) (h1 : AHeap) => fin [.tmp 0] (some (e, t, h1)) = some (AV.bool true, h1)) = Q
  simp -implicitDefEqProofs (maxSteps := 5000000) only [go_sem, Nat.reduceShiftRight, Nat.reduceAnd, Nat.reduceBNe, Int.reduceEq, Nat.reduceAdd, Nat.reduceSub, Nat.reduceMul, Nat.reduceLeDiff, reduceIte, reduceCtorEq, Nat.reduceBEq, Nat.reduceEqDiff, wrap64, runC_loop, runC_range, callF_fn, callV_fn, callV_yld, yield_eq, yieldBody, yieldRaw, roundMid, roundEnd, rangeEnd, Bool.not_not, put_cons, put_nil, trim_same, at_zero, at_add, set_zero, set_add, store_one, write_zero, write_add, write_head, write_succ, splice_one, splice_more, List.drop_nil, List.take_nil, cell_int, cell_bool, fillS, splice_one, idxA, Ex.isNormal, List.set_nil, List.length_set, List.all_cons, List.all_nil, Bool.and_self, and_self, true_and, and_true, List.getElem?_nil, Int.reduceLT, Int.reduceLE, Int.reduceToNat, Int.toNat_zero, Int.toNat_one, Int.reduceAdd, Int.reduceSub, Int.reduceMul, Int.reduceNeg, Int.reduceBEq, Int.reduceBNe, Int.reduceGE, Int.reduceGT, Nat.reduceLT, trim_keep, under_fn, under_ptr, under_sl, Nat.lt_irrefl, not_lt_add, trim_tail, keepOk, ABlk.vals, Int.cast_ofNat_Int, decide_true, decide_false, List.all_cons, List.all_nil, Nat.zero_mul, Nat.mul_one, Nat.one_mul, xd_call, e0, e1, e2, e3, e4, e5, e6, e7, e8, l1, l2, ix1, hc1, q1, q2, m1, jx1, ld1, ix2, hc2, r1, r2, m2, jx2, ld2, e9, outs_normal]
  subst hQ
  simp -implicitDefEqProofs (maxSteps := 5000000) only [go_sem, Nat.reduceShiftRight, Nat.reduceAnd, Nat.reduceBNe, Int.reduceEq, Nat.reduceAdd, Nat.reduceSub, Nat.reduceMul, Nat.reduceLeDiff, reduceIte, reduceCtorEq, Nat.reduceBEq, Nat.reduceEqDiff]
 unfold b10 at key ⊢
 exact of_outs key
end Go.Proofs.Ythhodjcgcgkaaaa.G11
end
section
namespace Go.Proofs.Ythhodjcgcgkaaaa.G11
open Go Go.Proofs.Ythhodjcgcgkaaaa.Eng
noncomputable def X4 : Over := XD.with 10 wakeR
theorem x4_ok : X4.Ok prog := with_ok xd_ok (wake_ok goodP xd_ok wakesC.choose_spec)
theorem x4_call (f : Nat) (args : List AV) (h : AHeap) (ew : (f == 10) = false) (ed : (f == 22) = false) (em : (f == 44) = false) (e0 : (f == 61) = false) (e1 : (f == 69) = false) (e2 : (f == 70) = false) : (envX prog X4).call f args h = (envL prog).call f args h := by
 unfold X4; rw [x_miss _ _ ew, xd_call _ _ _ ed em e0 e1 e2]
theorem x4_drop {args : List AV} {h : AHeap} {r : AV × AHeap} (e : callBody prog (envX prog X3) 22 args h = some r) : (envX prog X4).call 22 args h = some r := by
 unfold X4; rw [x_miss _ _ (by decide)]; exact xd_drop e
theorem x4_wakes (h : AHeap) : (envX prog X4).call 10 [] h = some (.bool true, h) := x_hit rfl
structure Fair (L : List SnS) : Prop where
 n : L.length ≤ 12
 u8 : ∀ s ∈ L, IsU8 s.ch
 lc : ∀ s ∈ L, s.ch.length ≤ 40
 lt : ∀ s ∈ L, s.tb.length ≤ 80
theorem fairS_fair {L : List SnS} (h : fairS L = true) (hu : ∀ s ∈ L, IsU8 s.ch) : Fair L := by
 unfold fairS at h
 rw [Bool.and_eq_true, List.all_eq_true, decide_eq_true_eq] at h
 have q := fun s hs => by
  have := h.1 s hs
  rw [Bool.and_eq_true, decide_eq_true_eq, decide_eq_true_eq] at this
  exact this
 exact ⟨h.2, hu, fun s hs => (q s hs).1, fun s hs => (q s hs).2⟩
theorem Fair.fits {L : List SnS} (f : Fair L) : Fits L := ⟨by have := f.n; omega, fun s hs => ⟨f.u8 s hs, by have := f.lc s hs; omega, by have := f.lt s hs; omega⟩⟩
theorem tmerge_len (a : List PrS) : ∀ (b k : List PrS) (f : List Int), (tmerge a b k f).1.length ≤ k.length + b.length
 | [], k, f => by simp [tmerge]
 | p :: b, k, f => by
  rw [tmerge]
  split
  ·have := tmerge_len a b k (f ++ [p.2]); simp only [List.length_cons]; omega
  ·have := tmerge_len a b (tput k p.1 p.2) f
   have := tput_len k p.1 p.2
   simp only [List.length_cons]; omega
theorem join_fit {s u : SnS} (h1 : IsU8 s.ch) (h2 : IsU8 u.ch) (l1 : s.ch.length ≤ 40) (l2 : u.ch.length ≤ 40) (t1 : s.tb.length ≤ 80) (t2 : u.tb.length ≤ 80) : (joinS s u).Fit :=
 ⟨Bt.orS_u8 h1 h2, by show (Bt.orS s.ch u.ch).length ≤ 1000; rw [Bt.orS_len]; omega, by have := tmerge_len s.tb u.tb s.tb []; show (tmerge s.tb u.tb s.tb []).1.length ≤ 1000; omega⟩
theorem dropN_mem {L : List SnS} : ∀ {k : Nat} {x : SnS}, x ∈ dropN L k → x ∈ L ∨ ∃ s ∈ L, ∃ u ∈ L, x = joinS s u
 | 0, x, h => .inl (List.mem_of_mem_drop h)
 | k + 1, x, h => by
  simp only [dropN] at h
  split at h
  ·rename_i s u hs hu
   rcases List.mem_append.1 h with h | h
   ·exact .inl (List.mem_of_mem_take h)
   ·rcases List.mem_cons.1 h with h | h
    ·exact .inr ⟨s, List.mem_of_getElem? hs, u, List.mem_of_getElem? hu, h⟩
    ·exact .inl (List.mem_of_mem_drop h)
  ·exact .inl h
theorem dropN_len {L : List SnS} : ∀ k : Nat, (dropN L k).length ≤ L.length
 | 0 => by unfold dropN; rw [List.length_drop]; omega
 | k + 1 => by
  simp only [dropN]
  split
  ·rename_i s u hs hu
   have := (List.getElem?_eq_some_iff.1 hu).1
   rw [List.length_append, List.length_take, List.length_cons, List.length_drop]; omega
  ·exact Nat.le_refl _
theorem Fair.drop {L : List SnS} (f : Fair L) (i : Int) : Fits (dropS L i) := by
 unfold dropS
 split
 ·exact f.fits
 ·refine ⟨by have := dropN_len (L := L) i.toNat; have := f.n; omega, fun x hx => ?_⟩
  rcases dropN_mem hx with h | ⟨s, hs, u, hu, rfl⟩
  ·exact f.fits.2 x h
  ·exact join_fit (f.u8 s hs) (f.u8 u hu) (f.lc s hs) (f.lc u hu) (f.lt s hs) (f.lt u hu)
theorem Fair.cut {L : List SnS} (f : Fair L) (i : Int) : Fits (cutS L i) := by
 unfold cutS
 split
 ·exact f.fits
 ·split
  ·rename_i s hs
   refine ⟨by rw [List.length_append, List.length_take, List.length_singleton]; have := f.n; omega, fun x hx => ?_⟩
   rcases List.mem_append.1 hx with h | h
   ·exact f.fits.2 x (List.mem_of_mem_take h)
   ·rw [List.mem_singleton.1 h]
    exact ⟨Bt.rep_u8 _, by show (List.replicate s.ch.length (0 : Int)).length ≤ 1000; rw [List.length_replicate]; have := f.lc s (List.mem_of_getElem? hs); omega, by simp⟩
  ·exact f.fits
end Go.Proofs.Ythhodjcgcgkaaaa.G11
end
section
namespace Go.Proofs.Ythhodjcgcgkaaaa.G11
open Go Go.Proofs.Ythhodjcgcgkaaaa.Eng
set_option maxHeartbeats 32000000 in
theorem chainCuts (v : AV) (i : Int) (h : AHeap) (d : DatC h (.sl [.int .i64, .sl [.int .u8], .sl [.int .i64, .int .i64]]) v) : ∃ h', callBody prog (envX prog X4) 4 [v, .int .i64 i] h = some (.bool true, h') := by
 obtain ⟨L, gl, ln, hL⟩ := snaps_dat d
 rw [d4]
 refine of_outs ?_
 unfold b4
 generalize hQ : (fun (e : Ex) (t : T) (h1 : AHeap) => fin [.tmp 4] (some (e, t, h1)) = some (AV.bool true, h1)) = Q
 have ef := fairC gl ⟨ln, fun s hs => ⟨(hL s hs).2.2.1, (hL s hs).2.2.2.1⟩⟩
 rcases hf : fairS L with _ | _ <;> rw [hf] at ef
 ·simp -implicitDefEqProofs (maxSteps := 5000000) only [go_sem, Nat.reduceShiftRight, Nat.reduceAnd, Nat.reduceBNe, Int.reduceEq, Nat.reduceAdd, Nat.reduceSub, Nat.reduceMul, Nat.reduceLeDiff, reduceIte, reduceCtorEq, Nat.reduceBEq, Nat.reduceEqDiff, wrap64, runC_loop, runC_range, callF_fn, callV_fn, callV_yld, yield_eq, yieldBody, yieldRaw, roundMid, roundEnd, rangeEnd, Bool.not_not, put_cons, put_nil, trim_same, at_zero, at_add, set_zero, set_add, store_one, write_zero, write_add, write_head, write_succ, splice_one, splice_more, List.drop_nil, List.take_nil, cell_int, cell_bool, fillS, splice_one, idxA, Ex.isNormal, List.set_nil, List.length_set, List.all_cons, List.all_nil, Bool.and_self, and_self, true_and, and_true, List.getElem?_nil, Int.reduceLT, Int.reduceLE, Int.reduceToNat, Int.toNat_zero, Int.toNat_one, Int.reduceAdd, Int.reduceSub, Int.reduceMul, Int.reduceNeg, Int.reduceBEq, Int.reduceBNe, Int.reduceGE, Int.reduceGT, Nat.reduceLT, trim_keep, under_fn, under_ptr, under_sl, Nat.lt_irrefl, not_lt_add, trim_tail, keepOk, ABlk.vals, Int.cast_ofNat_Int, decide_true, decide_false, List.all_cons, List.all_nil, Nat.zero_mul, Nat.mul_one, Nat.one_mul, x4_call, ef, x4_wakes, outs_normal]
  subst hQ
  simp -implicitDefEqProofs (maxSteps := 5000000) only [go_sem, Nat.reduceShiftRight, Nat.reduceAnd, Nat.reduceBNe, Int.reduceEq, Nat.reduceAdd, Nat.reduceSub, Nat.reduceMul, Nat.reduceLeDiff, reduceIte, reduceCtorEq, Nat.reduceBEq, Nat.reduceEqDiff]
 have f := fairS_fair hf fun s hs => (hL s hs).2.1
 have fi := f.fits
 obtain ⟨w, K1, ec, A1, rows, gc⟩ := copyCh gl fi
 have gw := gc.isC
 have g1 := gl.adds A1
 obtain ⟨x2, K2, e2, A2, p2⟩ := dropC gw fi i
 have e2 := x4_drop e2
 obtain ⟨x3, K3, e3, A3, p3⟩ := rdropC (g1.adds A2) fi i
 have es := snapsC (p2.adds A3) p3 (f.drop i) (f.drop i)
 rw [decide_eq_true rfl] at es
 have gw3 := (gw.adds A2).adds A3
 have g3 := (g1.adds A2).adds A3
 obtain ⟨x4, K4, e4, A4, p4⟩ := cutC gw3 fi i
 obtain ⟨x5, K5, e5, A5, p5⟩ := rcutC (g3.adds A4) fi i
 have es' := snapsC (p4.adds A5) p5 (f.cut i) (f.cut i)
 rw [decide_eq_true rfl] at es'
 have et := snapsC ((gw3.adds A4).adds A5) ((g3.adds A4).adds A5) fi fi
 rw [decide_eq_true rfl] at et
 simp -implicitDefEqProofs (maxSteps := 5000000) only [go_sem, Nat.reduceShiftRight, Nat.reduceAnd, Nat.reduceBNe, Int.reduceEq, Nat.reduceAdd, Nat.reduceSub, Nat.reduceMul, Nat.reduceLeDiff, reduceIte, reduceCtorEq, Nat.reduceBEq, Nat.reduceEqDiff, wrap64, runC_loop, runC_range, callF_fn, callV_fn, callV_yld, yield_eq, yieldBody, yieldRaw, roundMid, roundEnd, rangeEnd, Bool.not_not, put_cons, put_nil, trim_same, at_zero, at_add, set_zero, set_add, store_one, write_zero, write_add, write_head, write_succ, splice_one, splice_more, List.drop_nil, List.take_nil, cell_int, cell_bool, fillS, splice_one, idxA, Ex.isNormal, List.set_nil, List.length_set, List.all_cons, List.all_nil, Bool.and_self, and_self, true_and, and_true, List.getElem?_nil, Int.reduceLT, Int.reduceLE, Int.reduceToNat, Int.toNat_zero, Int.toNat_one, Int.reduceAdd, Int.reduceSub, Int.reduceMul, Int.reduceNeg, Int.reduceBEq, Int.reduceBNe, Int.reduceGE, Int.reduceGT, Nat.reduceLT, trim_keep, under_fn, under_ptr, under_sl, Nat.lt_irrefl, not_lt_add, trim_tail, keepOk, ABlk.vals, Int.cast_ofNat_Int, decide_true, decide_false, List.all_cons, List.all_nil, Nat.zero_mul, Nat.mul_one, Nat.one_mul, x4_call, ef, ec, e2, e3, es, e4, e5, es', et, x4_wakes, outs_normal]
 subst hQ
 simp -implicitDefEqProofs (maxSteps := 5000000) only [go_sem, Nat.reduceShiftRight, Nat.reduceAnd, Nat.reduceBNe, Int.reduceEq, Nat.reduceAdd, Nat.reduceSub, Nat.reduceMul, Nat.reduceLeDiff, reduceIte, reduceCtorEq, Nat.reduceBEq, Nat.reduceEqDiff]
section
variable {H : AHeap} {v : AV} {L : List SnS} (g : IsC H v L) (fi : Fits L)
include g fi
end
end Go.Proofs.Ythhodjcgcgkaaaa.G11
end
