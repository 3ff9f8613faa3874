/- What the functions that RigPlays reaches answer, for every argument. No condition but those in each statement. -/
import Derived.Test.YthjkfincekckhaaX3
import Derived.Test.YthjkfincekckhaaR8
import Derived.Test.YthjkfincekckhaaE6
set_option linter.unusedSimpArgs false
set_option linter.unusedVariables false
set_option linter.unusedSectionVars false
set_option maxRecDepth 10000
namespace Go.Proofs.Ythjkfincekckhaa.G04
open Go Go.Proofs.Ythjkfincekckhaa.Eng
section
variable {H : AHeap} {p c : Nat} {x y : Pl} {L0 L1 : List (AV × Sec)} {r : RgS} (m : RQ H p x y c L0 L1 r)
include m
theorem rq_cells (B : AHeap) : cellsOf (H ++ B) p = some (rgCells x.p y.p r) := cells_old (cells_rw m.blk)
set_option maxHeartbeats 2000000 in
theorem rqHasC (dev i : Int) : (envL prog).call 32 [.ptr p 0, .int .i64 dev, .int .i64 i] H = some (.bool (decide (0 ≤ i ∧ i < ((r.dk dev).length : Int))), H) := by
  have hc := cells_rw m.blk
  unfold rgCells at hc
  rw [c32]
  unfold b32
  by_cases h0 : dev = 0
  · subst h0
    have e := refHasC m.k0 i
    rw [show L0.length = (r.dk 0).length by rw [show r.dk 0 = r.a from rfl, ← m.e0, List.length_map]] at e
    have d1 : decide ((0 : Int) ≥ 0) = true := rfl
    have d2 : decide ((0 : Int) ≤ 1) = true := rfl
    simp -implicitDefEqProofs (maxSteps := 5000000) only [go_sem, Nat.reduceShiftRight, Nat.reduceAnd, Nat.reduceBNe, Int.reduceEq, Nat.reduceAdd, Nat.reduceSub, Nat.reduceMul, Nat.reduceLeDiff, reduceIte, reduceCtorEq, Nat.reduceBEq, Nat.reduceEqDiff, wrap64, runC_loop, runC_range, callF_fn, callV_fn, callV_yld, yield_eq, yieldBody, yieldRaw, roundMid, roundEnd, rangeEnd, Bool.not_not, put_cons, put_nil, trim_same, at_zero, at_add, set_zero, set_add, store_one, write_zero, write_add, write_head, write_succ, splice_one, splice_more, List.drop_nil, List.take_nil, cell_int, cell_bool, fillS, splice_one, idxA, Ex.isNormal, List.set_nil, List.length_set, List.all_cons, List.all_nil, Bool.and_self, and_self, true_and, and_true, List.getElem?_nil, Int.reduceLT, Int.reduceLE, Int.reduceToNat, Int.toNat_zero, Int.toNat_one, Int.reduceAdd, Int.reduceSub, Int.reduceMul, Int.reduceNeg, Int.reduceBEq, Int.reduceBNe, Int.reduceGE, Int.reduceGT, Nat.reduceLT, trim_keep, under_fn, under_ptr, under_sl, Nat.lt_irrefl, not_lt_add, trim_tail, keepOk, ABlk.vals, Int.cast_ofNat_Int, decide_true, decide_false, List.all_cons, List.all_nil, Nat.zero_mul, Nat.mul_one, Nat.one_mul, idx_arr, hc, e, d1, d2]
  by_cases h1 : dev = 1
  · subst h1
    have e := refHasC m.k1 i
    rw [show L1.length = (r.dk 1).length by rw [show r.dk 1 = r.b from rfl, ← m.e1, List.length_map]] at e
    have d1 : decide ((1 : Int) ≥ 0) = true := rfl
    have d2 : decide ((1 : Int) ≤ 1) = true := rfl
    simp -implicitDefEqProofs (maxSteps := 5000000) only [go_sem, Nat.reduceShiftRight, Nat.reduceAnd, Nat.reduceBNe, Int.reduceEq, Nat.reduceAdd, Nat.reduceSub, Nat.reduceMul, Nat.reduceLeDiff, reduceIte, reduceCtorEq, Nat.reduceBEq, Nat.reduceEqDiff, wrap64, runC_loop, runC_range, callF_fn, callV_fn, callV_yld, yield_eq, yieldBody, yieldRaw, roundMid, roundEnd, rangeEnd, Bool.not_not, put_cons, put_nil, trim_same, at_zero, at_add, set_zero, set_add, store_one, write_zero, write_add, write_head, write_succ, splice_one, splice_more, List.drop_nil, List.take_nil, cell_int, cell_bool, fillS, splice_one, idxA, Ex.isNormal, List.set_nil, List.length_set, List.all_cons, List.all_nil, Bool.and_self, and_self, true_and, and_true, List.getElem?_nil, Int.reduceLT, Int.reduceLE, Int.reduceToNat, Int.toNat_zero, Int.toNat_one, Int.reduceAdd, Int.reduceSub, Int.reduceMul, Int.reduceNeg, Int.reduceBEq, Int.reduceBNe, Int.reduceGE, Int.reduceGT, Nat.reduceLT, trim_keep, under_fn, under_ptr, under_sl, Nat.lt_irrefl, not_lt_add, trim_tail, keepOk, ABlk.vals, Int.cast_ofNat_Int, decide_true, decide_false, List.all_cons, List.all_nil, Nat.zero_mul, Nat.mul_one, Nat.one_mul, idx_arr, hc, e, d1, d2]
  have ed : decide (0 ≤ i ∧ i < ((r.dk dev).length : Int)) = false := decide_eq_false (by unfold RgS.dk; rw [if_neg h0, if_neg h1]; simp)
  rw [ed]
  by_cases hd : dev ≥ 0
  · have d1 := decide_eq_true hd
    have d2 : decide (dev ≤ 1) = false := decide_eq_false (by omega)
    simp -implicitDefEqProofs (maxSteps := 5000000) only [go_sem, Nat.reduceShiftRight, Nat.reduceAnd, Nat.reduceBNe, Int.reduceEq, Nat.reduceAdd, Nat.reduceSub, Nat.reduceMul, Nat.reduceLeDiff, reduceIte, reduceCtorEq, Nat.reduceBEq, Nat.reduceEqDiff, hc, d1, d2]
  · have d1 := decide_eq_false hd
    simp -implicitDefEqProofs (maxSteps := 5000000) only [go_sem, Nat.reduceShiftRight, Nat.reduceAnd, Nat.reduceBNe, Int.reduceEq, Nat.reduceAdd, Nat.reduceSub, Nat.reduceMul, Nat.reduceLeDiff, reduceIte, reduceCtorEq, Nat.reduceBEq, Nat.reduceEqDiff, hc, d1]
/-- Which disk a number means. -/
theorem rqDev {dev : Int} (h : dev = 0 ∨ dev = 1) : ∃ (q : Pl) (L : List (AV × Sec)), (∀ B, ∃ o, idxAddrA 2 1 (.ptr p 0) (.int .i64 dev) = some (.ptr p o) ∧ ∃ cs, cellsOf (H ++ B) p = some cs ∧ cs[o]? = some (.ptr q.p 0)) ∧ RD H q.p q.s q.v c L ∧ L.map (·.2) = r.dk dev := by
  rcases h with rfl | rfl
  · exact ⟨x, L0, fun B => ⟨0, rfl, _, rq_cells m B, rfl⟩, m.k0, m.e0⟩
  · exact ⟨y, L1, fun B => ⟨1, rfl, _, rq_cells m B, rfl⟩, m.k1, m.e1⟩
set_option maxHeartbeats 4000000 in
theorem rqReadC (dev i : Int) : (envL prog).call 16 [.ptr p 0, .int .i64 dev, .int .i64 i] H = some (.tup [.agg (u8s (r.read dev i).1), .int .i64 (r.read dev i).2], H) := by
  have hcc := fun B => rq_cells m B
  unfold rgCells at hcc
  have z0 : splice (rep 64 (.int .u8 0)) 0 (rep 64 (.int .u8 0)) = rep 64 (.int .u8 0) := splice_rep _ 64 _ (by omega) (rep_len _ _)
  have zc := rep_cell 64 (.int .u8 0) rfl
  have zt := rep_take 64 (.int .u8 0)
  have zu := rep_under 64 H.length (.int .u8 0) rfl
  have ez : u8s zeros64 = rep 64 (.int .u8 0) := (rep_u8s 64 0).symm
  have hh := fun B => rqHasC (m.adds B) dev i
  rw [c16]
  unfold b16
  by_cases hx : 0 ≤ i ∧ i < ((r.dk dev).length : Int)
  · have dx := decide_eq_true hx
    rw [dx] at hh
    have hdev : dev = 0 ∨ dev = 1 := by
      by_cases h0 : dev = 0
      · exact .inl h0
      · by_cases h1 : dev = 1
        · exact .inr h1
        · unfold RgS.dk at hx; rw [if_neg h0, if_neg h1] at hx; simp at hx; omega
    cases hd : r.down with
    | true =>
      have er : r.read dev i = (zeros64, 14) := by unfold RgS.read; rw [if_pos hx, hd]; rfl
      rw [er, ez]
      rw [hd] at hcc
      simp -implicitDefEqProofs (maxSteps := 5000000) only [go_sem, Nat.reduceShiftRight, Nat.reduceAnd, Nat.reduceBNe, Int.reduceEq, Nat.reduceAdd, Nat.reduceSub, Nat.reduceMul, Nat.reduceLeDiff, reduceIte, reduceCtorEq, Nat.reduceBEq, Nat.reduceEqDiff, hh, hcc, store_one, write_zero, z0, zc, zt, zu, rep_len]
    | false =>
      obtain ⟨q, L, hq, k, hl⟩ := rqDev m hdev
      obtain ⟨n, rfl⟩ : ∃ n : Nat, i = n := ⟨i.toNat, by omega⟩
      obtain ⟨w, hx1, hx2⟩ := get_sec hl (n := n) (by omega)
      have er : r.read dev (n : Int) = (w.2.last, 0) := by unfold RgS.read; rw [if_pos hx, hd, Int.toNat_natCast, hx2]; rfl
      rw [er]
      rw [hd] at hcc
      obtain ⟨o, q1, cs, q2, q3⟩ := hq [.rw (rep 64 (.int .u8 0))]
      have c2 := refReadC (k.adds [.rw (rep 64 (.int .u8 0))]) hx1
      rw [hcc] at q2
      injection q2 with q2
      subst q2
      have l64 := (k.vs.at hx1).2.1.last.1
      have w64 : (u8s w.2.last).length = 64 := by rw [u8s_len]; exact l64
      have uc := u8s_cell w.2.last
      have sp := splice_u8 (.int .u8 0) l64 (by omega)
      have tk := u8s_take l64
      have ul := u8s_all w.2.last H.length
      simp -implicitDefEqProofs (maxSteps := 5000000) only [go_sem, Nat.reduceShiftRight, Nat.reduceAnd, Nat.reduceBNe, Int.reduceEq, Nat.reduceAdd, Nat.reduceSub, Nat.reduceMul, Nat.reduceLeDiff, reduceIte, reduceCtorEq, Nat.reduceBEq, Nat.reduceEqDiff, hh, hcc, q1, q3, c2, store_one, write_zero, w64, uc, sp, tk, ul, rep_len]
  · have dx := decide_eq_false hx
    rw [dx] at hh
    have er : r.read dev i = (zeros64, 1) := by unfold RgS.read; rw [if_neg hx]
    rw [er, ez]
    simp -implicitDefEqProofs (maxSteps := 5000000) only [go_sem, Nat.reduceShiftRight, Nat.reduceAnd, Nat.reduceBNe, Int.reduceEq, Nat.reduceAdd, Nat.reduceSub, Nat.reduceMul, Nat.reduceLeDiff, reduceIte, reduceCtorEq, Nat.reduceBEq, Nat.reduceEqDiff, hh, store_one, write_zero, z0, zc, zt, zu, rep_len]
set_option maxHeartbeats 1000000 in
theorem rqThroughC : RQ (H.set p (.rw (rgCells x.p y.p r.pass.1))) p x y c L0 L1 r.pass.1 ∧ (envL prog).call 33 [.ptr p 0] H = some (.bool (decide (r.pass.2 = 0)), H.set p (.rw (rgCells x.p y.p r.pass.1))) := by
  have ab : r.pass.1.a = r.a ∧ r.pass.1.b = r.b := by unfold RgS.pass; split <;> exact ⟨rfl, rfl⟩
  refine ⟨m.set _ ab.1 ab.2, ?_⟩
  obtain ⟨a, b, fuse, down, done⟩ := r
  have hp := lt_of_at m.blk
  have hc := cells_rw m.blk
  have t : ∀ (x : Bool) R, trim H (some (.bool x, H.set p R)) = some (.bool x, H.set p R) := fun x R => trim_same (by simp)
  have w : ∀ (G : AHeap) f dn k, G[p]? = some (.rw [.ptr x.p 0, .ptr y.p 0, .int .i64 f, .bool dn, .int .i64 k]) → (∀ z, writeN G p 2 [.int .i64 z] = some (G.set p (.rw [.ptr x.p 0, .ptr y.p 0, .int .i64 z, .bool dn, .int .i64 k]))) ∧ (∀ z, writeN G p 3 [.bool z] = some (G.set p (.rw [.ptr x.p 0, .ptr y.p 0, .int .i64 f, .bool z, .int .i64 k]))) ∧ (∀ z, writeN G p 4 [.int .i64 z] = some (G.set p (.rw [.ptr x.p 0, .ptr y.p 0, .int .i64 f, .bool dn, .int .i64 z]))) := by
    intro G f dn k h
    refine ⟨fun z => ?_, fun z => ?_, fun z => ?_⟩ <;> (rw [write_of h, if_pos ⟨by simp, rfl⟩, splice_one]; rfl)
  obtain ⟨w2, w3, w4⟩ := w H fuse down done m.blk
  have at2 : ∀ cs, cellsOf (H.set p (.rw cs)) p = some cs := fun cs => cells_rw (at_set _ _ _ hp)
  have v4 := fun f dn k => (w (H.set p (.rw [.ptr x.p 0, .ptr y.p 0, .int .i64 f, .bool dn, .int .i64 k])) f dn k (at_set _ _ _ hp)).2.2
  unfold rgCells at *
  rw [c33]
  unfold b33
  cases down with
  | true =>
    have e : RgS.pass ⟨a, b, fuse, true, done⟩ = (⟨a, b, fuse, true, done⟩, 14) := by unfold RgS.pass; rw [if_pos (.inl rfl)]
    rw [e]
    have same : H.set p (.rw [.ptr x.p 0, .ptr y.p 0, .int .i64 fuse, .bool true, .int .i64 done]) = H := by
      apply List.ext_getElem?; intro i
      by_cases ei : i = p
      · subst ei; rw [List.getElem?_set_self hp, m.blk]; rfl
      · rw [List.getElem?_set_ne (fun q => ei q.symm)]
    have d14 : decide ((14 : Int) = 0) = false := rfl
    have t2 : trim H (some (.bool false, H)) = some (.bool false, H) := trim_same rfl
    rw [same]
    simp -implicitDefEqProofs (maxSteps := 5000000) only [go_sem, Nat.reduceShiftRight, Nat.reduceAnd, Nat.reduceBNe, Int.reduceEq, Nat.reduceAdd, Nat.reduceSub, Nat.reduceMul, Nat.reduceLeDiff, reduceIte, reduceCtorEq, Nat.reduceBEq, Nat.reduceEqDiff, hc, t2, d14]
  | false =>
    by_cases hf : fuse = 0
    · subst hf
      have e : RgS.pass ⟨a, b, 0, false, done⟩ = (⟨a, b, 0, true, done⟩, 14) := by unfold RgS.pass; rw [if_pos (.inr rfl)]
      have d14 : decide ((14 : Int) = 0) = false := rfl
      rw [e]
      simp -implicitDefEqProofs (maxSteps := 5000000) only [go_sem, Nat.reduceShiftRight, Nat.reduceAnd, Nat.reduceBNe, Int.reduceEq, Nat.reduceAdd, Nat.reduceSub, Nat.reduceMul, Nat.reduceLeDiff, reduceIte, reduceCtorEq, Nat.reduceBEq, Nat.reduceEqDiff, hc, store_one, w3, at2, t, d14]
    · have f1 : (fuse == 0) = false := by simp [hf]
      by_cases hg : fuse > 0
      · have d1 := decide_eq_true hg
        have e : RgS.pass ⟨a, b, fuse, false, done⟩ = (⟨a, b, IntKind.i64.wrap (fuse - 1), false, IntKind.i64.wrap (done + 1)⟩, 0) := by
          unfold RgS.pass; rw [if_neg (by simp [hf])]; simp [hg]
        rw [e]
        simp -implicitDefEqProofs (maxSteps := 5000000) only [go_sem, Nat.reduceShiftRight, Nat.reduceAnd, Nat.reduceBNe, Int.reduceEq, Nat.reduceAdd, Nat.reduceSub, Nat.reduceMul, Nat.reduceLeDiff, reduceIte, reduceCtorEq, Nat.reduceBEq, Nat.reduceEqDiff, hc, f1, d1, store_one, w2, at2, v4, List.set_set, t]
      · have d1 := decide_eq_false hg
        have e : RgS.pass ⟨a, b, fuse, false, done⟩ = (⟨a, b, fuse, false, IntKind.i64.wrap (done + 1)⟩, 0) := by
          unfold RgS.pass; rw [if_neg (by simp [hf])]; simp [hg]
        rw [e]
        simp -implicitDefEqProofs (maxSteps := 5000000) only [go_sem, Nat.reduceShiftRight, Nat.reduceAnd, Nat.reduceBNe, Int.reduceEq, Nat.reduceAdd, Nat.reduceSub, Nat.reduceMul, Nat.reduceLeDiff, reduceIte, reduceCtorEq, Nat.reduceBEq, Nat.reduceEqDiff, hc, f1, d1, store_one, w4, at2, t]
/-- A write's turn of one of the disks. -/
theorem rqTurnW {dev : Int} {n : Nat} {z : List Int} (hdev : dev = 0 ∨ dev = 1) (hn : n < (r.dk dev).length) (hz : B64 z) (hc : c + 1 ≤ 1000000000) : ∃ (q : Pl) (o : Nat) (H' : AHeap) (L0' L1' : List (AV × Sec)), idxAddrA 2 1 (.ptr p 0) (.int .i64 dev) = some (.ptr p o) ∧ (∀ rr, (rgCells x.p y.p rr)[o]? = some (.ptr q.p 0)) ∧ (envL prog).call 34 [.ptr q.p 0, .int .i64 (n : Int), .agg (u8s z)] H = some (.tup [], H') ∧ RQ H' p x y (c + 1) L0' L1' (r.put dev ((r.dk dev).modify n fun s => ⟨s.there, s.vers ++ [z]⟩)) ∧ Fr H H' (fpW p x y L0 L1) ∧ (∀ b, fpW p x y L0' L1' b → fpW p x y L0 L1 b ∨ H.length ≤ b) ∧
    ∀ (K : AHeap) (w : RgS), K.length ≤ H.length → RQ K p x y c L0 L1 w → ∀ v : AV, trim K (some (v, H')) = some (v, H') := by
  rcases hdev with rfl | rfl
  · have hdk : r.dk 0 = r.a := rfl
    rw [hdk] at hn ⊢
    obtain ⟨w, hx, hx2⟩ := get_sec m.e0 hn
    obtain ⟨H', v, k, ⟨b0, hb0, hb1⟩, f, e⟩ := refWriteC m.k0 hx hz hc
    have fp : ∀ b, b = x.v → fpP x L0 b := fun b h => .inr (.inr (.inl h))
    have t := m.turn0 k f fp (Nat.le_succ _) (fun b hb => by
      rcases fpP_set hb with h | h
      · exact .inl h
      · rw [hb0] at h; injection h with h; subst h; exact .inr hb1)
    rw [modify_set hx v (fun s => ⟨s.there, s.vers ++ [z]⟩), m.e0] at t
    refine ⟨x, 0, H', _, _, rfl, fun _ => rfl, e, t, f.mono fun b _ hb => .inr (.inl (fp b hb)), fun b hb => ?_, fun K w' hl mk v' => ?_⟩
    · rcases hb with rfl | hb | hb
      · exact .inl (.inl rfl)
      · rcases fpP_set hb with h | h
        · exact .inl (.inr (.inl h))
        · rw [hb0] at h; injection h with h; subst h; exact .inr hb1
      · exact .inl (.inr (.inr hb))
    · refine trim_dirty x.v _ _ v mk.k0.bv t.k0.bv ?_ ?_ mk.k0.v_under
      · exact List.mem_map.2 ⟨_, List.mem_of_getElem? (List.getElem?_set_self (List.getElem?_eq_some_iff.1 hx).1), rfl⟩
      · cases v with
        | sl b o q l c e => injection hb0 with hb0; subst hb0; simp only [AV.under, decide_eq_false_iff_not]; omega
        | _ => cases hb0
  · have hdk : r.dk 1 = r.b := rfl
    rw [hdk] at hn ⊢
    obtain ⟨w, hx, hx2⟩ := get_sec m.e1 hn
    obtain ⟨H', v, k, ⟨b0, hb0, hb1⟩, f, e⟩ := refWriteC m.k1 hx hz hc
    have fp : ∀ b, b = y.v → fpP y L1 b := fun b h => .inr (.inr (.inl h))
    have t := m.turn1 k f fp (Nat.le_succ _) (fun b hb => by
      rcases fpP_set hb with h | h
      · exact .inl h
      · rw [hb0] at h; injection h with h; subst h; exact .inr hb1)
    rw [modify_set hx v (fun s => ⟨s.there, s.vers ++ [z]⟩), m.e1] at t
    refine ⟨y, 1, H', _, _, rfl, fun _ => rfl, e, t, f.mono fun b _ hb => .inr (.inr (fp b hb)), fun b hb => ?_, fun K w' hl mk v' => ?_⟩
    · rcases hb with rfl | hb | hb
      · exact .inl (.inl rfl)
      · exact .inl (.inr (.inl hb))
      · rcases fpP_set hb with h | h
        · exact .inl (.inr (.inr h))
        · rw [hb0] at h; injection h with h; subst h; exact .inr hb1
    · refine trim_dirty y.v _ _ v mk.k1.bv t.k1.bv ?_ ?_ mk.k1.v_under
      · exact List.mem_map.2 ⟨_, List.mem_of_getElem? (List.getElem?_set_self (List.getElem?_eq_some_iff.1 hx).1), rfl⟩
      · cases v with
        | sl b o q l c e => injection hb0 with hb0; subst hb0; simp only [AV.under, decide_eq_false_iff_not]; omega
        | _ => cases hb0
set_option maxHeartbeats 4000000 in
theorem rqWriteC (dev i : Int) {z : List Int} (hz : B64 z) (hc : c + 1 ≤ 1000000000) : ∃ H' L0' L1', RQ H' p x y (c + 1) L0' L1' (r.write dev i z).1 ∧ Fr H H' (fpW p x y L0 L1) ∧ (∀ b, fpW p x y L0' L1' b → fpW p x y L0 L1 b ∨ H.length ≤ b) ∧
    (envL prog).call 14 [.ptr p 0, .int .i64 dev, .int .i64 i, .agg (u8s z)] H = some (.int .i64 (r.write dev i z).2, H') := by
  have l64 := hz.1
  have w64 : (u8s z).length = 64 := by rw [u8s_len]; exact l64
  have tk := u8s_take l64
  have hp := lt_of_at m.blk
  have m1 := m.adds [.rw (u8s z)]
  have hh := rqHasC m1 dev i
  by_cases hx : 0 ≤ i ∧ i < ((r.dk dev).length : Int)
  · have dx := decide_eq_true hx
    rw [dx] at hh
    have hdev : dev = 0 ∨ dev = 1 := by
      by_cases h0 : dev = 0
      · exact .inl h0
      · by_cases h1 : dev = 1
        · exact .inr h1
        · unfold RgS.dk at hx; rw [if_neg h0, if_neg h1] at hx; simp at hx; omega
    obtain ⟨n, rfl⟩ : ∃ n : Nat, i = n := ⟨i.toNat, by omega⟩
    obtain ⟨mp, cp⟩ := rqThroughC m1
    have e1 : (H ++ [ABlk.rw (u8s z)]).set p (.rw (rgCells x.p y.p r.pass.1)) = H.set p (.rw (rgCells x.p y.p r.pass.1)) ++ [.rw (u8s z)] := set_app _ hp
    rw [e1] at mp cp
    have mH := m.set r.pass.1 (by unfold RgS.pass; split <;> rfl) (by unfold RgS.pass; split <;> rfl)
    have hl2 : (H.set p (.rw (rgCells x.p y.p r.pass.1))).length = H.length := by simp
    by_cases hq : r.pass.2 = 0
    · have hpa : r.pass.1.dk dev = r.dk dev := by
        have : r.pass.1.a = r.a ∧ r.pass.1.b = r.b := by unfold RgS.pass; split <;> exact ⟨rfl, rfl⟩
        unfold RgS.dk; rw [this.1, this.2]
      obtain ⟨q, o, H', L0', L1', ia, io, ew, mt, ft, fn, dirty⟩ := rqTurnW mp hdev (n := n) (by rw [hpa]; omega) hz hc
      have er : r.write dev (n : Int) z = (r.pass.1.put dev ((r.pass.1.dk dev).modify n fun s => ⟨s.there, s.vers ++ [z]⟩), 0) := by
        unfold RgS.write; rw [if_pos hx, if_pos hq, hpa]; simp
      rw [er]
      have f0 : Fr H (H.set p (.rw (rgCells x.p y.p r.pass.1)) ++ [.rw (u8s z)]) (fpW p x y L0 L1) :=
        (Fr.set H (.rw (rgCells x.p y.p r.pass.1)) (F := fpW p x y L0 L1) (.inl rfl)).trans (Fr.adds ⟨_, rfl⟩ (fun _ => False)) (fun _ _ h => h.elim)
      have tr := dirty H r (by rw [List.length_append, hl2]; omega) m
      refine ⟨H', L0', L1', mt, f0.trans ft (fun b _ h => h), fun b hb => ?_, ?_⟩
      · rcases fn b hb with h | h
        · exact .inl h
        · rw [List.length_append, hl2] at h; exact .inr (by omega)
      · have dq : decide (r.pass.2 = 0) = true := decide_eq_true hq
        rw [dq] at cp
        have hbx : cellsOf (H.set p (.rw (rgCells x.p y.p r.pass.1)) ++ [ABlk.rw (u8s z)]) H.length = some (u8s z) := by
          unfold cellsOf
          rw [List.getElem?_append_right (by rw [hl2]; exact Nat.le_refl _), hl2, Nat.sub_self]; rfl
        have hbp := cells_rw mp.blk
        have hio := io r.pass.1
        rw [c14]
        unfold b14
        simp -implicitDefEqProofs (maxSteps := 5000000) only [go_sem, Nat.reduceShiftRight, Nat.reduceAnd, Nat.reduceBNe, Int.reduceEq, Nat.reduceAdd, Nat.reduceSub, Nat.reduceMul, Nat.reduceLeDiff, reduceIte, reduceCtorEq, Nat.reduceBEq, Nat.reduceEqDiff, hh, cp, hbx, hbp, ia, hio, w64, tk, ew, tr]
    · have er : r.write dev (n : Int) z = r.pass := by unfold RgS.write; rw [if_pos hx, if_neg hq]
      rw [er]
      have hq14 : r.pass.2 = 14 := by unfold RgS.pass at hq ⊢; split at hq; rw [if_pos (by assumption)]; simp at hq
      have dq : decide (r.pass.2 = 0) = false := decide_eq_false hq
      rw [dq] at cp
      rw [hq14]
      have tr : trim H (some (.int .i64 14, H.set p (.rw (rgCells x.p y.p r.pass.1)) ++ [ABlk.rw (u8s z)])) = some (.int .i64 14, H.set p (.rw (rgCells x.p y.p r.pass.1))) := by
        rw [trim_take (by rw [List.length_append, hl2]; omega) rfl (fun b k' hb hk => ?_)]
        · rw [← hl2, List.take_left]
        · rw [List.getElem?_append_left (by omega)] at hk
          by_cases eb : b = p
          · subst eb
            rw [at_set _ _ _ hp] at hk
            injection hk with hk; subst hk
            refine .inr fun a ha => ?_
            have h0 := lt_of_cells m.k0.ptr
            have h1 := lt_of_cells m.k1.ptr
            simp only [ABlk.vals, rgCells, List.mem_cons, List.not_mem_nil, or_false] at ha
            rcases ha with rfl | rfl | rfl | rfl | rfl <;> simp [AV.under, h0, h1]
          · rw [at_set_ne _ _ _ _ eb] at hk; exact .inl hk
      refine ⟨_, L0, L1, mH.up (Nat.le_succ _) hc, Fr.set _ _ (.inl rfl), fun b hb => .inl hb, ?_⟩
      rw [c14]
      unfold b14
      simp -implicitDefEqProofs (maxSteps := 5000000) only [go_sem, Nat.reduceShiftRight, Nat.reduceAnd, Nat.reduceBNe, Int.reduceEq, Nat.reduceAdd, Nat.reduceSub, Nat.reduceMul, Nat.reduceLeDiff, reduceIte, reduceCtorEq, Nat.reduceBEq, Nat.reduceEqDiff, hh, cp, tr]
  · have dx := decide_eq_false hx
    rw [dx] at hh
    have er : r.write dev i z = (r, 1) := by unfold RgS.write; rw [if_neg hx]
    rw [er]
    refine ⟨H, L0, L1, m.up (Nat.le_succ _) hc, Fr.refl _ _, fun b hb => .inl hb, ?_⟩
    rw [c14]
    unfold b14
    simp -implicitDefEqProofs (maxSteps := 5000000) only [go_sem, Nat.reduceShiftRight, Nat.reduceAnd, Nat.reduceBNe, Int.reduceEq, Nat.reduceAdd, Nat.reduceSub, Nat.reduceMul, Nat.reduceLeDiff, reduceIte, reduceCtorEq, Nat.reduceBEq, Nat.reduceEqDiff, hh]
end
end Go.Proofs.Ythjkfincekckhaa.G04

