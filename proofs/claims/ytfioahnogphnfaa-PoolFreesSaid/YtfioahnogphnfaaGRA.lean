/- What the functions that PoolFrees reaches answer, for every argument. No condition but those in each statement. -/
import Derived.Test.YtfioahnogphnfaaN
import Derived.Test.YtfioahnogphnfaaE6
import Derived.Test.YtfioahnogphnfaaE4
set_option linter.unusedSimpArgs false
set_option linter.unusedVariables false
set_option linter.unusedSectionVars false
set_option maxRecDepth 10000
section
namespace Go.Proofs.Ytfioahnogphnfaa.G12
open Go Go.Proofs.Ytfioahnogphnfaa.Eng
noncomputable abbrev LP1 (l : Env → CT) := (envL prog).loop (runC (envL prog) (l (envL prog)))
noncomputable def X0 : Over := Over.none.with 61 ovR
theorem x0_ov (args : List AV) (h : AHeap) (r : AV × AHeap) (e : ovR args h = some r) : (envX prog X0).call 61 args h = some r := by
 unfold envX X0 Over.with
 simp [e]
def pd : TyD := ty 2 true 16 [.int .i64 0, .int .i64 0]
set_option maxHeartbeats 8000000 in
theorem insB (h : AHeap) (b vb n i : Nat) (cs vs : List AV) (hk : h[b]? = some (.rw cs)) (hv : h[vb]? = some (.rw vs)) (hne : vb ≠ b) (hi : i < n) (lc : cs.length = n * 2) (lv : vs.length = 2) (cc : cs.all AV.isCell = true) (cv : vs.all AV.isCell = true) (room : (n + 1) * 16 ≤ roomy) :
  callBody prog (envX prog X0) 52 [.sl b 0 2 n n true, .int .i64 (i : Int), .sl vb 0 2 1 1 true] h = some (.sl h.length 0 2 (n + 1) (n + 1) false, h ++ [.rw (insC 2 i cs vs)]) := by
 have hr : (roomy : Nat) = 140737488355328 := rfl
 have ltb := lt_of_at hk
 have ltv := lt_of_at hv
 have s1 := sl_from (sz := 2) (b := b) (off := 0) (len := n) (cp := n) (i := i) (ex := true) (by omega) (Nat.le_refl _)
 have s2 := sl_to (sz := 2) (b := b) (off := 0) (len := n) (cp := n) (u := i) (ex := true) (by omega)
 have d1 : ((i : Int) == (n : Int)) = false := by simp; omega
 have w1 : IntKind.i64.wrap ((n : Int) + 1) = (n : Int) + 1 := wrap64 (by omega) (by omega)
 have d2 : decide ((n : Int) + 1 > (n : Int)) = true := decide_eq_true (by omega)
 have w2 : IntKind.i64.wrap ((n : Int) + 1 - (i : Int)) = ((n + 1 - i : Nat) : Int) := by rw [wrap64 (by omega) (by omega)]; omega
 have a1 := appN_ex (d := ty 2 true 16 [.int .i64 0, .int .i64 0]) (h := h) (b := b) (off := 0) (sz := 2) (len := i) (c := n) (k := n + 1 - i) rfl (by omega) (by decide) (by omega) (by omega) (read_at hk (by omega)) (by show (i + (n + 1 - i)) * 16 ≤ _; rw [show i + (n + 1 - i) = n + 1 by omega]; exact room)
 rw [show i + (n + 1 - i) = n + 1 by omega, List.drop_zero] at a1
 obtain ⟨z0, hz0⟩ : ∃ z0, z0 = cs.take (i * 2) ++ (List.replicate (n + 1 - i) (ty 2 true 16 [.int .i64 0, .int .i64 0]).zero).flatten := ⟨_, rfl⟩
 rw [← hz0] at a1
 have lz : z0.length = (n + 1) * 2 := by rw [hz0]; simp [ty, lc]; omega
 have s3 := sl_from (sz := 2) (b := h.length) (off := 0) (len := n + 1) (cp := n + 1) (i := i) (ex := false) (by omega) (Nat.le_refl _)
 have s4 := sl_from (sz := 2) (b := h.length) (off := 0) (len := n + 1) (cp := n + 1) (i := i + 1) (ex := false) (by omega) (Nat.le_refl _)
 obtain ⟨H1, hH1⟩ : ∃ H1, H1 = h ++ [ABlk.rw z0] := ⟨_, rfl⟩
 rw [← hH1] at a1
 have k1 : H1[h.length]? = some (.rw z0) := by rw [hH1]; simp
 have v1 : H1[vb]? = some (.rw vs) := by rw [hH1, List.getElem?_append_left ltv]; exact hv
 have b1 : H1[b]? = some (.rw cs) := by rw [hH1, List.getElem?_append_left ltb]; exact hk
 have c1 := copy_sl (d := ty 2 true 16 [.int .i64 0, .int .i64 0]) (h := H1) (b := h.length) (off := 0 + i * 2) (sz := 2) (len := n + 1 - i) (c := n + 1 - i) (b2 := vb) (off2 := 0) (m := 1) (c2 := 1) (ex := false) (ex2 := true) (cs := z0) (src := vs) rfl (by omega) k1 (by omega) (by rw [show min 1 (n + 1 - i) * 2 = 2 by omega, read_at v1 (by omega), List.drop_zero, ← lv, List.take_length]) (by omega) cv
 rw [show min 1 (n + 1 - i) = 1 by omega] at c1
 obtain ⟨z1, hz1⟩ : ∃ z1, z1 = splice z0 (0 + i * 2) vs := ⟨_, rfl⟩
 rw [← hz1] at c1
 have sv : splice z0 (0 + i * 2) vs = z0.take (0 + i * 2) ++ vs ++ z0.drop (0 + i * 2 + vs.length) := splice_long _ _ _ (by omega)
 have lz1 : z1.length = (n + 1) * 2 := by rw [hz1, sv]; simp [lz, lv]; omega
 obtain ⟨H2, hH2⟩ : ∃ H2, H2 = H1.set h.length (.rw z1) := ⟨_, rfl⟩
 rw [← hH2] at c1
 have k2 : H2[h.length]? = some (.rw z1) := by rw [hH2]; exact at_set _ _ _ (lt_of_at k1)
 have b2 : H2[b]? = some (.rw cs) := by rw [hH2, List.getElem?_set_ne (by omega)]; exact b1
 have w3 : IntKind.i64.wrap ((i : Int) + 1) = ((i + 1 : Nat) : Int) := by rw [wrap64 (by omega) (by omega)]; push_cast; rfl
 have tl : ((cs.drop (0 + i * 2)).take ((n - i) * 2)) = cs.drop (i * 2) := by rw [Nat.zero_add]; exact List.take_of_length_le (by rw [List.length_drop, lc]; omega)
 have ld : (cs.drop (i * 2)).length = (n - i) * 2 := by rw [List.length_drop, lc]; omega
 have c2 := copy_sl (d := ty 2 true 16 [.int .i64 0, .int .i64 0]) (h := H2) (b := h.length) (off := 0 + (i + 1) * 2) (sz := 2) (len := n + 1 - (i + 1)) (c := n + 1 - (i + 1)) (b2 := b) (off2 := 0 + i * 2) (m := n - i) (c2 := n - i) (ex := false) (ex2 := true) (cs := z1) (src := cs.drop (i * 2)) rfl (by omega) k2 (by omega) (by rw [show min (n - i) (n + 1 - (i + 1)) = n - i by omega, read_at b2 (by rw [lc]; omega), tl]) (by rw [ld, lz1]; omega) (all_drop cc _)
 have fin : splice z1 (0 + (i + 1) * 2) (cs.drop (i * 2)) = insC 2 i cs vs := by
  have e1 : z1.take (0 + (i + 1) * 2) = cs.take (i * 2) ++ vs := by
   rw [hz1, sv, List.take_append_of_le_length (by simp [lz, lv]; omega), List.take_of_length_le (by simp [lz, lv]; omega), hz0, List.take_append_of_le_length (by simp [lc]; omega), List.take_of_length_le (by simp; omega)]
  have ln : (cs.drop (i * 2)).length ≠ 1 := by rw [ld]; omega
  have dz : z1.drop (0 + (i + 1) * 2 + (cs.drop (i * 2)).length) = [] := List.drop_of_length_le (by rw [ld, lz1]; omega)
  rw [splice_long _ _ _ ln, e1, dz, List.append_nil]; rfl
 rw [fin] at c2
 have H3 : H2.set h.length (.rw (insC 2 i cs vs)) = h ++ [.rw (insC 2 i cs vs)] := by
  rw [hH2, List.set_set, hH1, List.set_append_right _ _ (Nat.le_refl _)]; simp
 rw [H3] at c2
 have u : (AV.sl h.length 0 2 (n + 1) (n + 1) false).under h.length = false := by simp [AV.under]
 rw [d52]
 unfold b52
 have cap : capSl (.sl b 0 2 n n true) = some (.int .i64 (n : Int)) := rfl
 have l1 : lenSl (.sl vb 0 2 1 1 true) = some (.int .i64 1) := rfl
 have l2 : lenSl (.sl b 0 2 n n true) = some (.int .i64 (n : Int)) := rfl
 simp only [Nat.zero_add] at c1 c2 s1 s3 s4
 simp -implicitDefEqProofs (maxSteps := 5000000) only [go_sem, Nat.reduceShiftRight, Nat.reduceAnd, Nat.reduceBNe, Int.reduceEq, Nat.reduceAdd, Nat.reduceSub, Nat.reduceMul, Nat.reduceLeDiff, reduceIte, reduceCtorEq, Nat.reduceBEq, Nat.reduceEqDiff, wrap64, runC_loop, runC_range, callF_fn, callV_fn, callV_yld, yield_eq, yieldBody, yieldRaw, roundMid, roundEnd, rangeEnd, Bool.not_not, put_cons, put_nil, trim_same, at_zero, at_add, set_zero, set_add, store_one, write_zero, write_add, write_head, write_succ, splice_one, splice_more, List.drop_nil, List.take_nil, cell_int, cell_bool, fillS, splice_one, idxA, Ex.isNormal, List.set_nil, List.length_set, List.all_cons, List.all_nil, Bool.and_self, and_self, true_and, and_true, List.getElem?_nil, Int.reduceLT, Int.reduceLE, Int.reduceToNat, Int.toNat_zero, Int.toNat_one, Int.reduceAdd, Int.reduceSub, Int.reduceMul, Int.reduceNeg, Int.reduceBEq, Int.reduceBNe, Int.reduceGE, Int.reduceGT, Nat.reduceLT, trim_keep, under_fn, under_ptr, under_sl, Nat.lt_irrefl, not_lt_add, trim_tail, keepOk, ABlk.vals, Int.cast_ofNat_Int, decide_true, decide_false, List.all_cons, List.all_nil, Nat.zero_mul, Nat.mul_one, Nat.one_mul, s1, s2, d1, w1, d2, w2, a1, cap, l1, l2, s3, s4, c1, w3, c2, trim_keep, u]
set_option maxHeartbeats 8000000 in
theorem insA (h : AHeap) (b vb n i cap : Nat) (cs vs rest : List AV) (hk : h[b]? = some (.rw (cs ++ rest))) (hv : h[vb]? = some (.rw vs)) (hne : vb ≠ b) (hi : i < n) (hcap : n + 1 ≤ cap) (lc : cs.length = n * 2) (lr : rest.length = (cap - n) * 2) (lv : vs.length = 2) (cc : cs.all AV.isCell = true) (cv : vs.all AV.isCell = true) (room : (n + 1) * 16 ≤ roomy) :
  ∃ K, callBody prog (envX prog X0) 52 [.sl b 0 2 n cap true, .int .i64 (i : Int), .sl vb 0 2 1 1 true] h = some (.sl b 0 2 (n + 1) cap true, h.set b (.rw K)) ∧ K.take ((n + 1) * 2) = insC 2 i cs vs := by
 have hr : (roomy : Nat) = 140737488355328 := rfl
 have ltb := lt_of_at hk
 have ltv := lt_of_at hv
 have s1 := sl_from (sz := 2) (b := b) (off := 0) (len := n) (cp := cap) (i := i) (ex := true) (by omega) (by omega)
 have s5 := sl_to (sz := 2) (b := b) (off := 0) (len := n) (cp := cap) (u := n + 1) (ex := true) (by omega)
 have d1 : ((i : Int) == (n : Int)) = false := by simp; omega
 have w1 : IntKind.i64.wrap ((n : Int) + 1) = ((n + 1 : Nat) : Int) := by rw [wrap64 (by omega) (by omega)]; push_cast; rfl
 have d2 : decide (((n + 1 : Nat) : Int) > (cap : Int)) = false := decide_eq_false (by omega)
 have w3 : IntKind.i64.wrap ((i : Int) + 1) = ((i + 1 : Nat) : Int) := by rw [wrap64 (by omega) (by omega)]; push_cast; rfl
 have s6 := sl_from (sz := 2) (b := b) (off := 0) (len := n + 1) (cp := cap) (i := i + 1) (ex := true) (by omega) (by omega)
 have s7 := sl_from (sz := 2) (b := b) (off := 0) (len := n + 1) (cp := cap) (i := i) (ex := true) (by omega) (by omega)
 have rb : isRw h b = true := by unfold isRw; rw [hk]
 have rv : isRw h vb = true := by unfold isRw; rw [hv]
 have ov := x0_ov [.sl vb 0 2 1 1 true, .sl b ((i + 1) * 2) 2 (n + 1 - (i + 1)) (cap - (i + 1)) true] h (.bool false, h) (by
  unfold ovR
  simp only
  rw [if_pos ⟨hne, by omega, by omega, by omega, rv, rb⟩])
 have ld : (cs.drop (i * 2)).length = (n - i) * 2 := by rw [List.length_drop, lc]; omega
 have tl : (((cs ++ rest).drop (i * 2)).take ((n - i) * 2)) = cs.drop (i * 2) := by
  rw [List.drop_append_of_le_length (by omega), List.take_append_of_le_length (by omega), List.take_of_length_le (by omega)]
 have c1 := copy_sl (d := ty 2 true 16 [.int .i64 0, .int .i64 0]) (h := h) (b := b) (off := (i + 1) * 2) (sz := 2) (len := n + 1 - (i + 1)) (c := cap - (i + 1)) (b2 := b) (off2 := i * 2) (m := n + 1 - i) (c2 := cap - i) (ex := true) (ex2 := true) (cs := cs ++ rest) (src := cs.drop (i * 2)) rfl (by omega) hk (by omega) (by rw [show min (n + 1 - i) (n + 1 - (i + 1)) = n - i by omega, read_at hk (by rw [List.length_append, lc]; omega), tl]) (by rw [ld, List.length_append, lc, lr]; omega) (all_drop cc _)
 have ln : (cs.drop (i * 2)).length ≠ 1 := by rw [ld]; omega
 obtain ⟨z1, hz1⟩ : ∃ z1, z1 = splice (cs ++ rest) ((i + 1) * 2) (cs.drop (i * 2)) := ⟨_, rfl⟩
 rw [← hz1] at c1
 rw [splice_long _ _ _ ln] at hz1
 have lz1 : z1.length = cs.length + rest.length := by rw [hz1]; simp only [List.length_append, List.length_take, List.length_drop, lc, lr]; omega
 obtain ⟨H1, hH1⟩ : ∃ H1, H1 = h.set b (.rw z1) := ⟨_, rfl⟩
 rw [← hH1] at c1
 have k1 : H1[b]? = some (.rw z1) := by rw [hH1]; exact at_set _ _ _ ltb
 have v1 : H1[vb]? = some (.rw vs) := by rw [hH1, List.getElem?_set_ne (fun q => hne q.symm)]; exact hv
 have c2 := copy_sl (d := ty 2 true 16 [.int .i64 0, .int .i64 0]) (h := H1) (b := b) (off := i * 2) (sz := 2) (len := n + 1 - i) (c := cap - i) (b2 := vb) (off2 := 0) (m := 1) (c2 := 1) (ex := true) (ex2 := true) (cs := z1) (src := vs) rfl (by omega) k1 (by omega) (by rw [show min 1 (n + 1 - i) * 2 = 2 by omega, read_at v1 (by omega), List.drop_zero, ← lv, List.take_length]) (by rw [lz1, lc, lr]; omega) cv
 rw [show min 1 (n + 1 - i) = 1 by omega] at c2
 obtain ⟨z2, hz2⟩ : ∃ z2, z2 = splice z1 (i * 2) vs := ⟨_, rfl⟩
 rw [← hz2] at c2
 rw [splice_long _ _ _ (by omega), lv] at hz2
 have H2 : H1.set b (.rw z2) = h.set b (.rw z2) := by rw [hH1, List.set_set]
 rw [H2] at c2
 have cap' : capSl (.sl b 0 2 n cap true) = some (.int .i64 (cap : Int)) := rfl
 have l1 : lenSl (.sl vb 0 2 1 1 true) = some (.int .i64 1) := rfl
 have l2 : lenSl (.sl b 0 2 n cap true) = some (.int .i64 (n : Int)) := rfl
 have ts : trim h (some (.sl b 0 2 (n + 1) cap true, h.set b (.rw z2))) = some (.sl b 0 2 (n + 1) cap true, h.set b (.rw z2)) := trim_same (by rw [List.length_set])
 simp only [Nat.zero_add] at s1 s6 s7
 refine ⟨z2, ?_, ?_⟩
 ·rw [d52]
  unfold b52
  simp -implicitDefEqProofs (maxSteps := 5000000) only [go_sem, Nat.reduceShiftRight, Nat.reduceAnd, Nat.reduceBNe, Int.reduceEq, Nat.reduceAdd, Nat.reduceSub, Nat.reduceMul, Nat.reduceLeDiff, reduceIte, reduceCtorEq, Nat.reduceBEq, Nat.reduceEqDiff, wrap64, runC_loop, runC_range, callF_fn, callV_fn, callV_yld, yield_eq, yieldBody, yieldRaw, roundMid, roundEnd, rangeEnd, Bool.not_not, put_cons, put_nil, trim_same, at_zero, at_add, set_zero, set_add, store_one, write_zero, write_add, write_head, write_succ, splice_one, splice_more, List.drop_nil, List.take_nil, cell_int, cell_bool, fillS, splice_one, idxA, Ex.isNormal, List.set_nil, List.length_set, List.all_cons, List.all_nil, Bool.and_self, and_self, true_and, and_true, List.getElem?_nil, Int.reduceLT, Int.reduceLE, Int.reduceToNat, Int.toNat_zero, Int.toNat_one, Int.reduceAdd, Int.reduceSub, Int.reduceMul, Int.reduceNeg, Int.reduceBEq, Int.reduceBNe, Int.reduceGE, Int.reduceGT, Nat.reduceLT, trim_keep, under_fn, under_ptr, under_sl, Nat.lt_irrefl, not_lt_add, trim_tail, keepOk, ABlk.vals, Int.cast_ofNat_Int, decide_true, decide_false, List.all_cons, List.all_nil, Nat.zero_mul, Nat.mul_one, Nat.one_mul, s1, s5, d1, w1, d2, w3, s6, s7, ov, c1, c2, cap', l1, l2, ts]
 ·have e0 : z1.take (i * 2) = cs.take (i * 2) := by
   rw [hz1, List.append_assoc, List.take_append_of_le_length (by simp [lc, lr]; omega), List.take_take, show min (i * 2) ((i + 1) * 2) = i * 2 by omega, List.take_append_of_le_length (by omega)]
  have e1 : z1.drop (i * 2 + 2) = cs.drop (i * 2) ++ (cs ++ rest).drop ((i + 1) * 2 + (cs.drop (i * 2)).length) := by
   rw [hz1, List.append_assoc, List.drop_append, List.drop_of_length_le (by simp [lc, lr]; omega), List.nil_append]
   have : i * 2 + 2 - ((cs ++ rest).take ((i + 1) * 2)).length = 0 := by simp [lc, lr]; omega
   rw [this, List.drop_zero]
  rw [hz2, e0, e1, ← List.append_assoc]
  unfold insC
  rw [List.take_append_of_le_length (by simp only [List.length_append, List.length_take, lv, ld, lc]; omega), List.take_of_length_le (by simp only [List.length_append, List.length_take, lv, ld, lc]; omega)]
noncomputable def X1 : Over := X0.with 52 (insR 2 16)
end Go.Proofs.Ytfioahnogphnfaa.G12
end
section
namespace Go.Proofs.Ytfioahnogphnfaa.G12
open Go Go.Proofs.Ytfioahnogphnfaa.Eng
theorem goodP : Go.Proofs.Ytfioahnogphnfaa.Eng.Good prog := good_of (by kernel_rfl) (by kernel_rfl)
theorem x0_ok : X0.Ok prog := with_ok (none_ok _) (ov_ok (fn := Go.Proofs.Try.f61) (tS := 24) (tR := 4) (e := 47) (d := ty 2 true 16 [.int .i64 0, .int .i64 0]) (by kernel_rfl) (by kernel_rfl) (by kernel_rfl) (by kernel_rfl) (by kernel_rfl) (by kernel_rfl) (by kernel_rfl))
theorem x1_ok : X1.Ok prog := with_ok x0_ok (ins_ok goodP x0_ok (by omega) insA insB)
end Go.Proofs.Ytfioahnogphnfaa.G12
end
section
namespace Go.Proofs.Ytfioahnogphnfaa.G12
open Go Go.Proofs.Ytfioahnogphnfaa.Eng
section
variable {H : AHeap} {v : AV} {l : List PrS} (g : IsP H v l) (hl : l.length ≤ 1000000)
include g hl
theorem cloneC : ∃ v' K, (envL prog).call 36 [v] H = some (v', K) ∧ Adds H K ∧ Gp K H.length v' l := by
 have hr : (roomy : Nat) = 140737488355328 := rfl
 rw [c36]
 unfold b36
 rcases g with ⟨rfl, rfl⟩ | ⟨b, c, ex, rfl, hc, hb⟩
 ·refine ⟨.nilSl, H, ?_, Adds.refl H, .inl ⟨rfl, rfl⟩⟩
  simp -implicitDefEqProofs (maxSteps := 5000000) only [go_sem, Nat.reduceShiftRight, Nat.reduceAnd, Nat.reduceBNe, Int.reduceEq, Nat.reduceAdd, Nat.reduceSub, Nat.reduceMul, Nat.reduceLeDiff, reduceIte, reduceCtorEq, Nat.reduceBEq, Nat.reduceEqDiff, wrap64, runC_loop, runC_range, callF_fn, callV_fn, callV_yld, yield_eq, yieldBody, yieldRaw, roundMid, roundEnd, rangeEnd, Bool.not_not, put_cons, put_nil, trim_same, at_zero, at_add, set_zero, set_add, store_one, write_zero, write_add, write_head, write_succ, splice_one, splice_more, List.drop_nil, List.take_nil, cell_int, cell_bool, fillS, splice_one, idxA, Ex.isNormal, List.set_nil, List.length_set, List.all_cons, List.all_nil, Bool.and_self, and_self, true_and, and_true, List.getElem?_nil, Int.reduceLT, Int.reduceLE, Int.reduceToNat, Int.toNat_zero, Int.toNat_one, Int.reduceAdd, Int.reduceSub, Int.reduceMul, Int.reduceNeg, Int.reduceBEq, Int.reduceBNe, Int.reduceGE, Int.reduceGT, Nat.reduceLT, trim_keep, under_fn, under_ptr, under_sl, Nat.lt_irrefl, not_lt_add, trim_tail, keepOk, ABlk.vals, Int.cast_ofNat_Int, decide_true, decide_false, List.all_cons, List.all_nil, Nat.zero_mul, Nat.mul_one, Nat.one_mul]
 ·have g0 : Gp (H ++ [.rw []]) H.length (.sl H.length 0 2 0 0 true) [] := .inr (.inl ⟨rfl, H.length, Nat.le_refl _, rfl, by simp⟩)
  have gi : IsP (H ++ [.rw []]) (.sl b 0 2 l.length c ex) l := .inr ⟨b, c, ex, rfl, hc, cells_old hb⟩
  obtain ⟨v', K, ea, gk, fr, hn, he⟩ := gp_app g0 (by simp) gi.src.1 gi.src.2 (by simp; omega)
  rw [List.nil_append] at gk
  have A : Adds H K := fr.old ⟨_, rfl⟩ fun x hx h => by injection h with h; omega
  have u : v'.under H.length = false := by
   rcases gk with ⟨rfl, rfl⟩ | ⟨_, x, hx, rfl, _⟩ | ⟨_, x, hx, rfl, _⟩
   ·obtain ⟨q, _⟩ := he rfl; cases q
   ·simp [AV.under]; omega
   ·simp [AV.under]; omega
  refine ⟨v', K, ?_, A, gk⟩
  simp -implicitDefEqProofs (maxSteps := 5000000) only [go_sem, Nat.reduceShiftRight, Nat.reduceAnd, Nat.reduceBNe, Int.reduceEq, Nat.reduceAdd, Nat.reduceSub, Nat.reduceMul, Nat.reduceLeDiff, reduceIte, reduceCtorEq, Nat.reduceBEq, Nat.reduceEqDiff, wrap64, runC_loop, runC_range, callF_fn, callV_fn, callV_yld, yield_eq, yieldBody, yieldRaw, roundMid, roundEnd, rangeEnd, Bool.not_not, put_cons, put_nil, trim_same, at_zero, at_add, set_zero, set_add, store_one, write_zero, write_add, write_head, write_succ, splice_one, splice_more, List.drop_nil, List.take_nil, cell_int, cell_bool, fillS, splice_one, idxA, Ex.isNormal, List.set_nil, List.length_set, List.all_cons, List.all_nil, Bool.and_self, and_self, true_and, and_true, List.getElem?_nil, Int.reduceLT, Int.reduceLE, Int.reduceToNat, Int.toNat_zero, Int.toNat_one, Int.reduceAdd, Int.reduceSub, Int.reduceMul, Int.reduceNeg, Int.reduceBEq, Int.reduceBNe, Int.reduceGE, Int.reduceGT, Nat.reduceLT, trim_keep, under_fn, under_ptr, under_sl, Nat.lt_irrefl, not_lt_add, trim_tail, keepOk, ABlk.vals, Int.cast_ofNat_Int, decide_true, decide_false, List.all_cons, List.all_nil, Nat.zero_mul, Nat.mul_one, Nat.one_mul, ea, trim_keep, u]
theorem clos (b : Int) (q : Nat) (K : AHeap) (p : PrS) (hq : cellsOf K q = some [.int .i64 b]) : (envL prog).call 54 [.agg (prC p), .ptr q 0] K = some (.bool (p.1 == b), K) := by
 have c1 : ∀ X, cellsOf (K ++ X) q = some [.int .i64 b] := fun X => cells_old hq
 rw [c54]
 unfold b54 prC
 simp -implicitDefEqProofs (maxSteps := 5000000) only [go_sem, Nat.reduceShiftRight, Nat.reduceAnd, Nat.reduceBNe, Int.reduceEq, Nat.reduceAdd, Nat.reduceSub, Nat.reduceMul, Nat.reduceLeDiff, reduceIte, reduceCtorEq, Nat.reduceBEq, Nat.reduceEqDiff, wrap64, runC_loop, runC_range, callF_fn, callV_fn, callV_yld, yield_eq, yieldBody, yieldRaw, roundMid, roundEnd, rangeEnd, Bool.not_not, put_cons, put_nil, trim_same, at_zero, at_add, set_zero, set_add, store_one, write_zero, write_add, write_head, write_succ, splice_one, splice_more, List.drop_nil, List.take_nil, cell_int, cell_bool, fillS, splice_one, idxA, Ex.isNormal, List.set_nil, List.length_set, List.all_cons, List.all_nil, Bool.and_self, and_self, true_and, and_true, List.getElem?_nil, Int.reduceLT, Int.reduceLE, Int.reduceToNat, Int.toNat_zero, Int.toNat_one, Int.reduceAdd, Int.reduceSub, Int.reduceMul, Int.reduceNeg, Int.reduceBEq, Int.reduceBNe, Int.reduceGE, Int.reduceGT, Nat.reduceLT, trim_keep, under_fn, under_ptr, under_sl, Nat.lt_irrefl, not_lt_add, trim_tail, keepOk, ABlk.vals, Int.cast_ofNat_Int, decide_true, decide_false, List.all_cons, List.all_nil, Nat.zero_mul, Nat.mul_one, Nat.one_mul, c1]
end
section
variable {H : AHeap} {v : AV} {l : List PrS} (g : IsP H v l) (hl : l.length ≤ 1000000) (b : Int) {q : Nat} (hq : cellsOf H q = some [.int .i64 b])
include g hl hq
set_option maxHeartbeats 4000000 in
theorem idxL (x2 x3 x6 : AV) : ∀ (k i : Nat) (j5 j9 j10 j11 j12 j13 j14 j15 j16 j17 j18 : AV), i + k = l.length →
  Outs (LP1 l53x0 [v, .fn 54 [.ptr q 0], x2, x3, .int .i64 0, j5, x6, .int .i64 (l.length : Int), .int .i64 (i : Int), j9, j10, j11, j12, j13, j14, j15, j16, j17, j18] H) fun e t K => K = H ∧ ∃ fv : Nat → AV, t = [v, .fn 54 [.ptr q 0], x2, x3, (fv 4), (fv 5), x6, .int .i64 (l.length : Int), (fv 8), (fv 9), (fv 10), (fv 11), (fv 12), (fv 13), (fv 14), (fv 15), (fv 16), (fv 17), (fv 18)] ∧ ((e = .exit 0 ∧ idxF b i (l.drop i) = -1) ∨ (e = .ret ∧ fv 4 = .int .i64 (idxF b i (l.drop i)))) := by
 intro k
 obtain ⟨L0, hL0⟩ : ∃ L, L = LP1 l53x0 := ⟨_, rfl⟩
 have lo := loop_open hL0
 rw [← hL0]
 induction k with
 | zero =>
  intro i j5 j9 j10 j11 j12 j13 j14 j15 j16 j17 j18 hi
  obtain rfl : i = l.length := by omega
  have hd : decide ((l.length : Int) < (l.length : Int)) = false := by simp
  rw [List.drop_length, lo]
  unfold l53x0
  simp -implicitDefEqProofs (maxSteps := 5000000) only [go_sem, Nat.reduceShiftRight, Nat.reduceAnd, Nat.reduceBNe, Int.reduceEq, Nat.reduceAdd, Nat.reduceSub, Nat.reduceMul, Nat.reduceLeDiff, reduceIte, reduceCtorEq, Nat.reduceBEq, Nat.reduceEqDiff, hd, seqR_exit', outs_normal]
  exact exF2 rfl (.inl rfl)
 | succ k ih =>
  intro i j5 j9 j10 j11 j12 j13 j14 j15 j16 j17 j18 hi
  have hlt : i < l.length := by omega
  have hd : decide ((i : Int) < (l.length : Int)) = true := decide_eq_true (by omega)
  have e2 : IntKind.i64.wrap ((i : Int) + 1) = ((i + 1 : Nat) : Int) := by rw [wrap64 (by omega) (by omega)]; omega
  have hx := List.getElem?_eq_getElem hlt
  rw [List.drop_eq_getElem_cons hlt]
  generalize l[i] = p at *
  obtain ⟨bb, cs, _, ix, hc, _, _, ht, hle⟩ := g.idx hx
  have ec := clos g hl b q H p hq
  rw [lo]
  unfold l53x0
  by_cases h : p.1 = b
  ·have hb : (p.1 == b) = true := by simp [h]
   rw [idxF, if_pos h]
   simp -implicitDefEqProofs (maxSteps := 5000000) only [go_sem, Nat.reduceShiftRight, Nat.reduceAnd, Nat.reduceBNe, Int.reduceEq, Nat.reduceAdd, Nat.reduceSub, Nat.reduceMul, Nat.reduceLeDiff, reduceIte, reduceCtorEq, Nat.reduceBEq, Nat.reduceEqDiff, wrap64, runC_loop, runC_range, callF_fn, callV_fn, callV_yld, yield_eq, yieldBody, yieldRaw, roundMid, roundEnd, rangeEnd, Bool.not_not, put_cons, put_nil, trim_same, at_zero, at_add, set_zero, set_add, store_one, write_zero, write_add, write_head, write_succ, splice_one, splice_more, List.drop_nil, List.take_nil, cell_int, cell_bool, fillS, splice_one, idxA, Ex.isNormal, List.set_nil, List.length_set, List.all_cons, List.all_nil, Bool.and_self, and_self, true_and, and_true, List.getElem?_nil, Int.reduceLT, Int.reduceLE, Int.reduceToNat, Int.toNat_zero, Int.toNat_one, Int.reduceAdd, Int.reduceSub, Int.reduceMul, Int.reduceNeg, Int.reduceBEq, Int.reduceBNe, Int.reduceGE, Int.reduceGT, Nat.reduceLT, trim_keep, under_fn, under_ptr, under_sl, Nat.lt_irrefl, not_lt_add, trim_tail, keepOk, ABlk.vals, Int.cast_ofNat_Int, decide_true, decide_false, List.all_cons, List.all_nil, Nat.zero_mul, Nat.mul_one, Nat.one_mul, hd, ix, hc, ht, hle, ec, hb, seqR_ret, outs_normal]
   exact exF2 rfl (.inr rfl)
  ·have hb : (p.1 == b) = false := by simp [h]
   rw [idxF, if_neg h]
   simp -implicitDefEqProofs (maxSteps := 5000000) only [go_sem, Nat.reduceShiftRight, Nat.reduceAnd, Nat.reduceBNe, Int.reduceEq, Nat.reduceAdd, Nat.reduceSub, Nat.reduceMul, Nat.reduceLeDiff, reduceIte, reduceCtorEq, Nat.reduceBEq, Nat.reduceEqDiff, wrap64, runC_loop, runC_range, callF_fn, callV_fn, callV_yld, yield_eq, yieldBody, yieldRaw, roundMid, roundEnd, rangeEnd, Bool.not_not, put_cons, put_nil, trim_same, at_zero, at_add, set_zero, set_add, store_one, write_zero, write_add, write_head, write_succ, splice_one, splice_more, List.drop_nil, List.take_nil, cell_int, cell_bool, fillS, splice_one, idxA, Ex.isNormal, List.set_nil, List.length_set, List.all_cons, List.all_nil, Bool.and_self, and_self, true_and, and_true, List.getElem?_nil, Int.reduceLT, Int.reduceLE, Int.reduceToNat, Int.toNat_zero, Int.toNat_one, Int.reduceAdd, Int.reduceSub, Int.reduceMul, Int.reduceNeg, Int.reduceBEq, Int.reduceBNe, Int.reduceGE, Int.reduceGT, Nat.reduceLT, trim_keep, under_fn, under_ptr, under_sl, Nat.lt_irrefl, not_lt_add, trim_tail, keepOk, ABlk.vals, Int.cast_ofNat_Int, decide_true, decide_false, List.all_cons, List.all_nil, Nat.zero_mul, Nat.mul_one, Nat.one_mul, hd, ix, hc, ht, hle, ec, hb, e2]
   exact ih (i + 1) _ _ _ _ _ _ _ _ _ _ _ (by omega)
theorem idxFC : (envL prog).call 53 [v, .fn 54 [.ptr q 0]] H = some (.int .i64 (idxS l b), H) := by
 have l0 := idxL g hl b hq (k := l.length) (i := 0)
 rw [show ((0 : Nat) : Int) = 0 from rfl, List.drop_zero] at l0
 have wl := g.len
 have key : Outs (runC (envL prog) (b53 (envL prog)) ([v, .fn 54 [.ptr q 0]] ++ List.replicate (19 - [v, AV.fn 54 [.ptr q 0]].length) .undef) H) fun e' t K => K = H ∧ fin [.tmp 4] (some (e', t, K)) = some (.int .i64 (idxS l b), K) := by
  unfold b53
  generalize hQ : (fun (e' : Ex) (t : T) (K : AHeap) => K = H ∧ fin [.tmp 4] (some (e', t, K)) = some (AV.int .i64 (idxS l b), K)) = Q
  simp -implicitDefEqProofs (maxSteps := 5000000) only [go_sem, Nat.reduceShiftRight, Nat.reduceAnd, Nat.reduceBNe, Int.reduceEq, Nat.reduceAdd, Nat.reduceSub, Nat.reduceMul, Nat.reduceLeDiff, reduceIte, reduceCtorEq, Nat.reduceBEq, Nat.reduceEqDiff, wrap64, runC_loop, runC_range, callF_fn, callV_fn, callV_yld, yield_eq, yieldBody, yieldRaw, roundMid, roundEnd, rangeEnd, Bool.not_not, put_cons, put_nil, trim_same, at_zero, at_add, set_zero, set_add, store_one, write_zero, write_add, write_head, write_succ, splice_one, splice_more, List.drop_nil, List.take_nil, cell_int, cell_bool, fillS, splice_one, idxA, Ex.isNormal, List.set_nil, List.length_set, List.all_cons, List.all_nil, Bool.and_self, and_self, true_and, and_true, List.getElem?_nil, Int.reduceLT, Int.reduceLE, Int.reduceToNat, Int.toNat_zero, Int.toNat_one, Int.reduceAdd, Int.reduceSub, Int.reduceMul, Int.reduceNeg, Int.reduceBEq, Int.reduceBNe, Int.reduceGE, Int.reduceGT, Nat.reduceLT, trim_keep, under_fn, under_ptr, under_sl, Nat.lt_irrefl, not_lt_add, trim_tail, keepOk, ABlk.vals, Int.cast_ofNat_Int, decide_true, decide_false, List.all_cons, List.all_nil, Nat.zero_mul, Nat.mul_one, Nat.one_mul, runC_loop, wl]
  unfold LP1 at l0
  generalize (envL prog).loop (runC (envL prog) (l53x0 (envL prog))) = L0 at l0 ⊢
  refine outs_ctx (fun r => seqR (blockR 0 r) _) (l0 _ _ _ _ _ _ _ _ _ _ _ _ _ _ (by omega)) ?_
  rintro e t K ⟨rfl, fv, rfl, ⟨rfl, ho⟩ | ⟨rfl, f4⟩⟩
  ·simp -implicitDefEqProofs (maxSteps := 5000000) only [go_sem, Nat.reduceShiftRight, Nat.reduceAnd, Nat.reduceBNe, Int.reduceEq, Nat.reduceAdd, Nat.reduceSub, Nat.reduceMul, Nat.reduceLeDiff, reduceIte, reduceCtorEq, Nat.reduceBEq, Nat.reduceEqDiff, outs_normal]
   subst hQ
   have : idxS l b = -1 := ho
   rw [this]
   refine ⟨rfl, ?_⟩
   simp -implicitDefEqProofs (maxSteps := 5000000) only [go_sem, Nat.reduceShiftRight, Nat.reduceAnd, Nat.reduceBNe, Int.reduceEq, Nat.reduceAdd, Nat.reduceSub, Nat.reduceMul, Nat.reduceLeDiff, reduceIte, reduceCtorEq, Nat.reduceBEq, Nat.reduceEqDiff]
  ·simp -implicitDefEqProofs (maxSteps := 5000000) only [go_sem, Nat.reduceShiftRight, Nat.reduceAnd, Nat.reduceBNe, Int.reduceEq, Nat.reduceAdd, Nat.reduceSub, Nat.reduceMul, Nat.reduceLeDiff, reduceIte, reduceCtorEq, Nat.reduceBEq, Nat.reduceEqDiff, outs_normal]
   subst hQ
   refine ⟨rfl, ?_⟩
   simp -implicitDefEqProofs (maxSteps := 5000000) only [go_sem, Nat.reduceShiftRight, Nat.reduceAnd, Nat.reduceBNe, Int.reduceEq, Nat.reduceAdd, Nat.reduceSub, Nat.reduceMul, Nat.reduceLeDiff, reduceIte, reduceCtorEq, Nat.reduceBEq, Nat.reduceEqDiff, f4]
   rfl
 obtain ⟨e', t, K, hr, rfl, hf⟩ := key
 rw [c53, hr, hf]; exact trim_same rfl
end
section
variable {H : AHeap} {v : AV} {l : List PrS} (g : IsP H v l) (hl : l.length ≤ 1000000) (b : Int)
include g hl
theorem indexC : (envL prog).call 39 [v, .int .i64 b] H = some (.int .i64 (idxS l b), H) := by
 have ec := idxFC (g.adds (⟨[.rw [.int .i64 b]], rfl⟩ : Adds H (H ++ [.rw [.int .i64 b]]))) hl b (q := H.length) (by unfold cellsOf; simp)
 rw [c39]
 unfold b39
 simp -implicitDefEqProofs (maxSteps := 5000000) only [go_sem, Nat.reduceShiftRight, Nat.reduceAnd, Nat.reduceBNe, Int.reduceEq, Nat.reduceAdd, Nat.reduceSub, Nat.reduceMul, Nat.reduceLeDiff, reduceIte, reduceCtorEq, Nat.reduceBEq, Nat.reduceEqDiff, wrap64, runC_loop, runC_range, callF_fn, callV_fn, callV_yld, yield_eq, yieldBody, yieldRaw, roundMid, roundEnd, rangeEnd, Bool.not_not, put_cons, put_nil, trim_same, at_zero, at_add, set_zero, set_add, store_one, write_zero, write_add, write_head, write_succ, splice_one, splice_more, List.drop_nil, List.take_nil, cell_int, cell_bool, fillS, splice_one, idxA, Ex.isNormal, List.set_nil, List.length_set, List.all_cons, List.all_nil, Bool.and_self, and_self, true_and, and_true, List.getElem?_nil, Int.reduceLT, Int.reduceLE, Int.reduceToNat, Int.toNat_zero, Int.toNat_one, Int.reduceAdd, Int.reduceSub, Int.reduceMul, Int.reduceNeg, Int.reduceBEq, Int.reduceBNe, Int.reduceGE, Int.reduceGT, Nat.reduceLT, trim_keep, under_fn, under_ptr, under_sl, Nat.lt_irrefl, not_lt_add, trim_tail, keepOk, ABlk.vals, Int.cast_ofNat_Int, decide_true, decide_false, List.all_cons, List.all_nil, Nat.zero_mul, Nat.mul_one, Nat.one_mul, ec]
theorem findC : (envL prog).call 28 [v, .int .i64 b] H = some (.tup [.int .i64 (if 0 ≤ idxS l b then ((l[(idxS l b).toNat]?).getD (0, 0)).2 else 0), .bool (decide (0 ≤ idxS l b))], H) := by
 have ec := indexC g hl b
 rw [c28]
 unfold b28
 rcases idxS_rng l b with h | ⟨h1, h2⟩
 ·rw [h] at ec ⊢
  have d : decide ((-1 : Int) < 0) = true := rfl
  simp -implicitDefEqProofs (maxSteps := 5000000) only [go_sem, Nat.reduceShiftRight, Nat.reduceAnd, Nat.reduceBNe, Int.reduceEq, Nat.reduceAdd, Nat.reduceSub, Nat.reduceMul, Nat.reduceLeDiff, reduceIte, reduceCtorEq, Nat.reduceBEq, Nat.reduceEqDiff, wrap64, runC_loop, runC_range, callF_fn, callV_fn, callV_yld, yield_eq, yieldBody, yieldRaw, roundMid, roundEnd, rangeEnd, Bool.not_not, put_cons, put_nil, trim_same, at_zero, at_add, set_zero, set_add, store_one, write_zero, write_add, write_head, write_succ, splice_one, splice_more, List.drop_nil, List.take_nil, cell_int, cell_bool, fillS, splice_one, idxA, Ex.isNormal, List.set_nil, List.length_set, List.all_cons, List.all_nil, Bool.and_self, and_self, true_and, and_true, List.getElem?_nil, Int.reduceLT, Int.reduceLE, Int.reduceToNat, Int.toNat_zero, Int.toNat_one, Int.reduceAdd, Int.reduceSub, Int.reduceMul, Int.reduceNeg, Int.reduceBEq, Int.reduceBNe, Int.reduceGE, Int.reduceGT, Nat.reduceLT, trim_keep, under_fn, under_ptr, under_sl, Nat.lt_irrefl, not_lt_add, trim_tail, keepOk, ABlk.vals, Int.cast_ofNat_Int, decide_true, decide_false, List.all_cons, List.all_nil, Nat.zero_mul, Nat.mul_one, Nat.one_mul, ec, d]
 ·obtain ⟨i, hi⟩ : ∃ i : Nat, idxS l b = i := ⟨(idxS l b).toNat, by omega⟩
  rw [hi] at ec ⊢
  have d : decide ((i : Int) < 0) = false := decide_eq_false (by omega)
  have d2 : decide (0 ≤ (i : Int)) = true := decide_eq_true (by omega)
  have hx := List.getElem?_eq_getElem (show i < l.length by omega)
  obtain ⟨bb, cs, _, ix, hc, _, h2', _, hle⟩ := g.idx hx
  rw [if_pos (by omega), Int.toNat_natCast, hx, d2]
  simp -implicitDefEqProofs (maxSteps := 5000000) only [go_sem, Nat.reduceShiftRight, Nat.reduceAnd, Nat.reduceBNe, Int.reduceEq, Nat.reduceAdd, Nat.reduceSub, Nat.reduceMul, Nat.reduceLeDiff, reduceIte, reduceCtorEq, Nat.reduceBEq, Nat.reduceEqDiff, wrap64, runC_loop, runC_range, callF_fn, callV_fn, callV_yld, yield_eq, yieldBody, yieldRaw, roundMid, roundEnd, rangeEnd, Bool.not_not, put_cons, put_nil, trim_same, at_zero, at_add, set_zero, set_add, store_one, write_zero, write_add, write_head, write_succ, splice_one, splice_more, List.drop_nil, List.take_nil, cell_int, cell_bool, fillS, splice_one, idxA, Ex.isNormal, List.set_nil, List.length_set, List.all_cons, List.all_nil, Bool.and_self, and_self, true_and, and_true, List.getElem?_nil, Int.reduceLT, Int.reduceLE, Int.reduceToNat, Int.toNat_zero, Int.toNat_one, Int.reduceAdd, Int.reduceSub, Int.reduceMul, Int.reduceNeg, Int.reduceBEq, Int.reduceBNe, Int.reduceGE, Int.reduceGT, Nat.reduceLT, trim_keep, under_fn, under_ptr, under_sl, Nat.lt_irrefl, not_lt_add, trim_tail, keepOk, ABlk.vals, Int.cast_ofNat_Int, decide_true, decide_false, List.all_cons, List.all_nil, Nat.zero_mul, Nat.mul_one, Nat.one_mul, ec, d, ix, hc, h2']
  rfl
end
end Go.Proofs.Ytfioahnogphnfaa.G12
end
section
namespace Go.Proofs.Ytfioahnogphnfaa.G12
open Go Go.Proofs.Ytfioahnogphnfaa.Eng
section
variable {H : AHeap} {v : AV} {l : List PrS} (g : IsP H v l) (hl : l.length ≤ 1000000) (b : Int)
include g hl
set_option maxHeartbeats 4000000 in
theorem rfindL (x2 x3 : AV) : ∀ (k i : Nat) (j6 j7 j8 j9 j10 j11 j12 j13 j14 j15 j16 j17 j18 j19 : AV), i + k = l.length →
  Outs (LP1 l22x0 [v, .int .i64 b, x2, x3, .int .i64 0, .int .i64 (i : Int), j6, j7, j8, j9, j10, j11, j12, j13, j14, j15, j16, j17, j18, j19] H) fun e t K => K = H ∧ ∃ fv : Nat → AV, t = [v, .int .i64 b, x2, x3, (fv 4), (fv 5), (fv 6), (fv 7), (fv 8), (fv 9), (fv 10), (fv 11), (fv 12), (fv 13), (fv 14), (fv 15), (fv 16), (fv 17), (fv 18), (fv 19)] ∧ ((e = .exit 0 ∧ idxF b i (l.drop i) = -1) ∨ (e = .ret ∧ fv 4 = .int .i64 (idxF b i (l.drop i)))) := by
 intro k
 obtain ⟨L0, hL0⟩ : ∃ L, L = LP1 l22x0 := ⟨_, rfl⟩
 have lo := loop_open hL0
 have wl := g.len
 rw [← hL0]
 induction k with
 | zero =>
  intro i j6 j7 j8 j9 j10 j11 j12 j13 j14 j15 j16 j17 j18 j19 hi
  obtain rfl : i = l.length := by omega
  have hd : decide ((l.length : Int) < (l.length : Int)) = false := by simp
  rw [List.drop_length, lo]
  unfold l22x0
  simp -implicitDefEqProofs (maxSteps := 5000000) only [go_sem, Nat.reduceShiftRight, Nat.reduceAnd, Nat.reduceBNe, Int.reduceEq, Nat.reduceAdd, Nat.reduceSub, Nat.reduceMul, Nat.reduceLeDiff, reduceIte, reduceCtorEq, Nat.reduceBEq, Nat.reduceEqDiff, wl, hd, seqR_exit', outs_normal]
  exact exF2 rfl (.inl rfl)
 | succ k ih =>
  intro i j6 j7 j8 j9 j10 j11 j12 j13 j14 j15 j16 j17 j18 j19 hi
  have hlt : i < l.length := by omega
  have hd : decide ((i : Int) < (l.length : Int)) = true := decide_eq_true (by omega)
  have e2 : IntKind.i64.wrap ((i : Int) + 1) = ((i + 1 : Nat) : Int) := by rw [wrap64 (by omega) (by omega)]; omega
  have hx := List.getElem?_eq_getElem hlt
  rw [List.drop_eq_getElem_cons hlt]
  generalize l[i] = p at *
  obtain ⟨bb, cs, _, ix, hc, h1, _, _, hle⟩ := g.idx hx
  rw [lo]
  unfold l22x0
  by_cases h : p.1 = b
  ·have hb : (p.1 == b) = true := by simp [h]
   rw [idxF, if_pos h]
   simp -implicitDefEqProofs (maxSteps := 5000000) only [go_sem, Nat.reduceShiftRight, Nat.reduceAnd, Nat.reduceBNe, Int.reduceEq, Nat.reduceAdd, Nat.reduceSub, Nat.reduceMul, Nat.reduceLeDiff, reduceIte, reduceCtorEq, Nat.reduceBEq, Nat.reduceEqDiff, wrap64, runC_loop, runC_range, callF_fn, callV_fn, callV_yld, yield_eq, yieldBody, yieldRaw, roundMid, roundEnd, rangeEnd, Bool.not_not, put_cons, put_nil, trim_same, at_zero, at_add, set_zero, set_add, store_one, write_zero, write_add, write_head, write_succ, splice_one, splice_more, List.drop_nil, List.take_nil, cell_int, cell_bool, fillS, splice_one, idxA, Ex.isNormal, List.set_nil, List.length_set, List.all_cons, List.all_nil, Bool.and_self, and_self, true_and, and_true, List.getElem?_nil, Int.reduceLT, Int.reduceLE, Int.reduceToNat, Int.toNat_zero, Int.toNat_one, Int.reduceAdd, Int.reduceSub, Int.reduceMul, Int.reduceNeg, Int.reduceBEq, Int.reduceBNe, Int.reduceGE, Int.reduceGT, Nat.reduceLT, trim_keep, under_fn, under_ptr, under_sl, Nat.lt_irrefl, not_lt_add, trim_tail, keepOk, ABlk.vals, Int.cast_ofNat_Int, decide_true, decide_false, List.all_cons, List.all_nil, Nat.zero_mul, Nat.mul_one, Nat.one_mul, wl, hd, ix, hc, h1, hb, seqR_ret, outs_normal]
   exact exF2 rfl (.inr rfl)
  ·have hb : (p.1 == b) = false := by simp [h]
   rw [idxF, if_neg h]
   simp -implicitDefEqProofs (maxSteps := 5000000) only [go_sem, Nat.reduceShiftRight, Nat.reduceAnd, Nat.reduceBNe, Int.reduceEq, Nat.reduceAdd, Nat.reduceSub, Nat.reduceMul, Nat.reduceLeDiff, reduceIte, reduceCtorEq, Nat.reduceBEq, Nat.reduceEqDiff, wrap64, runC_loop, runC_range, callF_fn, callV_fn, callV_yld, yield_eq, yieldBody, yieldRaw, roundMid, roundEnd, rangeEnd, Bool.not_not, put_cons, put_nil, trim_same, at_zero, at_add, set_zero, set_add, store_one, write_zero, write_add, write_head, write_succ, splice_one, splice_more, List.drop_nil, List.take_nil, cell_int, cell_bool, fillS, splice_one, idxA, Ex.isNormal, List.set_nil, List.length_set, List.all_cons, List.all_nil, Bool.and_self, and_self, true_and, and_true, List.getElem?_nil, Int.reduceLT, Int.reduceLE, Int.reduceToNat, Int.toNat_zero, Int.toNat_one, Int.reduceAdd, Int.reduceSub, Int.reduceMul, Int.reduceNeg, Int.reduceBEq, Int.reduceBNe, Int.reduceGE, Int.reduceGT, Nat.reduceLT, trim_keep, under_fn, under_ptr, under_sl, Nat.lt_irrefl, not_lt_add, trim_tail, keepOk, ABlk.vals, Int.cast_ofNat_Int, decide_true, decide_false, List.all_cons, List.all_nil, Nat.zero_mul, Nat.mul_one, Nat.one_mul, wl, hd, ix, hc, h1, hb, e2]
   exact ih (i + 1) _ _ _ _ _ _ _ _ _ _ _ _ _ _ (by omega)
theorem rfindC : (envL prog).call 22 [v, .int .i64 b] H = some (.int .i64 (idxS l b), H) := by
 have l0 := rfindL g hl b (k := l.length) (i := 0)
 rw [show ((0 : Nat) : Int) = 0 from rfl, List.drop_zero] at l0
 have key : Outs (runC (envL prog) (b22 (envL prog)) ([v, .int .i64 b] ++ List.replicate (20 - [v, AV.int .i64 b].length) .undef) H) fun e' t K => K = H ∧ fin [.tmp 4] (some (e', t, K)) = some (.int .i64 (idxS l b), K) := by
  unfold b22
  generalize hQ : (fun (e' : Ex) (t : T) (K : AHeap) => K = H ∧ fin [.tmp 4] (some (e', t, K)) = some (AV.int .i64 (idxS l b), K)) = Q
  simp -implicitDefEqProofs (maxSteps := 5000000) only [go_sem, Nat.reduceShiftRight, Nat.reduceAnd, Nat.reduceBNe, Int.reduceEq, Nat.reduceAdd, Nat.reduceSub, Nat.reduceMul, Nat.reduceLeDiff, reduceIte, reduceCtorEq, Nat.reduceBEq, Nat.reduceEqDiff, wrap64, runC_loop, runC_range, callF_fn, callV_fn, callV_yld, yield_eq, yieldBody, yieldRaw, roundMid, roundEnd, rangeEnd, Bool.not_not, put_cons, put_nil, trim_same, at_zero, at_add, set_zero, set_add, store_one, write_zero, write_add, write_head, write_succ, splice_one, splice_more, List.drop_nil, List.take_nil, cell_int, cell_bool, fillS, splice_one, idxA, Ex.isNormal, List.set_nil, List.length_set, List.all_cons, List.all_nil, Bool.and_self, and_self, true_and, and_true, List.getElem?_nil, Int.reduceLT, Int.reduceLE, Int.reduceToNat, Int.toNat_zero, Int.toNat_one, Int.reduceAdd, Int.reduceSub, Int.reduceMul, Int.reduceNeg, Int.reduceBEq, Int.reduceBNe, Int.reduceGE, Int.reduceGT, Nat.reduceLT, trim_keep, under_fn, under_ptr, under_sl, Nat.lt_irrefl, not_lt_add, trim_tail, keepOk, ABlk.vals, Int.cast_ofNat_Int, decide_true, decide_false, List.all_cons, List.all_nil, Nat.zero_mul, Nat.mul_one, Nat.one_mul, runC_loop]
  unfold LP1 at l0
  generalize (envL prog).loop (runC (envL prog) (l22x0 (envL prog))) = L0 at l0 ⊢
  refine outs_ctx (fun r => seqR (blockR 0 r) _) (l0 _ _ _ _ _ _ _ _ _ _ _ _ _ _ _ _ (by omega)) ?_
  rintro e t K ⟨rfl, fv, rfl, ⟨rfl, ho⟩ | ⟨rfl, f4⟩⟩
  ·simp -implicitDefEqProofs (maxSteps := 5000000) only [go_sem, Nat.reduceShiftRight, Nat.reduceAnd, Nat.reduceBNe, Int.reduceEq, Nat.reduceAdd, Nat.reduceSub, Nat.reduceMul, Nat.reduceLeDiff, reduceIte, reduceCtorEq, Nat.reduceBEq, Nat.reduceEqDiff, outs_normal]
   subst hQ
   have : idxS l b = -1 := ho
   rw [this]
   refine ⟨rfl, ?_⟩
   simp -implicitDefEqProofs (maxSteps := 5000000) only [go_sem, Nat.reduceShiftRight, Nat.reduceAnd, Nat.reduceBNe, Int.reduceEq, Nat.reduceAdd, Nat.reduceSub, Nat.reduceMul, Nat.reduceLeDiff, reduceIte, reduceCtorEq, Nat.reduceBEq, Nat.reduceEqDiff]
  ·simp -implicitDefEqProofs (maxSteps := 5000000) only [go_sem, Nat.reduceShiftRight, Nat.reduceAnd, Nat.reduceBNe, Int.reduceEq, Nat.reduceAdd, Nat.reduceSub, Nat.reduceMul, Nat.reduceLeDiff, reduceIte, reduceCtorEq, Nat.reduceBEq, Nat.reduceEqDiff, outs_normal]
   subst hQ
   refine ⟨rfl, ?_⟩
   simp -implicitDefEqProofs (maxSteps := 5000000) only [go_sem, Nat.reduceShiftRight, Nat.reduceAnd, Nat.reduceBNe, Int.reduceEq, Nat.reduceAdd, Nat.reduceSub, Nat.reduceMul, Nat.reduceLeDiff, reduceIte, reduceCtorEq, Nat.reduceBEq, Nat.reduceEqDiff, f4]
   rfl
 obtain ⟨e', t, K, hr, rfl, hf⟩ := key
 rw [c22, hr, hf]; exact trim_same rfl
end
section
variable {H : AHeap} {v w : AV} {l m : List PrS} (g : IsP H v l) (f : IsP H w m) (hl : l.length ≤ 1000000)
include g f hl
end
end Go.Proofs.Ytfioahnogphnfaa.G12
end
section
namespace Go.Proofs.Ytfioahnogphnfaa.G12
open Go Go.Proofs.Ytfioahnogphnfaa.Eng
theorem x_miss {X : Over} {k f : Nat} {R : List AV → AHeap → Option (AV × AHeap)} (args : List AV) (h : AHeap) (e : (f == k) = false) : (envX prog (X.with k R)).call f args h = (envX prog X).call f args h := by
 have : ¬ f = k := by simpa using e
 unfold envX Over.with
 simp [this]
theorem x_none (f : Nat) (args : List AV) (h : AHeap) : (envX prog Over.none).call f args h = (envL prog).call f args h := rfl
theorem x_hit {X : Over} {k : Nat} {R : List AV → AHeap → Option (AV × AHeap)} {args : List AV} {h : AHeap} {r : AV × AHeap} (e : R args h = some r) : (envX prog (X.with k R)).call k args h = some r := by
 unfold envX Over.with
 simp [e]
theorem x1_call (f : Nat) (args : List AV) (h : AHeap) (e1 : (f == 52) = false) (e2 : (f == 61) = false) : (envX prog X1).call f args h = (envL prog).call f args h := by
 unfold X1 X0; rw [x_miss _ _ e1, x_miss _ _ e2, x_none]
theorem insR_eq {h : AHeap} {b vb n i : Nat} {cs vs : List AV} (hk : h[b]? = some (.rw cs)) (hv : h[vb]? = some (.rw vs)) (hne : vb ≠ b) (hi : i < n) (lc : cs.length = n * 2) (lv : vs.length = 2) (cc : cs.all AV.isCell = true) (cv : vs.all AV.isCell = true) (room : (n + 1) * 16 ≤ roomy) :
  insR 2 16 [.sl b 0 2 n n false, .int .i64 (i : Int), .sl vb 0 2 1 1 true] h = some (.sl h.length 0 2 (n + 1) (n + 1) false, h.set b .dead ++ [.rw (insC 2 i cs vs)]) := by
 show (match h[b]?, h[vb]? with
  | some (.rw cs), some (.rw vs) => if (2 = 2 ∧ 2 = 2 ∧ n = n ∧ vb ≠ b ∧ i < n ∧ cs.length = n * 2 ∧ vs.length = 2 ∧ cs.all AV.isCell = true ∧ vs.all AV.isCell = true ∧ (n + 1) * 16 ≤ roomy) then some (AV.sl h.length 0 2 (n + 1) (n + 1) false, h.set b .dead ++ [ABlk.rw (insC 2 i cs vs)]) else none
  | _, _ => none) = _
 rw [hk, hv]
 exact if_pos ⟨rfl, rfl, rfl, hne, hi, lc, lv, cc, cv, room⟩
noncomputable abbrev LX (l : Env → CT) := (envL prog).loop (runC (envX prog X1) (l (envX prog X1)))
section
variable {H0 : AHeap} {v : AV} {l : List PrS} (hl : l.length ≤ 1000000) (b a : Int) {pb : Nat} (hpb : pb < H0.length)
include hl hpb
set_option maxHeartbeats 8000000 in
theorem putL (x2 x3 x4 x5 x8 x11 x12 x13 x14 x15 x16 x17 x18 x19 x20 x21 x22 x23 x24 x25 x43 x44 x45 x46 : AV) : ∀ (k i : Nat) (K : AHeap) (j9 j10 j29 j30 j31 j32 j33 j34 j35 j36 j37 j38 j39 j40 j41 j42 : AV), Gp K H0.length v l → Adds H0 K → cellsOf K pb = some (prC (b, a)) → i + k = l.length →
  Outs (LX l37x0  [v, .int .i64 b, x2, x3, x4, x5, .nilSl, .ptr pb 0, x8, j9, j10, x11, x12, x13, x14, x15, x16, x17, x18, x19, x20, x21, x22, x23, x24, x25, v, .int .i64 (l.length : Int), .int .i64 (i : Int), j29, j30, j31, j32, j33, j34, j35, j36, j37, j38, j39, j40, j41, j42, x43, x44, x45, x46] K) fun e t K' => Adds H0 K' ∧ ∃ fv : Nat → AV, t = [v, .int .i64 b, x2, x3, x4, x5, (fv 6), .ptr pb 0, x8, (fv 9), (fv 10), x11, x12, x13, x14, x15, x16, x17, x18, x19, x20, x21, x22, x23, x24, x25, v, .int .i64 (l.length : Int), (fv 28), (fv 29), (fv 30), (fv 31), (fv 32), (fv 33), (fv 34), (fv 35), (fv 36), (fv 37), (fv 38), (fv 39), (fv 40), (fv 41), (fv 42), x43, x44, x45, x46] ∧ ((e = .exit 0 ∧ Gp K' H0.length v l ∧ cellsOf K' pb = some (prC (b, a)) ∧ l.take i ++ tins b a (l.drop i) = l ++ [(b, a)]) ∨ (e = .ret ∧ Gp K' H0.length (fv 6) (l.take i ++ tins b a (l.drop i)) ∧ (fv 6).under H0.length = false)) := by
 intro k
 obtain ⟨L0, hL0⟩ : ∃ L, L = LX l37x0 := ⟨_, rfl⟩
 have lo := loop_open hL0
 rw [← hL0]
 have hr : (roomy : Nat) = 140737488355328 := rfl
 induction k with
 | zero =>
  intro i K j9 j10 j29 j30 j31 j32 j33 j34 j35 j36 j37 j38 j39 j40 j41 j42 g aK cp hi
  obtain rfl : i = l.length := by omega
  have hd : decide ((l.length : Int) < (l.length : Int)) = false := by simp
  rw [lo]
  unfold l37x0
  simp -implicitDefEqProofs (maxSteps := 5000000) only [go_sem, Nat.reduceShiftRight, Nat.reduceAnd, Nat.reduceBNe, Int.reduceEq, Nat.reduceAdd, Nat.reduceSub, Nat.reduceMul, Nat.reduceLeDiff, reduceIte, reduceCtorEq, Nat.reduceBEq, Nat.reduceEqDiff, hd, seqR_exit', outs_normal]
  exact ⟨aK, exF2 rfl (.inl ⟨g, cp, by rw [List.take_length, List.drop_length]; rfl⟩)⟩
 | succ k ih =>
  intro i K j9 j10 j29 j30 j31 j32 j33 j34 j35 j36 j37 j38 j39 j40 j41 j42 g aK cp hi
  have hlt : i < l.length := by omega
  have hd : decide ((i : Int) < (l.length : Int)) = true := decide_eq_true (by omega)
  have e2 : IntKind.i64.wrap ((i : Int) + 1) = ((i + 1 : Nat) : Int) := by rw [wrap64 (by omega) (by omega)]; omega
  have hx := List.getElem?_eq_getElem hlt
  have dr := List.drop_eq_getElem_cons hlt
  have tk : l.take (i + 1) = l.take i ++ [l[i]] := by rw [List.take_add_one, hx]; rfl
  generalize l[i] = q at *
  obtain ⟨bb, cs, sb, ix, hc, h1, h2, ht, hle⟩ := g.isP.idx hx
  have aK2 := aK.len
  have cp1 := fun X : AHeap => cells_old (x := X) cp
  unfold prC at cp1 ht
  by_cases h : q.1 > b
  ·have db : decide (q.1 > b) = true := decide_eq_true h
   have e3 : l.take i ++ tins b a (l.drop i) = l.take i ++ (b, a) :: l.drop i := by rw [dr, tins, if_pos h]
   obtain ⟨b1, hb1, rfl, hk1⟩ : ∃ b1, H0.length ≤ b1 ∧ v = .sl b1 0 2 l.length l.length false ∧ K[b1]? = some (.rw (flat l)) := by
    rcases g with ⟨_, rfl⟩ | ⟨rfl, _⟩ | ⟨_, b1, q1, q2, q3⟩
    ·simp at hlt
    ·simp at hlt
    ·exact ⟨b1, q1, q2, q3⟩
   have lb1 := lt_of_at hk1
   obtain ⟨K2, hK2⟩ : ∃ K2, K2 = K ++ [ABlk.rw [.int .i64 q.1, .int .i64 q.2], .rw [.int .i64 b, .int .i64 a]] := ⟨_, rfl⟩
   have k2 : K2[b1]? = some (.rw (flat l)) := by rw [hK2, List.getElem?_append_left lb1]; exact hk1
   have p2 : K2[K.length + 1]? = some (.rw (prC (b, a))) := by rw [hK2, List.getElem?_append_right (by omega)]; simp; rfl
   have l2 : K2.length = K.length + 2 := by rw [hK2]; simp
   have ei := insR_eq k2 p2 (by omega) hlt (flat_len l) rfl (flat_cell l) rfl (by omega)
   have ec := x_hit (X := X0) (k := 52) ei
   rw [show X0.with 52 (insR 2 16) = X1 from rfl, show insC 2 i (flat l) (prC (b, a)) = flat (l.take i ++ (b, a) :: l.drop i) from insC_rows l (b, a) i (by omega)] at ec
   obtain ⟨K3, hK3⟩ : ∃ K3, K3 = K2.set b1 .dead ++ [ABlk.rw (flat (l.take i ++ (b, a) :: l.drop i))] := ⟨_, rfl⟩
   rw [← hK3] at ec
   have ll : (l.take i ++ (b, a) :: l.drop i).length = l.length + 1 := by rw [List.length_append, List.length_take, List.length_cons, List.length_drop]; omega
   have g3 : Gp K3 H0.length (.sl K2.length 0 2 (l.length + 1) (l.length + 1) false) (l.take i ++ (b, a) :: l.drop i) := .inr (.inr ⟨by simp, K2.length, by omega, by rw [ll], by rw [hK3, List.getElem?_append_right (by rw [List.length_set]; exact Nat.le_refl _), List.length_set, Nat.sub_self]; rfl⟩)
   have a3 : Adds H0 K3 := by
    have : Fr K2 K3 (· = b1) := by rw [hK3]; exact (Fr.set (F := (· = b1)) _ _ rfl).trans (Fr.adds ⟨_, rfl⟩ (fun _ => False)) fun _ _ h => h.elim
    exact this.old (aK.trans ⟨_, hK2⟩) fun x hx e => by omega
   have u3 : (AV.sl K2.length 0 2 (l.length + 1) (l.length + 1) false).under H0.length = false := by simp [AV.under]; omega
   have hK2 := hK2.symm
   rw [e3, lo]
   unfold l37x0
   simp -implicitDefEqProofs (maxSteps := 5000000) only [go_sem, Nat.reduceShiftRight, Nat.reduceAnd, Nat.reduceBNe, Int.reduceEq, Nat.reduceAdd, Nat.reduceSub, Nat.reduceMul, Nat.reduceLeDiff, reduceIte, reduceCtorEq, Nat.reduceBEq, Nat.reduceEqDiff, wrap64, runC_loop, runC_range, callF_fn, callV_fn, callV_yld, yield_eq, yieldBody, yieldRaw, roundMid, roundEnd, rangeEnd, Bool.not_not, put_cons, put_nil, trim_same, at_zero, at_add, set_zero, set_add, store_one, write_zero, write_add, write_head, write_succ, splice_one, splice_more, List.drop_nil, List.take_nil, cell_int, cell_bool, fillS, splice_one, idxA, Ex.isNormal, List.set_nil, List.length_set, List.all_cons, List.all_nil, Bool.and_self, and_self, true_and, and_true, List.getElem?_nil, Int.reduceLT, Int.reduceLE, Int.reduceToNat, Int.toNat_zero, Int.toNat_one, Int.reduceAdd, Int.reduceSub, Int.reduceMul, Int.reduceNeg, Int.reduceBEq, Int.reduceBNe, Int.reduceGE, Int.reduceGT, Nat.reduceLT, trim_keep, under_fn, under_ptr, under_sl, Nat.lt_irrefl, not_lt_add, trim_tail, keepOk, ABlk.vals, Int.cast_ofNat_Int, decide_true, decide_false, List.all_cons, List.all_nil, Nat.zero_mul, Nat.mul_one, Nat.one_mul, hd, ix, hc, h1, h2, ht, hle, db, cp1, hK2, ec, seqR_ret, outs_normal]
   exact ⟨a3, exF2 rfl (.inr ⟨g3, u3⟩)⟩
  ·have db : decide (q.1 > b) = false := decide_eq_false h
   have e3 : l.take i ++ tins b a (l.drop i) = l.take (i + 1) ++ tins b a (l.drop (i + 1)) := by rw [dr, tins, if_neg h, tk, List.append_assoc]; rfl
   have key := ih (i + 1) (K ++ [.rw [.int .i64 q.1, .int .i64 q.2]])
   rw [e3, lo]
   unfold l37x0
   simp -implicitDefEqProofs (maxSteps := 5000000) only [go_sem, Nat.reduceShiftRight, Nat.reduceAnd, Nat.reduceBNe, Int.reduceEq, Nat.reduceAdd, Nat.reduceSub, Nat.reduceMul, Nat.reduceLeDiff, reduceIte, reduceCtorEq, Nat.reduceBEq, Nat.reduceEqDiff, wrap64, runC_loop, runC_range, callF_fn, callV_fn, callV_yld, yield_eq, yieldBody, yieldRaw, roundMid, roundEnd, rangeEnd, Bool.not_not, put_cons, put_nil, trim_same, at_zero, at_add, set_zero, set_add, store_one, write_zero, write_add, write_head, write_succ, splice_one, splice_more, List.drop_nil, List.take_nil, cell_int, cell_bool, fillS, splice_one, idxA, Ex.isNormal, List.set_nil, List.length_set, List.all_cons, List.all_nil, Bool.and_self, and_self, true_and, and_true, List.getElem?_nil, Int.reduceLT, Int.reduceLE, Int.reduceToNat, Int.toNat_zero, Int.toNat_one, Int.reduceAdd, Int.reduceSub, Int.reduceMul, Int.reduceNeg, Int.reduceBEq, Int.reduceBNe, Int.reduceGE, Int.reduceGT, Nat.reduceLT, trim_keep, under_fn, under_ptr, under_sl, Nat.lt_irrefl, not_lt_add, trim_tail, keepOk, ABlk.vals, Int.cast_ofNat_Int, decide_true, decide_false, List.all_cons, List.all_nil, Nat.zero_mul, Nat.mul_one, Nat.one_mul, hd, ix, hc, h1, h2, ht, hle, db, e2]
   exact key _ _ _ _ _ _ _ _ _ _ _ _ _ _ _ _ (g.adds _) (aK.trans ⟨_, rfl⟩) (cells_old cp) (by omega)
end
set_option maxHeartbeats 16000000 in
theorem putC {H : AHeap} {v : AV} {l : List PrS} (g : IsP H v l) (hl : l.length ≤ 1000000) (b a : Int) : ∃ v' K, callBody prog (envX prog X1) 37 [v, .int .i64 b, .int .i64 a] H = some (v', K) ∧ Adds H K ∧ Gp K H.length v' (tput l b a) := by
 have hr : (roomy : Nat) = 140737488355328 := rfl
 obtain ⟨H0, hH0⟩ : ∃ H0, H0 = H ++ [ABlk.rw [.int .i64 b, .int .i64 a]] := ⟨_, rfl⟩
 have a0 : Adds H H0 := ⟨_, hH0⟩
 have c0 : cellsOf H0 H.length = some (prC (b, a)) := by rw [hH0]; unfold cellsOf; simp; rfl
 have l0 : H0.length = H.length + 1 := by rw [hH0]; simp
 obtain ⟨v1, K, ec, aK, gK⟩ := cloneC (g.adds a0) hl
 have ei := indexC gK.isP hl b
 have cK := aK.cells c0
 unfold prC at cK
 have hH0 := hH0.symm
 have key : Outs (runC (envX prog X1) (b37 (envX prog X1)) ([v, .int .i64 b, .int .i64 a] ++ List.replicate (47 - [v, AV.int .i64 b, AV.int .i64 a].length) .undef) H) fun e' t K => ∃ v', Adds H K ∧ Gp K H.length v' (tput l b a) ∧ v'.under H.length = false ∧ fin [.tmp 6] (some (e', t, K)) = some (v', K) := by
  unfold b37
  generalize hQ : (fun (e' : Ex) (t : T) (K : AHeap) => ∃ v', Adds H K ∧ Gp K H.length v' (tput l b a) ∧ v'.under H.length = false ∧ fin [.tmp 6] (some (e', t, K)) = some (v', K)) = Q
  rcases idxS_rng l b with h | ⟨h1, h2⟩
  ·have et : tput l b a = tins b a l := by unfold tput; rw [if_neg (by omega)]
   have d : decide (idxS l b ≥ 0) = false := decide_eq_false (by omega)
   have lv := gK.isP.len
   have pl := putL (H0 := H0) (v := v1) hl b a (pb := H.length) (by omega) (k := l.length) (i := 0) (K := K)
   rw [show ((0 : Nat) : Int) = 0 from rfl, List.take_zero, List.drop_zero, List.nil_append] at pl
   simp -implicitDefEqProofs (maxSteps := 5000000) only [go_sem, Nat.reduceShiftRight, Nat.reduceAnd, Nat.reduceBNe, Int.reduceEq, Nat.reduceAdd, Nat.reduceSub, Nat.reduceMul, Nat.reduceLeDiff, reduceIte, reduceCtorEq, Nat.reduceBEq, Nat.reduceEqDiff, wrap64, runC_loop, runC_range, callF_fn, callV_fn, callV_yld, yield_eq, yieldBody, yieldRaw, roundMid, roundEnd, rangeEnd, Bool.not_not, put_cons, put_nil, trim_same, at_zero, at_add, set_zero, set_add, store_one, write_zero, write_add, write_head, write_succ, splice_one, splice_more, List.drop_nil, List.take_nil, cell_int, cell_bool, fillS, splice_one, idxA, Ex.isNormal, List.set_nil, List.length_set, List.all_cons, List.all_nil, Bool.and_self, and_self, true_and, and_true, List.getElem?_nil, Int.reduceLT, Int.reduceLE, Int.reduceToNat, Int.toNat_zero, Int.toNat_one, Int.reduceAdd, Int.reduceSub, Int.reduceMul, Int.reduceNeg, Int.reduceBEq, Int.reduceBNe, Int.reduceGE, Int.reduceGT, Nat.reduceLT, trim_keep, under_fn, under_ptr, under_sl, Nat.lt_irrefl, not_lt_add, trim_tail, keepOk, ABlk.vals, Int.cast_ofNat_Int, decide_true, decide_false, List.all_cons, List.all_nil, Nat.zero_mul, Nat.mul_one, Nat.one_mul, runC_loop, x_loop, x1_call, hH0, ec, ei, d, lv]
   unfold LX at pl
   generalize (envL prog).loop (runC (envX prog X1) (l37x0 (envX prog X1))) = L0 at pl ⊢
   refine outs_ctx (fun r => seqR (blockR 0 r) _) (pl _ _ _ _ _ _ _ _ _ _ _ _ _ _ _ _ _ _ _ _ _ _ _ _ _ _ _ _ _ _ _ _ _ _ _ _ _ _ _ _ gK aK (aK.cells c0) (by omega)) ?_
   rintro e t K2 ⟨a2, fv, rfl, ⟨rfl, g2, c2, e2⟩ | ⟨rfl, g2, u2⟩⟩
   ·have g2' := g2.adds [.rw [.int .i64 b, .int .i64 a]]
    have len2 := a2.len
    obtain ⟨v3, K3, ea, g3, f3, s3, _⟩ := gp_app (m := [(b, a)]) g2' (by simp; omega) (y := .sl K2.length 0 2 1 1 true) rfl (by unfold srcCells readN cellsOf; simp; rfl) (by simp; omega)
    have sv := s3 (by simp)
    have a3 : Adds H0 K3 := f3.old (a2.trans ⟨_, rfl⟩) fun x hx hs => by have := (g2.out x hs).1; omega
    have u3 : v3.under H.length = false := by
     rcases g3 with ⟨rfl, q⟩ | ⟨q, _⟩ | ⟨_, x, hx, rfl, _⟩
     ·simp at q
     ·simp at q
     ·simp [AV.under]; omega
    unfold prC at c2
    simp -implicitDefEqProofs (maxSteps := 5000000) only [go_sem, Nat.reduceShiftRight, Nat.reduceAnd, Nat.reduceBNe, Int.reduceEq, Nat.reduceAdd, Nat.reduceSub, Nat.reduceMul, Nat.reduceLeDiff, reduceIte, reduceCtorEq, Nat.reduceBEq, Nat.reduceEqDiff, wrap64, runC_loop, runC_range, callF_fn, callV_fn, callV_yld, yield_eq, yieldBody, yieldRaw, roundMid, roundEnd, rangeEnd, Bool.not_not, put_cons, put_nil, trim_same, at_zero, at_add, set_zero, set_add, store_one, write_zero, write_add, write_head, write_succ, splice_one, splice_more, List.drop_nil, List.take_nil, cell_int, cell_bool, fillS, splice_one, idxA, Ex.isNormal, List.set_nil, List.length_set, List.all_cons, List.all_nil, Bool.and_self, and_self, true_and, and_true, List.getElem?_nil, Int.reduceLT, Int.reduceLE, Int.reduceToNat, Int.toNat_zero, Int.toNat_one, Int.reduceAdd, Int.reduceSub, Int.reduceMul, Int.reduceNeg, Int.reduceBEq, Int.reduceBNe, Int.reduceGE, Int.reduceGT, Nat.reduceLT, trim_keep, under_fn, under_ptr, under_sl, Nat.lt_irrefl, not_lt_add, trim_tail, keepOk, ABlk.vals, Int.cast_ofNat_Int, decide_true, decide_false, List.all_cons, List.all_nil, Nat.zero_mul, Nat.mul_one, Nat.one_mul, c2, ea, outs_normal]
    subst hQ
    rw [et, e2]
    refine ⟨v3, a0.trans a3, g3.low (by omega), u3, ?_⟩
    simp -implicitDefEqProofs (maxSteps := 5000000) only [go_sem, Nat.reduceShiftRight, Nat.reduceAnd, Nat.reduceBNe, Int.reduceEq, Nat.reduceAdd, Nat.reduceSub, Nat.reduceMul, Nat.reduceLeDiff, reduceIte, reduceCtorEq, Nat.reduceBEq, Nat.reduceEqDiff]
   ·have u2' : (fv 6).under H.length = false := by
     rcases g2 with ⟨q, _⟩ | ⟨_, x, hx, q, _⟩ | ⟨_, x, hx, q, _⟩ <;> rw [q] at u2 ⊢
     ·cases u2
     ·simp [AV.under]; omega
     ·simp [AV.under]; omega
    simp -implicitDefEqProofs (maxSteps := 5000000) only [go_sem, Nat.reduceShiftRight, Nat.reduceAnd, Nat.reduceBNe, Int.reduceEq, Nat.reduceAdd, Nat.reduceSub, Nat.reduceMul, Nat.reduceLeDiff, reduceIte, reduceCtorEq, Nat.reduceBEq, Nat.reduceEqDiff, outs_normal]
    subst hQ
    rw [et]
    refine ⟨fv 6, a0.trans a2, g2.low (by omega), u2', ?_⟩
    simp -implicitDefEqProofs (maxSteps := 5000000) only [go_sem, Nat.reduceShiftRight, Nat.reduceAnd, Nat.reduceBNe, Int.reduceEq, Nat.reduceAdd, Nat.reduceSub, Nat.reduceMul, Nat.reduceLeDiff, reduceIte, reduceCtorEq, Nat.reduceBEq, Nat.reduceEqDiff]
  ·obtain ⟨i, hi⟩ : ∃ i : Nat, idxS l b = i := ⟨(idxS l b).toNat, by omega⟩
   have et : tput l b a = l.set i (b, a) := by unfold tput; rw [if_pos h1, hi, Int.toNat_natCast]
   rw [hi] at ei
   have d : decide ((i : Int) ≥ 0) = true := decide_eq_true (by omega)
   have il : i < l.length := by omega
   obtain ⟨b1, hb1, rfl, hk1⟩ : ∃ b1, H0.length ≤ b1 ∧ v1 = .sl b1 0 2 l.length l.length false ∧ K[b1]? = some (.rw (flat l)) := by
    rcases gK with ⟨_, rfl⟩ | ⟨rfl, _⟩ | ⟨_, b1, q1, q2, q3⟩
    ·simp at il
    ·simp at il
    ·exact ⟨b1, q1, q2, q3⟩
   have ix := idx_nat b1 2 l.length l.length i false .i64 (by omega) il
   have hs : splice (flat l) (i * 2) [.int .i64 b, .int .i64 a] = flat (l.set i (b, a)) := by
    rw [splice_long _ _ _ (by simp)]
    have e : l = l.take i ++ l[i] :: l.drop (i + 1) := by rw [← List.drop_eq_getElem_cons il, List.take_append_drop]
    have e2 : l.set i (b, a) = l.take i ++ (b, a) :: l.drop (i + 1) := List.set_eq_take_append_cons_drop.trans (if_pos il)
    have lt : (flat (l.take i)).length = i * 2 := by rw [flat_len, List.length_take]; congr 1; omega
    have t1 : (flat l).take (i * 2) = flat (l.take i) := by
     conv => lhs; rw [e]
     rw [flat_app, ← lt, List.take_left]
    have t2 : (flat l).drop (i * 2 + 2) = flat (l.drop (i + 1)) := by
     conv => lhs; rw [e]
     rw [flat_app, ← lt, ← List.drop_drop, List.drop_left]; rfl
    rw [t1, show ([AV.int .i64 b, AV.int .i64 a] : List AV).length = 2 from rfl, t2, e2, flat_app]
    simp [flat, prC]
   have wr : writeN K b1 (i * 2) [.int .i64 b, .int .i64 a] = some (K.set b1 (.rw (flat (l.set i (b, a))))) := by
    rw [write_of hk1, if_pos ⟨by rw [flat_len]; simp; omega, rfl⟩, hs]
   have a1 : Adds H0 (K.set b1 (.rw (flat (l.set i (b, a))))) := (Fr.set (F := (· = b1)) K _ rfl).old aK fun x hx e => by omega
   have g1 : Gp (K.set b1 (.rw (flat (l.set i (b, a))))) H.length (.sl b1 0 2 l.length l.length false) (l.set i (b, a)) := .inr (.inr ⟨by
    intro q
    have := congrArg List.length q
    rw [List.length_set, List.length_nil] at this; omega, b1, by omega, by rw [List.length_set], at_set _ _ _ (lt_of_at hk1)⟩)
   have u1 : (AV.sl b1 0 2 l.length l.length false).under H.length = false := by simp [AV.under]; omega
   simp -implicitDefEqProofs (maxSteps := 5000000) only [go_sem, Nat.reduceShiftRight, Nat.reduceAnd, Nat.reduceBNe, Int.reduceEq, Nat.reduceAdd, Nat.reduceSub, Nat.reduceMul, Nat.reduceLeDiff, reduceIte, reduceCtorEq, Nat.reduceBEq, Nat.reduceEqDiff, wrap64, runC_loop, runC_range, callF_fn, callV_fn, callV_yld, yield_eq, yieldBody, yieldRaw, roundMid, roundEnd, rangeEnd, Bool.not_not, put_cons, put_nil, trim_same, at_zero, at_add, set_zero, set_add, store_one, write_zero, write_add, write_head, write_succ, splice_one, splice_more, List.drop_nil, List.take_nil, cell_int, cell_bool, fillS, splice_one, idxA, Ex.isNormal, List.set_nil, List.length_set, List.all_cons, List.all_nil, Bool.and_self, and_self, true_and, and_true, List.getElem?_nil, Int.reduceLT, Int.reduceLE, Int.reduceToNat, Int.toNat_zero, Int.toNat_one, Int.reduceAdd, Int.reduceSub, Int.reduceMul, Int.reduceNeg, Int.reduceBEq, Int.reduceBNe, Int.reduceGE, Int.reduceGT, Nat.reduceLT, trim_keep, under_fn, under_ptr, under_sl, Nat.lt_irrefl, not_lt_add, trim_tail, keepOk, ABlk.vals, Int.cast_ofNat_Int, decide_true, decide_false, List.all_cons, List.all_nil, Nat.zero_mul, Nat.mul_one, Nat.one_mul, runC_loop, x_loop, x1_call, hH0, ec, ei, hi, d, cK, ix, wr, outs_normal]
   subst hQ
   rw [et]
   refine ⟨_, a0.trans a1, g1, u1, ?_⟩
   simp -implicitDefEqProofs (maxSteps := 5000000) only [go_sem, Nat.reduceShiftRight, Nat.reduceAnd, Nat.reduceBNe, Int.reduceEq, Nat.reduceAdd, Nat.reduceSub, Nat.reduceMul, Nat.reduceLeDiff, reduceIte, reduceCtorEq, Nat.reduceBEq, Nat.reduceEqDiff]
 obtain ⟨e', t, K, hr, v', aK, gK, u, hf⟩ := key
 exact ⟨v', K, by rw [d37, hr, hf]; exact trim_keep u, aK, gK⟩
end Go.Proofs.Ytfioahnogphnfaa.G12
end
section
namespace Go.Proofs.Ytfioahnogphnfaa.G12
open Go Go.Proofs.Ytfioahnogphnfaa.Eng
noncomputable def X2 : Over := X1.up prog 37
theorem x2_ok : X2.Ok prog := up_ok goodP x1_ok _
theorem x2_call (f : Nat) (args : List AV) (h : AHeap) (e0 : (f == 37) = false) (e1 : (f == 52) = false) (e2 : (f == 61) = false) : (envX prog X2).call f args h = (envL prog).call f args h := by
 unfold X2 Over.up; rw [x_miss _ _ e0, x1_call _ _ _ e1 e2]
theorem x2_put {args : List AV} {h : AHeap} {r : AV × AHeap} (e : callBody prog (envX prog X1) 37 args h = some r) : (envX prog X2).call 37 args h = some r := x_hit e
theorem tins_len (b a : Int) : ∀ l : List PrS, (tins b a l).length = l.length + 1
 | [] => rfl
 | q :: l => by unfold tins; split <;> simp [tins_len b a l]
theorem tput_len (l : List PrS) (b a : Int) : (tput l b a).length ≤ l.length + 1 := by
 unfold tput; split
 ·rw [List.length_set]; omega
 ·rw [tins_len]; exact Nat.le_refl _
def FS (H : AHeap) (B : Nat) (v : AV) (zs : List Int) : Prop := GR 1 H B v (zs.map fun z => [AV.int .i64 z])
theorem FS.push {K : AHeap} {B s : Nat} {v : AV} {zs : List Int} {z : Int} (g : FS K B v zs) (hs : cellsOf K s = some [.int .i64 z]) (hn : zs.length ≤ 1000000) (hB : B ≤ K.length) : ∃ v' K', app (ty 1 false 8 [.int .i64 0]) v (.sl s 0 1 1 1 true) K = some (v', K') ∧ FS K' B v' (zs ++ [z]) ∧ Fr K K' (fun b => slb v = some b) ∧ slb v' = some K.length ∧ K'.length = K.length + 1 := by
 have hr : (roomy : Nat) = 140737488355328 := rfl
 obtain ⟨v', K', ea, g', fr, sv, kl, _⟩ := gr_push (k := 1) (by omega) (d := ty 1 false 8 [.int .i64 0]) rfl (by decide) g (fun x hx => by obtain ⟨y, _, rfl⟩ := List.mem_map.1 hx; rfl) hs rfl rfl (by rw [List.length_map]; show (zs.length + 1) * 8 ≤ _; omega) hB
 refine ⟨v', K', ea, ?_, fr, sv, kl⟩
 unfold FS; rw [List.map_append]; exact g'
noncomputable abbrev LY (l : Env → CT) := (envL prog).loop (runC (envX prog X2) (l (envX prog X2)))
section
variable {H : AHeap} {va : AV} {la : List PrS} (ga : IsP H va la) (hla : la.length ≤ 1000)
include ga hla
set_option maxHeartbeats 8000000 in
theorem mergeL0 {pb : Nat} {p : PrS} (x0 x1 x2 x3 x4 x6 x8 x10 x11 x12 x13 x14 x15 x16 x17 x35 x36 x37 x38 x39 x40 x41 x42 x43 : AV) : ∀ (k i : Nat) (K : AHeap) (v4 v5 : AV) (kept : List PrS) (fr : List Int) (j9 j21 j22 j23 j24 j25 j26 j27 j28 j29 j30 j31 j32 j33 j34 : AV), Adds H K → cellsOf K pb = some (prC p) → Gp K H.length v4 kept → FS K H.length v5 fr → (∀ x, slb v5 = some x → slb v4 ≠ some x ∧ x ≠ pb) → fr.length ≤ 1000 → i + k = la.length →
  Outs (LY l25x0 [x0, x1, x2, x3, x4, v5, x6, .ptr pb 0, x8, j9, x10, x11, x12, x13, x14, x15, x16, x17, va, .int .i64 (la.length : Int), .int .i64 (i : Int), j21, j22, j23, j24, j25, j26, j27, j28, j29, j30, j31, j32, j33, j34, x35, x36, x37, x38, x39, x40, x41, x42, x43] K) fun e t K' => Adds H K' ∧ ∃ fv : Nat → AV, t = [x0, x1, x2, x3, x4, (fv 5), x6, .ptr pb 0, x8, (fv 9), x10, x11, x12, x13, x14, x15, x16, x17, va, .int .i64 (la.length : Int), (fv 20), (fv 21), (fv 22), (fv 23), (fv 24), (fv 25), (fv 26), (fv 27), (fv 28), (fv 29), (fv 30), (fv 31), (fv 32), (fv 33), (fv 34), x35, x36, x37, x38, x39, x40, x41, x42, x43] ∧ Gp K' H.length v4 kept ∧ cellsOf K' pb = some (prC p) ∧ (∀ x, slb (fv 5) = some x → slb v4 ≠ some x ∧ x ≠ pb) ∧ ((e = .exit 2 ∧ fv 5 = v5 ∧ FS K' H.length v5 fr ∧ idxF p.1 i (la.drop i) = -1) ∨ (e = .exit 1 ∧ FS K' H.length (fv 5) (fr ++ [p.2]) ∧ 0 ≤ idxF p.1 i (la.drop i))) := by
 intro k
 obtain ⟨L0, hL0⟩ : ∃ L, L = LY l25x0 := ⟨_, rfl⟩
 have lo := loop_open hL0
 rw [← hL0]
 induction k with
 | zero =>
  intro i K v4 v5 kept fr j9 j21 j22 j23 j24 j25 j26 j27 j28 j29 j30 j31 j32 j33 j34 aK cp g4 g5 ap hfr hi
  obtain rfl : i = la.length := by omega
  have hd : decide ((la.length : Int) < (la.length : Int)) = false := by simp
  rw [List.drop_length, lo]
  unfold l25x0
  simp -implicitDefEqProofs (maxSteps := 5000000) only [go_sem, Nat.reduceShiftRight, Nat.reduceAnd, Nat.reduceBNe, Int.reduceEq, Nat.reduceAdd, Nat.reduceSub, Nat.reduceMul, Nat.reduceLeDiff, reduceIte, reduceCtorEq, Nat.reduceBEq, Nat.reduceEqDiff, hd, seqR_exit', outs_normal]
  exact ⟨aK, exF2 rfl ⟨g4, cp, ap, .inl ⟨rfl, g5, rfl⟩⟩⟩
 | succ k ih =>
  intro i K v4 v5 kept fr j9 j21 j22 j23 j24 j25 j26 j27 j28 j29 j30 j31 j32 j33 j34 aK cp g4 g5 ap hfr hi
  have hlt : i < la.length := by omega
  have hd : decide ((i : Int) < (la.length : Int)) = true := decide_eq_true (by omega)
  have e2 : IntKind.i64.wrap ((i : Int) + 1) = ((i + 1 : Nat) : Int) := by rw [wrap64 (by omega) (by omega)]; omega
  have hx := List.getElem?_eq_getElem hlt
  rw [List.drop_eq_getElem_cons hlt]
  generalize la[i] = q at *
  obtain ⟨bb, cs, sb, ix, hc0, h1, h2, ht, hle⟩ := ga.idx hx
  have hc := aK.cells hc0
  have cp1 := fun X : AHeap => cells_old (x := X) cp
  have aKl := aK.len
  unfold prC at cp1 ht
  by_cases h : q.1 = p.1
  ·have hb : (q.1 == p.1) = true := by simp [h]
   obtain ⟨K2, hK2⟩ : ∃ K2, K2 = K ++ [ABlk.rw [.int .i64 q.1, .int .i64 q.2], .rw [.int .i64 p.2]] := ⟨_, rfl⟩
   have A2 : Adds K K2 := ⟨_, hK2⟩
   have l2 : K2.length = K.length + 2 := by rw [hK2]; simp
   have ltp := lt_of_cells cp
   have f5 : FS K2 H.length v5 fr := GR.frS g5 (Fr.adds A2 (fun _ => False)) fun _ _ h => h
   have o5 := GR.out g5
   obtain ⟨v', K3, ea, g3, f3, s3, l3⟩ := f5.push (s := K.length + 1) (z := p.2) (by rw [hK2]; unfold cellsOf; rw [List.getElem?_append_right (by omega)]; simp) (by omega) (by omega)
   have g4' : Gp K3 H.length v4 kept := (g4.fr (Fr.adds A2 (fun _ => False)) fun _ _ h => h).fr f3 fun x hx hy => (ap x hy).1 hx
   have cp3 : cellsOf K3 pb = some (prC p) := f3.cells (A2.cells cp) fun hy => (ap pb hy).2 rfl
   have aK3 : Adds H K3 := f3.old (aK.trans A2) fun x hx hy => by have := (o5 x hy).1; omega
   have ap3 : ∀ x, slb v' = some x → slb v4 ≠ some x ∧ x ≠ pb := fun x hx => by
    rw [s3] at hx; injection hx with hx
    exact ⟨fun hy => by have := (g4.out x hy).2; omega, by omega⟩
   have hK2 := hK2.symm
   rw [idxF, if_pos h]
   rw [lo]
   unfold l25x0
   simp -implicitDefEqProofs (maxSteps := 5000000) only [go_sem, Nat.reduceShiftRight, Nat.reduceAnd, Nat.reduceBNe, Int.reduceEq, Nat.reduceAdd, Nat.reduceSub, Nat.reduceMul, Nat.reduceLeDiff, reduceIte, reduceCtorEq, Nat.reduceBEq, Nat.reduceEqDiff, wrap64, runC_loop, runC_range, callF_fn, callV_fn, callV_yld, yield_eq, yieldBody, yieldRaw, roundMid, roundEnd, rangeEnd, Bool.not_not, put_cons, put_nil, trim_same, at_zero, at_add, set_zero, set_add, store_one, write_zero, write_add, write_head, write_succ, splice_one, splice_more, List.drop_nil, List.take_nil, cell_int, cell_bool, fillS, splice_one, idxA, Ex.isNormal, List.set_nil, List.length_set, List.all_cons, List.all_nil, Bool.and_self, and_self, true_and, and_true, List.getElem?_nil, Int.reduceLT, Int.reduceLE, Int.reduceToNat, Int.toNat_zero, Int.toNat_one, Int.reduceAdd, Int.reduceSub, Int.reduceMul, Int.reduceNeg, Int.reduceBEq, Int.reduceBNe, Int.reduceGE, Int.reduceGT, Nat.reduceLT, trim_keep, under_fn, under_ptr, under_sl, Nat.lt_irrefl, not_lt_add, trim_tail, keepOk, ABlk.vals, Int.cast_ofNat_Int, decide_true, decide_false, List.all_cons, List.all_nil, Nat.zero_mul, Nat.mul_one, Nat.one_mul, hd, ix, hc, h1, h2, ht, hle, hb, cp1, hK2, ea, seqR_exit', outs_normal]
   exact ⟨aK3, exF2 rfl ⟨g4', cp3, ap3, .inr ⟨g3, by omega⟩⟩⟩
  ·have hb : (q.1 == p.1) = false := by simp [h]
   rw [idxF, if_neg h]
   have key := ih (i + 1) (K ++ [.rw [.int .i64 q.1, .int .i64 q.2]]) v4 v5 kept fr
   rw [lo]
   unfold l25x0
   simp -implicitDefEqProofs (maxSteps := 5000000) only [go_sem, Nat.reduceShiftRight, Nat.reduceAnd, Nat.reduceBNe, Int.reduceEq, Nat.reduceAdd, Nat.reduceSub, Nat.reduceMul, Nat.reduceLeDiff, reduceIte, reduceCtorEq, Nat.reduceBEq, Nat.reduceEqDiff, wrap64, runC_loop, runC_range, callF_fn, callV_fn, callV_yld, yield_eq, yieldBody, yieldRaw, roundMid, roundEnd, rangeEnd, Bool.not_not, put_cons, put_nil, trim_same, at_zero, at_add, set_zero, set_add, store_one, write_zero, write_add, write_head, write_succ, splice_one, splice_more, List.drop_nil, List.take_nil, cell_int, cell_bool, fillS, splice_one, idxA, Ex.isNormal, List.set_nil, List.length_set, List.all_cons, List.all_nil, Bool.and_self, and_self, true_and, and_true, List.getElem?_nil, Int.reduceLT, Int.reduceLE, Int.reduceToNat, Int.toNat_zero, Int.toNat_one, Int.reduceAdd, Int.reduceSub, Int.reduceMul, Int.reduceNeg, Int.reduceBEq, Int.reduceBNe, Int.reduceGE, Int.reduceGT, Nat.reduceLT, trim_keep, under_fn, under_ptr, under_sl, Nat.lt_irrefl, not_lt_add, trim_tail, keepOk, ABlk.vals, Int.cast_ofNat_Int, decide_true, decide_false, List.all_cons, List.all_nil, Nat.zero_mul, Nat.mul_one, Nat.one_mul, hd, ix, hc, h1, h2, ht, hle, hb, cp1, e2]
   exact key _ _ _ _ _ _ _ _ _ _ _ _ _ _ _ (aK.trans ⟨_, rfl⟩) (cells_old cp) (g4.adds _) (GR.frS g5 (Fr.adds ⟨_, rfl⟩ (fun _ => False)) fun _ _ h => h) ap hfr (by omega)
set_option maxHeartbeats 8000000 in
theorem mergeL1 {vb : AV} {lb : List PrS} (gb : IsP H vb lb) (hlb : lb.length ≤ 1000) (x1 x2 x3 x6 x8 x10 x11 x42 x43 : AV) : ∀ (k i : Nat) (K : AHeap) (v4 v5 : AV) (kept : List PrS) (fr : List Int) (j7 j9 j15 j16 j17 j18 j19 j20 j21 j22 j23 j24 j25 j26 j27 j28 j29 j30 j31 j32 j33 j34 j35 j36 j37 j38 j39 j40 j41 : AV), Adds H K → Gp K H.length v4 kept → FS K H.length v5 fr → (∀ x, slb v5 = some x → slb v4 ≠ some x) → kept.length ≤ 1000 + i → fr.length ≤ i → i + k = lb.length →
  Outs (LY l25x1 [va, x1, x2, x3, v4, v5, x6, j7, x8, j9, x10, x11, vb, .int .i64 (lb.length : Int), .int .i64 (i : Int), j15, j16, j17, j18, j19, j20, j21, j22, j23, j24, j25, j26, j27, j28, j29, j30, j31, j32, j33, j34, j35, j36, j37, j38, j39, j40, j41, x42, x43] K) fun e t K' => e = .exit 0 ∧ Adds H K' ∧ ∃ fv : Nat → AV, t = [va, x1, x2, x3, (fv 4), (fv 5), x6, (fv 7), x8, (fv 9), x10, x11, vb, .int .i64 (lb.length : Int), (fv 14), (fv 15), (fv 16), (fv 17), (fv 18), (fv 19), (fv 20), (fv 21), (fv 22), (fv 23), (fv 24), (fv 25), (fv 26), (fv 27), (fv 28), (fv 29), (fv 30), (fv 31), (fv 32), (fv 33), (fv 34), (fv 35), (fv 36), (fv 37), (fv 38), (fv 39), (fv 40), (fv 41), x42, x43] ∧ Gp K' H.length (fv 4) (tmerge la (lb.drop i) kept fr).1 ∧ FS K' H.length (fv 5) (tmerge la (lb.drop i) kept fr).2 := by
 intro k
 obtain ⟨L0, hL0⟩ : ∃ L, L = LY l25x1 := ⟨_, rfl⟩
 have lo := loop_open hL0
 rw [← hL0]
 induction k with
 | zero =>
  intro i K v4 v5 kept fr j7 j9 j15 j16 j17 j18 j19 j20 j21 j22 j23 j24 j25 j26 j27 j28 j29 j30 j31 j32 j33 j34 j35 j36 j37 j38 j39 j40 j41 aK g4 g5 ap hk hfr hi
  obtain rfl : i = lb.length := by omega
  have hd : decide ((lb.length : Int) < (lb.length : Int)) = false := by simp
  rw [List.drop_length, lo]
  unfold l25x1
  simp -implicitDefEqProofs (maxSteps := 5000000) only [go_sem, Nat.reduceShiftRight, Nat.reduceAnd, Nat.reduceBNe, Int.reduceEq, Nat.reduceAdd, Nat.reduceSub, Nat.reduceMul, Nat.reduceLeDiff, reduceIte, reduceCtorEq, Nat.reduceBEq, Nat.reduceEqDiff, hd, seqR_exit', outs_normal]
  exact ⟨aK, exF2 rfl ⟨g4, g5⟩⟩
 | succ k ih =>
  intro i K v4 v5 kept fr j7 j9 j15 j16 j17 j18 j19 j20 j21 j22 j23 j24 j25 j26 j27 j28 j29 j30 j31 j32 j33 j34 j35 j36 j37 j38 j39 j40 j41 aK g4 g5 ap hk hfr hi
  have hlt : i < lb.length := by omega
  have hd : decide ((i : Int) < (lb.length : Int)) = true := decide_eq_true (by omega)
  have e2 : IntKind.i64.wrap ((i : Int) + 1) = ((i + 1 : Nat) : Int) := by rw [wrap64 (by omega) (by omega)]; omega
  have hx := List.getElem?_eq_getElem hlt
  have dr := List.drop_eq_getElem_cons hlt
  generalize lb[i] = p at *
  obtain ⟨bb, cs, sb, ix, hc0, h1, h2, ht, hle⟩ := gb.idx hx
  have hc := aK.cells hc0
  have wa := ga.len
  obtain ⟨K1, hK1⟩ : ∃ K1, K1 = K ++ [ABlk.rw [.int .i64 p.1, .int .i64 p.2]] := ⟨_, rfl⟩
  have A1 : Adds K K1 := ⟨_, hK1⟩
  have cp : cellsOf K1 K.length = some (prC p) := by rw [hK1]; unfold cellsOf; simp; rfl
  have g4' := g4.fr (Fr.adds A1 (fun _ => False)) fun _ _ h => h
  have g5' : FS K1 H.length v5 fr := GR.frS g5 (Fr.adds A1 (fun _ => False)) fun _ _ h => h
  have o5 := GR.out g5
  have l0 := mergeL0 ga hla (pb := K.length) (p := p) (k := la.length) (i := 0) (K := K1) (v4 := v4) (v5 := v5) (kept := kept) (fr := fr)
  rw [show ((0 : Nat) : Int) = 0 from rfl, List.drop_zero] at l0
  have hK1 := hK1.symm
  unfold prC at ht
  rw [dr, tmerge]
  have key := fun K4 v4 v5 kept fr j7 j9 j15 j16 j17 j18 j19 j20 j21 j22 j23 j24 j25 j26 j27 j28 j29 j30 j31 j32 j33 j34 j35 j36 j37 j38 j39 j40 j41 => ih (i + 1) K4 v4 v5 kept fr j7 j9 j15 j16 j17 j18 j19 j20 j21 j22 j23 j24 j25 j26 j27 j28 j29 j30 j31 j32 j33 j34 j35 j36 j37 j38 j39 j40 j41
  rw [lo]
  unfold l25x1
  simp -implicitDefEqProofs (maxSteps := 5000000) only [go_sem, Nat.reduceShiftRight, Nat.reduceAnd, Nat.reduceBNe, Int.reduceEq, Nat.reduceAdd, Nat.reduceSub, Nat.reduceMul, Nat.reduceLeDiff, reduceIte, reduceCtorEq, Nat.reduceBEq, Nat.reduceEqDiff, wrap64, runC_loop, runC_range, callF_fn, callV_fn, callV_yld, yield_eq, yieldBody, yieldRaw, roundMid, roundEnd, rangeEnd, Bool.not_not, put_cons, put_nil, trim_same, at_zero, at_add, set_zero, set_add, store_one, write_zero, write_add, write_head, write_succ, splice_one, splice_more, List.drop_nil, List.take_nil, cell_int, cell_bool, fillS, splice_one, idxA, Ex.isNormal, List.set_nil, List.length_set, List.all_cons, List.all_nil, Bool.and_self, and_self, true_and, and_true, List.getElem?_nil, Int.reduceLT, Int.reduceLE, Int.reduceToNat, Int.toNat_zero, Int.toNat_one, Int.reduceAdd, Int.reduceSub, Int.reduceMul, Int.reduceNeg, Int.reduceBEq, Int.reduceBNe, Int.reduceGE, Int.reduceGT, Nat.reduceLT, trim_keep, under_fn, under_ptr, under_sl, Nat.lt_irrefl, not_lt_add, trim_tail, keepOk, ABlk.vals, Int.cast_ofNat_Int, decide_true, decide_false, List.all_cons, List.all_nil, Nat.zero_mul, Nat.mul_one, Nat.one_mul, runC_loop, x_loop, hd, ix, hc, ht, hle, wa, hK1]
  unfold LY at l0
  generalize (envL prog).loop (runC (envX prog X2) (l25x0 (envX prog X2))) = LL at l0 ⊢
  refine outs_ctx (fun x => seqR (seqR (blockR 1 (seqR (blockR 2 x) _)) _) _) (l0 _ _ _ _ _ _ _ _ _ _ _ _ _ _ _ _ _ _ _ _ _ _ _ _ _ _ _ _ _ _ _ _ _ _ _ _ _ _ _ (aK.trans A1) cp g4' g5' (fun x hx => ⟨ap x hx, by have := (o5 x hx).2; omega⟩) (by omega) (by omega)) ?_
  rintro e t K2 ⟨a2, fv, rfl, g42, cp2, ap2, ⟨rfl, f5, g52, ho⟩ | ⟨rfl, g52, ho⟩⟩
  ·have hid : ¬ 0 ≤ idxS la p.1 := by show ¬ 0 ≤ idxF p.1 0 la; omega
   simp only [if_neg hid] at key ⊢
   obtain ⟨v', K3, ec, a3, g3⟩ := putC g42.isP (by omega) p.1 p.2
   have ec := x2_put ec
   have tl := tput_len kept p.1 p.2
   unfold prC at cp2
   rw [f5] at ap2
   simp -implicitDefEqProofs (maxSteps := 5000000) only [go_sem, Nat.reduceShiftRight, Nat.reduceAnd, Nat.reduceBNe, Int.reduceEq, Nat.reduceAdd, Nat.reduceSub, Nat.reduceMul, Nat.reduceLeDiff, reduceIte, reduceCtorEq, Nat.reduceBEq, Nat.reduceEqDiff, wrap64, runC_loop, runC_range, callF_fn, callV_fn, callV_yld, yield_eq, yieldBody, yieldRaw, roundMid, roundEnd, rangeEnd, Bool.not_not, put_cons, put_nil, trim_same, at_zero, at_add, set_zero, set_add, store_one, write_zero, write_add, write_head, write_succ, splice_one, splice_more, List.drop_nil, List.take_nil, cell_int, cell_bool, fillS, splice_one, idxA, Ex.isNormal, List.set_nil, List.length_set, List.all_cons, List.all_nil, Bool.and_self, and_self, true_and, and_true, List.getElem?_nil, Int.reduceLT, Int.reduceLE, Int.reduceToNat, Int.toNat_zero, Int.toNat_one, Int.reduceAdd, Int.reduceSub, Int.reduceMul, Int.reduceNeg, Int.reduceBEq, Int.reduceBNe, Int.reduceGE, Int.reduceGT, Nat.reduceLT, trim_keep, under_fn, under_ptr, under_sl, Nat.lt_irrefl, not_lt_add, trim_tail, keepOk, ABlk.vals, Int.cast_ofNat_Int, decide_true, decide_false, List.all_cons, List.all_nil, Nat.zero_mul, Nat.mul_one, Nat.one_mul, f5, cp2, ec, e2]
   exact key K3 v' v5 (tput kept p.1 p.2) fr _ _ _ _ _ _ _ _ _ _ _ _ _ _ _ _ _ _ _ _ _ _ _ _ _ _ _ _ _ (a2.trans a3) (g3.low a2.len) (GR.frS g52 (Fr.adds a3 (fun _ => False)) fun _ _ h => h) (fun x hx hy => by have q1 := (GR.out g52 x hx).2; have q2 := (g3.out x hy).1; omega) (by omega) (by omega) (by omega)
  ·have hid : 0 ≤ idxS la p.1 := ho
   simp only [if_pos hid] at key ⊢
   simp -implicitDefEqProofs (maxSteps := 5000000) only [go_sem, Nat.reduceShiftRight, Nat.reduceAnd, Nat.reduceBNe, Int.reduceEq, Nat.reduceAdd, Nat.reduceSub, Nat.reduceMul, Nat.reduceLeDiff, reduceIte, reduceCtorEq, Nat.reduceBEq, Nat.reduceEqDiff, wrap64, runC_loop, runC_range, callF_fn, callV_fn, callV_yld, yield_eq, yieldBody, yieldRaw, roundMid, roundEnd, rangeEnd, Bool.not_not, put_cons, put_nil, trim_same, at_zero, at_add, set_zero, set_add, store_one, write_zero, write_add, write_head, write_succ, splice_one, splice_more, List.drop_nil, List.take_nil, cell_int, cell_bool, fillS, splice_one, idxA, Ex.isNormal, List.set_nil, List.length_set, List.all_cons, List.all_nil, Bool.and_self, and_self, true_and, and_true, List.getElem?_nil, Int.reduceLT, Int.reduceLE, Int.reduceToNat, Int.toNat_zero, Int.toNat_one, Int.reduceAdd, Int.reduceSub, Int.reduceMul, Int.reduceNeg, Int.reduceBEq, Int.reduceBNe, Int.reduceGE, Int.reduceGT, Nat.reduceLT, trim_keep, under_fn, under_ptr, under_sl, Nat.lt_irrefl, not_lt_add, trim_tail, keepOk, ABlk.vals, Int.cast_ofNat_Int, decide_true, decide_false, List.all_cons, List.all_nil, Nat.zero_mul, Nat.mul_one, Nat.one_mul, e2, seqR_exit']
   exact key K2 v4 (fv 5) kept (fr ++ [p.2]) _ _ _ _ _ _ _ _ _ _ _ _ _ _ _ _ _ _ _ _ _ _ _ _ _ _ _ _ _ a2 g42 g52 (fun x hx => (ap2 x hx).1) (by omega) (by rw [List.length_append, List.length_singleton]; omega) (by omega)
theorem mergeC {vb : AV} {lb : List PrS} (gb : IsP H vb lb) (hlb : lb.length ≤ 1000) : ∃ v4 v5 K, callBody prog (envX prog X2) 25 [va, vb] H = some (.tup [v4, v5], K) ∧ Adds H K ∧ Gp K H.length v4 (tmerge la lb la []).1 ∧ FS K H.length v5 (tmerge la lb la []).2 := by
 obtain ⟨v1, K1, ec, a1, g1⟩ := cloneC ga (by omega)
 have gb1 := gb.adds a1
 have wb := gb1.len
 have l1 := mergeL1 (ga := ga) hla gb hlb (k := lb.length) (i := 0) (K := K1) (v4 := v1) (v5 := .nilSl) (kept := la) (fr := [])
 rw [show ((0 : Nat) : Int) = 0 from rfl, List.drop_zero] at l1
 have key : Outs (runC (envX prog X2) (b25 (envX prog X2)) ([va, vb] ++ List.replicate (44 - [va, vb].length) .undef) H) fun e' t K => ∃ v4 v5, Adds H K ∧ Gp K H.length v4 (tmerge la lb la []).1 ∧ FS K H.length v5 (tmerge la lb la []).2 ∧ fin [.tmp 4, .tmp 5] (some (e', t, K)) = some (.tup [v4, v5], K) := by
  unfold b25
  generalize hQ : (fun (e' : Ex) (t : T) (K : AHeap) => ∃ v4 v5, Adds H K ∧ Gp K H.length v4 (tmerge la lb la []).1 ∧ FS K H.length v5 (tmerge la lb la []).2 ∧ fin [.tmp 4, .tmp 5] (some (e', t, K)) = some (.tup [v4, v5], K)) = Q
  simp -implicitDefEqProofs (maxSteps := 5000000) only [go_sem, Nat.reduceShiftRight, Nat.reduceAnd, Nat.reduceBNe, Int.reduceEq, Nat.reduceAdd, Nat.reduceSub, Nat.reduceMul, Nat.reduceLeDiff, reduceIte, reduceCtorEq, Nat.reduceBEq, Nat.reduceEqDiff, wrap64, runC_loop, runC_range, callF_fn, callV_fn, callV_yld, yield_eq, yieldBody, yieldRaw, roundMid, roundEnd, rangeEnd, Bool.not_not, put_cons, put_nil, trim_same, at_zero, at_add, set_zero, set_add, store_one, write_zero, write_add, write_head, write_succ, splice_one, splice_more, List.drop_nil, List.take_nil, cell_int, cell_bool, fillS, splice_one, idxA, Ex.isNormal, List.set_nil, List.length_set, List.all_cons, List.all_nil, Bool.and_self, and_self, true_and, and_true, List.getElem?_nil, Int.reduceLT, Int.reduceLE, Int.reduceToNat, Int.toNat_zero, Int.toNat_one, Int.reduceAdd, Int.reduceSub, Int.reduceMul, Int.reduceNeg, Int.reduceBEq, Int.reduceBNe, Int.reduceGE, Int.reduceGT, Nat.reduceLT, trim_keep, under_fn, under_ptr, under_sl, Nat.lt_irrefl, not_lt_add, trim_tail, keepOk, ABlk.vals, Int.cast_ofNat_Int, decide_true, decide_false, List.all_cons, List.all_nil, Nat.zero_mul, Nat.mul_one, Nat.one_mul, runC_loop, x_loop, x2_call, ec, wb]
  unfold LY at l1
  generalize (envL prog).loop (runC (envX prog X2) (l25x1 (envX prog X2))) = LL at l1 ⊢
  refine outs_ctx (fun r => seqR (blockR 0 r) _) (l1 _ _ _ _ _ _ _ _ _ _ _ _ _ _ _ _ _ _ _ _ _ _ _ _ _ _ _ _ _ _ _ _ _ _ _ _ _ _ a1 g1 (.inl ⟨rfl, rfl⟩) (fun x hx => by cases hx) (by omega) (by simp) (by omega)) ?_
  rintro e t K ⟨rfl, aK, fv, rfl, g4, g5⟩
  simp -implicitDefEqProofs (maxSteps := 5000000) only [go_sem, Nat.reduceShiftRight, Nat.reduceAnd, Nat.reduceBNe, Int.reduceEq, Nat.reduceAdd, Nat.reduceSub, Nat.reduceMul, Nat.reduceLeDiff, reduceIte, reduceCtorEq, Nat.reduceBEq, Nat.reduceEqDiff, wrap64, runC_loop, runC_range, callF_fn, callV_fn, callV_yld, yield_eq, yieldBody, yieldRaw, roundMid, roundEnd, rangeEnd, Bool.not_not, put_cons, put_nil, trim_same, at_zero, at_add, set_zero, set_add, store_one, write_zero, write_add, write_head, write_succ, splice_one, splice_more, List.drop_nil, List.take_nil, cell_int, cell_bool, fillS, splice_one, idxA, Ex.isNormal, List.set_nil, List.length_set, List.all_cons, List.all_nil, Bool.and_self, and_self, true_and, and_true, List.getElem?_nil, Int.reduceLT, Int.reduceLE, Int.reduceToNat, Int.toNat_zero, Int.toNat_one, Int.reduceAdd, Int.reduceSub, Int.reduceMul, Int.reduceNeg, Int.reduceBEq, Int.reduceBNe, Int.reduceGE, Int.reduceGT, Nat.reduceLT, trim_keep, under_fn, under_ptr, under_sl, Nat.lt_irrefl, not_lt_add, trim_tail, keepOk, ABlk.vals, Int.cast_ofNat_Int, decide_true, decide_false, List.all_cons, List.all_nil, Nat.zero_mul, Nat.mul_one, Nat.one_mul, outs_normal]
  subst hQ
  refine ⟨fv 4, fv 5, aK, g4, g5, ?_⟩
  simp -implicitDefEqProofs (maxSteps := 5000000) only [go_sem, Nat.reduceShiftRight, Nat.reduceAnd, Nat.reduceBNe, Int.reduceEq, Nat.reduceAdd, Nat.reduceSub, Nat.reduceMul, Nat.reduceLeDiff, reduceIte, reduceCtorEq, Nat.reduceBEq, Nat.reduceEqDiff]
 obtain ⟨e', t, K, hr, v4, v5, aK, g4, g5, hf⟩ := key
 have e0 : callBody prog (envX prog X2) 25 [va, vb] H = trim H (some (.tup [v4, v5], K)) := by rw [d25, hr, hf]
 rw [e0]
 rcases trim_if H (.tup [v4, v5]) K with ⟨t, e⟩ | e
 ·obtain ⟨_, t2, _⟩ := t
  have ua : v4.under H.length = true ∧ v5.under H.length = true := by simpa [AV.under, underAll] using t2
  obtain ⟨X, rfl⟩ := id aK
  rw [List.take_left] at e
  have n4 : v4 = .nilSl ∧ (tmerge la lb la []).1 = [] := by
   rcases g4 with h | ⟨_, x, hx, rfl, _⟩ | ⟨_, x, hx, rfl, _⟩
   ·exact h
   ·have := ua.1; simp [AV.under] at this; omega
   ·have := ua.1; simp [AV.under] at this; omega
  have n5 : v5 = .nilSl ∧ ((tmerge la lb la []).2.map fun z => [AV.int .i64 z]) = [] := by
   rcases GR.under g5 with ⟨q1, q2⟩ | q
   ·exact ⟨q2, q1⟩
   ·rw [q] at ua; cases ua.2
  refine ⟨v4, v5, H, e, Adds.refl H, .inl n4, .inl ⟨n5.2, n5.1⟩⟩
 ·exact ⟨v4, v5, K, e, aK, g4, g5⟩
end
end Go.Proofs.Ytfioahnogphnfaa.G12
end
section
namespace Go.Proofs.Ytfioahnogphnfaa.G12
open Go Go.Proofs.Ytfioahnogphnfaa.Eng
section
variable {H : AHeap} {v : AV} {l : List PrS} (g : IsP H v l) (hl : l.length ≤ 1000000) (b : Int)
include g hl
end
end Go.Proofs.Ytfioahnogphnfaa.G12
end
section
namespace Go.Proofs.Ytfioahnogphnfaa.G12
open Go Go.Proofs.Ytfioahnogphnfaa.Eng
theorem FS.cell {K : AHeap} {B : Nat} {v : AV} {zs : List Int} (g : FS K B v zs) : cellsA v = some [v] ∧ v.isCell = true := GR.cells g
section
variable {H : AHeap} {va : AV} {la : List PrS} (ga : IsP H va la) (hla : la.length ≤ 1000)
include ga hla
end
end Go.Proofs.Ytfioahnogphnfaa.G12
end
section
namespace Go.Proofs.Ytfioahnogphnfaa.G12
open Go Go.Proofs.Ytfioahnogphnfaa.Eng
theorem FS.read {H : AHeap} {B : Nat} {v : AV} {zs : List Int} (g : FS H B v zs) {i : Nat} {z : Int} (hi : zs[i]? = some z) : ∃ b cs, slb v = some b ∧ idxAddrS 1 v (.int .i64 (i : Int)) = some (.ptr b i) ∧ cellsOf H b = some cs ∧ cs[i]? = some (.int .i64 z) ∧ i + 1 ≤ cs.length := by
 obtain ⟨b, cs, sb, ix, hc, hr, hle⟩ := GR.read (by omega) g (fun r hr => by obtain ⟨y, _, rfl⟩ := List.mem_map.1 hr; rfl) (get_map (fun z => [AV.int .i64 z]) hi)
 rw [Nat.mul_one] at ix hr hle
 refine ⟨b, cs, sb, ix, hc, ?_, hle⟩
 have := congrArg (fun q : List AV => q[0]?) hr
 rw [List.getElem?_take, if_pos (by omega), List.getElem?_drop, Nat.add_zero] at this
 exact this
theorem FS.len {H : AHeap} {B : Nat} {v : AV} {zs : List Int} (g : FS H B v zs) : lenSl v = some (.int .i64 zs.length) := by
 have := GR.len g
 rwa [List.length_map] at this
section
variable {H : AHeap} {B : Nat} {v : AV} {zs : List Int} (g : FS H B v zs) (hl : zs.length ≤ 1000000) (x : Int)
include g hl
end
theorem last_take {l : List PrS} {i : Nat} (hi : i < l.length) : (l.take (i + 1)).getLast? = l[i]? := by
 rw [List.take_add_one, List.getElem?_eq_getElem hi]; exact List.getLast?_concat
section
variable {H : AHeap} {v : AV} {l : List PrS} (g : IsP H v l) (hl : l.length ≤ 1000000) (bl ar : Int)
include g hl
end
end Go.Proofs.Ytfioahnogphnfaa.G12
end
section
namespace Go.Proofs.Ytfioahnogphnfaa.G12
open Go Go.Proofs.Ytfioahnogphnfaa.Eng
section
variable {H : AHeap} {v : AV} {l : List PrS} (g : IsP H v l) (hl : l.length ≤ 9223372036854775807) (bl ar : Int)
include g hl
set_option maxHeartbeats 8000000 in
theorem rgoodL0 {K : AHeap} (aK : Adds H K) {i : Nat} (hi0 : i ≤ l.length) {qb : Nat} {p : PrS} (cq : cellsOf K qb = some [.int .i64 p.1, .int .i64 p.2]) (x1 x2 x3 x4 x5 x10 x11 x12 x13 x14 x15 x16 x17 x18 x19 x20 x21 x22 x23 x24 x25 x26 x27 x28 x29 x30 x31 x32 x33 x34 x35 x36 x37 x38 x39 x40 x41 x42 x43 x44 x45 x46 x47 x48 x49 x50 x51 x52 x53 x54 : AV) : ∀ (k j : Nat) (j55 j56 j57 j58 j59 j60 j61 j62 j63 j64 j65 j66 j67 : AV), j + k = i →
  Outs (LP1 l19x0 [v, x1, x2, x3, x4, x5, .bool false, .int .i64 (i : Int), .ptr qb 0, .int .i64 (j : Int), x10, x11, x12, x13, x14, x15, x16, x17, x18, x19, x20, x21, x22, x23, x24, x25, x26, x27, x28, x29, x30, x31, x32, x33, x34, x35, x36, x37, x38, x39, x40, x41, x42, x43, x44, x45, x46, x47, x48, x49, x50, x51, x52, x53, x54, j55, j56, j57, j58, j59, j60, j61, j62, j63, j64, j65, j66, j67] K) fun e t K' => K' = K ∧ ∃ fv : Nat → AV, t = [v, x1, x2, x3, x4, x5, (fv 6), .int .i64 (i : Int), .ptr qb 0, (fv 9), x10, x11, x12, x13, x14, x15, x16, x17, x18, x19, x20, x21, x22, x23, x24, x25, x26, x27, x28, x29, x30, x31, x32, x33, x34, x35, x36, x37, x38, x39, x40, x41, x42, x43, x44, x45, x46, x47, x48, x49, x50, x51, x52, x53, x54, (fv 55), (fv 56), (fv 57), (fv 58), (fv 59), (fv 60), (fv 61), (fv 62), (fv 63), (fv 64), (fv 65), (fv 66), (fv 67)] ∧ ((e = .exit 2 ∧ fv 6 = .bool false ∧ (((l.take i).drop j).map (·.2)).contains p.2 = false) ∨ (e = .ret ∧ fv 6 = .bool false ∧ (((l.take i).drop j).map (·.2)).contains p.2 = true)) := by
 intro k
 obtain ⟨L0, hL0⟩ : ∃ L, L = LP1 l19x0 := ⟨_, rfl⟩
 have lo := loop_open hL0
 rw [← hL0]
 have tl : (l.take i).length = i := by rw [List.length_take]; omega
 induction k with
 | zero =>
  intro j j55 j56 j57 j58 j59 j60 j61 j62 j63 j64 j65 j66 j67 hj
  obtain rfl : j = i := by omega
  have hd : decide ((j : Int) < (j : Int)) = false := by simp
  rw [lo]
  unfold l19x0
  simp -implicitDefEqProofs (maxSteps := 5000000) only [go_sem, Nat.reduceShiftRight, Nat.reduceAnd, Nat.reduceBNe, Int.reduceEq, Nat.reduceAdd, Nat.reduceSub, Nat.reduceMul, Nat.reduceLeDiff, reduceIte, reduceCtorEq, Nat.reduceBEq, Nat.reduceEqDiff, hd, seqR_exit', outs_normal]
  exact exF2 rfl (.inl ⟨rfl, by rw [List.drop_of_length_le (by omega)]; rfl⟩)
 | succ k ih =>
  intro j j55 j56 j57 j58 j59 j60 j61 j62 j63 j64 j65 j66 j67 hj
  have hlt : j < l.length := by omega
  have hd : decide ((j : Int) < (i : Int)) = true := decide_eq_true (by omega)
  have e2 : IntKind.i64.wrap ((j : Int) + 1) = ((j + 1 : Nat) : Int) := by rw [wrap64 (by omega) (by omega)]; omega
  have hx := List.getElem?_eq_getElem hlt
  have hy : (l.take i)[j]? = l[j]? := by rw [List.getElem?_take, if_pos (by omega)]
  have hz : (l.take i)[j]'(by omega) = l[j] := by
   have := List.getElem?_eq_getElem (show j < (l.take i).length by omega)
   rw [hy, hx] at this; exact (Option.some.inj this).symm
  rw [List.drop_eq_getElem_cons (show j < (l.take i).length by omega), hz, List.map_cons, List.contains_cons]
  generalize l[j] = q at *
  obtain ⟨bb, cs, sb, ix, hc0, h1, h2, ht, hle⟩ := g.idx hx
  have hc := aK.cells hc0
  rw [lo]
  unfold l19x0
  by_cases h : q.2 = p.2
  ·have hb : (q.2 == p.2) = true := by simp [h]
   have hb2 : (p.2 == q.2) = true := by simp [h]
   rw [hb2, Bool.true_or]
   simp -implicitDefEqProofs (maxSteps := 5000000) only [go_sem, Nat.reduceShiftRight, Nat.reduceAnd, Nat.reduceBNe, Int.reduceEq, Nat.reduceAdd, Nat.reduceSub, Nat.reduceMul, Nat.reduceLeDiff, reduceIte, reduceCtorEq, Nat.reduceBEq, Nat.reduceEqDiff, wrap64, runC_loop, runC_range, callF_fn, callV_fn, callV_yld, yield_eq, yieldBody, yieldRaw, roundMid, roundEnd, rangeEnd, Bool.not_not, put_cons, put_nil, trim_same, at_zero, at_add, set_zero, set_add, store_one, write_zero, write_add, write_head, write_succ, splice_one, splice_more, List.drop_nil, List.take_nil, cell_int, cell_bool, fillS, splice_one, idxA, Ex.isNormal, List.set_nil, List.length_set, List.all_cons, List.all_nil, Bool.and_self, and_self, true_and, and_true, List.getElem?_nil, Int.reduceLT, Int.reduceLE, Int.reduceToNat, Int.toNat_zero, Int.toNat_one, Int.reduceAdd, Int.reduceSub, Int.reduceMul, Int.reduceNeg, Int.reduceBEq, Int.reduceBNe, Int.reduceGE, Int.reduceGT, Nat.reduceLT, trim_keep, under_fn, under_ptr, under_sl, Nat.lt_irrefl, not_lt_add, trim_tail, keepOk, ABlk.vals, Int.cast_ofNat_Int, decide_true, decide_false, List.all_cons, List.all_nil, Nat.zero_mul, Nat.mul_one, Nat.one_mul, hd, ix, hc, h2, cq, hb, seqR_ret, outs_normal]
   exact exF2 rfl (.inr rfl)
  ·have hb : (q.2 == p.2) = false := by simp [h]
   have hb2 : (p.2 == q.2) = false := by simp; exact fun e => h e.symm
   rw [hb2, Bool.false_or]
   simp -implicitDefEqProofs (maxSteps := 5000000) only [go_sem, Nat.reduceShiftRight, Nat.reduceAnd, Nat.reduceBNe, Int.reduceEq, Nat.reduceAdd, Nat.reduceSub, Nat.reduceMul, Nat.reduceLeDiff, reduceIte, reduceCtorEq, Nat.reduceBEq, Nat.reduceEqDiff, wrap64, runC_loop, runC_range, callF_fn, callV_fn, callV_yld, yield_eq, yieldBody, yieldRaw, roundMid, roundEnd, rangeEnd, Bool.not_not, put_cons, put_nil, trim_same, at_zero, at_add, set_zero, set_add, store_one, write_zero, write_add, write_head, write_succ, splice_one, splice_more, List.drop_nil, List.take_nil, cell_int, cell_bool, fillS, splice_one, idxA, Ex.isNormal, List.set_nil, List.length_set, List.all_cons, List.all_nil, Bool.and_self, and_self, true_and, and_true, List.getElem?_nil, Int.reduceLT, Int.reduceLE, Int.reduceToNat, Int.toNat_zero, Int.toNat_one, Int.reduceAdd, Int.reduceSub, Int.reduceMul, Int.reduceNeg, Int.reduceBEq, Int.reduceBNe, Int.reduceGE, Int.reduceGT, Nat.reduceLT, trim_keep, under_fn, under_ptr, under_sl, Nat.lt_irrefl, not_lt_add, trim_tail, keepOk, ABlk.vals, Int.cast_ofNat_Int, decide_true, decide_false, List.all_cons, List.all_nil, Nat.zero_mul, Nat.mul_one, Nat.one_mul, hd, ix, hc, h2, cq, hb, e2]
   exact ih (j + 1) _ _ _ _ _ _ _ _ _ _ _ _ _ (by omega)
set_option maxHeartbeats 16000000 in
theorem rgoodL (x3 x4 x5 : AV) : ∀ (k i : Nat) (K : AHeap) (j8 j9 j10 j11 j12 j13 j14 j15 j16 j17 j18 j19 j20 j21 j22 j23 j24 j25 j26 j27 j28 j29 j30 j31 j32 j33 j34 j35 j36 j37 j38 j39 j40 j41 j42 j43 j44 j45 j46 j47 j48 j49 j50 j51 j52 j53 j54 j55 j56 j57 j58 j59 j60 j61 j62 j63 j64 j65 j66 j67 : AV), Adds H K → i + k = l.length →
  Outs (LP1 l19x1 [v, .int .i64 bl, .int .i64 ar, x3, x4, x5, .bool false, .int .i64 (i : Int), j8, j9, j10, j11, j12, j13, j14, j15, j16, j17, j18, j19, j20, j21, j22, j23, j24, j25, j26, j27, j28, j29, j30, j31, j32, j33, j34, j35, j36, j37, j38, j39, j40, j41, j42, j43, j44, j45, j46, j47, j48, j49, j50, j51, j52, j53, j54, j55, j56, j57, j58, j59, j60, j61, j62, j63, j64, j65, j66, j67] K) fun e t K' => Adds H K' ∧ ∃ fv : Nat → AV, t = [v, .int .i64 bl, .int .i64 ar, x3, x4, x5, (fv 6), (fv 7), (fv 8), (fv 9), (fv 10), (fv 11), (fv 12), (fv 13), (fv 14), (fv 15), (fv 16), (fv 17), (fv 18), (fv 19), (fv 20), (fv 21), (fv 22), (fv 23), (fv 24), (fv 25), (fv 26), (fv 27), (fv 28), (fv 29), (fv 30), (fv 31), (fv 32), (fv 33), (fv 34), (fv 35), (fv 36), (fv 37), (fv 38), (fv 39), (fv 40), (fv 41), (fv 42), (fv 43), (fv 44), (fv 45), (fv 46), (fv 47), (fv 48), (fv 49), (fv 50), (fv 51), (fv 52), (fv 53), (fv 54), (fv 55), (fv 56), (fv 57), (fv 58), (fv 59), (fv 60), (fv 61), (fv 62), (fv 63), (fv 64), (fv 65), (fv 66), (fv 67)] ∧ ((e = .exit 0 ∧ tgoodF bl ar (l.take i) (l.drop i) = true) ∨ (e = .ret ∧ fv 6 = .bool false ∧ tgoodF bl ar (l.take i) (l.drop i) = false)) := by
 intro k
 obtain ⟨L0, hL0⟩ : ∃ L, L = LP1 l19x1 := ⟨_, rfl⟩
 have lo := loop_open hL0
 have wl := g.len
 rw [← hL0]
 induction k with
 | zero =>
  intro i K j8 j9 j10 j11 j12 j13 j14 j15 j16 j17 j18 j19 j20 j21 j22 j23 j24 j25 j26 j27 j28 j29 j30 j31 j32 j33 j34 j35 j36 j37 j38 j39 j40 j41 j42 j43 j44 j45 j46 j47 j48 j49 j50 j51 j52 j53 j54 j55 j56 j57 j58 j59 j60 j61 j62 j63 j64 j65 j66 j67 aK hi
  obtain rfl : i = l.length := by omega
  have hd : decide ((l.length : Int) < (l.length : Int)) = false := by simp
  rw [List.drop_length, lo]
  unfold l19x1
  simp -implicitDefEqProofs (maxSteps := 5000000) only [go_sem, Nat.reduceShiftRight, Nat.reduceAnd, Nat.reduceBNe, Int.reduceEq, Nat.reduceAdd, Nat.reduceSub, Nat.reduceMul, Nat.reduceLeDiff, reduceIte, reduceCtorEq, Nat.reduceBEq, Nat.reduceEqDiff, wl, hd, seqR_exit', outs_normal]
  exact ⟨aK, exF2 rfl (.inl rfl)⟩
 | succ k ih =>
  intro i K j8 j9 j10 j11 j12 j13 j14 j15 j16 j17 j18 j19 j20 j21 j22 j23 j24 j25 j26 j27 j28 j29 j30 j31 j32 j33 j34 j35 j36 j37 j38 j39 j40 j41 j42 j43 j44 j45 j46 j47 j48 j49 j50 j51 j52 j53 j54 j55 j56 j57 j58 j59 j60 j61 j62 j63 j64 j65 j66 j67 aK hi
  have hlt : i < l.length := by omega
  have hd : decide ((i : Int) < (l.length : Int)) = true := decide_eq_true (by omega)
  have e2 : IntKind.i64.wrap ((i : Int) + 1) = ((i + 1 : Nat) : Int) := by rw [wrap64 (by omega) (by omega)]; omega
  have hx := List.getElem?_eq_getElem hlt
  have tk0 : l.take (i + 1) = l.take i ++ [l[i]] := by rw [List.take_add_one, hx]; rfl
  rw [List.drop_eq_getElem_cons hlt, tgoodF]
  generalize l[i] = p at *
  obtain ⟨bb, cs, sb, ix, hc0, h1, h2, ht, hle⟩ := g.idx hx
  have hc := aK.cells hc0
  obtain ⟨K1, hK1⟩ : ∃ K1, K1 = K ++ [ABlk.rw [.int .i64 p.1, .int .i64 p.2]] := ⟨_, rfl⟩
  have A1 : Adds K K1 := ⟨_, hK1⟩
  have cq : cellsOf K1 K.length = some [.int .i64 p.1, .int .i64 p.2] := by rw [hK1]; unfold cellsOf; simp
  have aK1 := aK.trans A1
  have hK1s := hK1.symm
  unfold prC at ht
  have l0 := rgoodL0 g hl aK1 (i := i) (by omega) cq (k := i) (j := 0)
  rw [show ((0 : Nat) : Int) = 0 from rfl, List.drop_zero] at l0
  by_cases c1 : p.1 < 0
  ·have ok : okAt bl ar (l.take i) p = false := by unfold okAt; rw [decide_eq_false (show ¬ 0 ≤ p.1 by omega)]; rfl
   have d1 := decide_eq_true c1
   rw [ok, Bool.false_and, lo]
   unfold l19x1
   simp -implicitDefEqProofs (maxSteps := 5000000) only [go_sem, Nat.reduceShiftRight, Nat.reduceAnd, Nat.reduceBNe, Int.reduceEq, Nat.reduceAdd, Nat.reduceSub, Nat.reduceMul, Nat.reduceLeDiff, reduceIte, reduceCtorEq, Nat.reduceBEq, Nat.reduceEqDiff, wrap64, runC_loop, runC_range, callF_fn, callV_fn, callV_yld, yield_eq, yieldBody, yieldRaw, roundMid, roundEnd, rangeEnd, Bool.not_not, put_cons, put_nil, trim_same, at_zero, at_add, set_zero, set_add, store_one, write_zero, write_add, write_head, write_succ, splice_one, splice_more, List.drop_nil, List.take_nil, cell_int, cell_bool, fillS, splice_one, idxA, Ex.isNormal, List.set_nil, List.length_set, List.all_cons, List.all_nil, Bool.and_self, and_self, true_and, and_true, List.getElem?_nil, Int.reduceLT, Int.reduceLE, Int.reduceToNat, Int.toNat_zero, Int.toNat_one, Int.reduceAdd, Int.reduceSub, Int.reduceMul, Int.reduceNeg, Int.reduceBEq, Int.reduceBNe, Int.reduceGE, Int.reduceGT, Nat.reduceLT, trim_keep, under_fn, under_ptr, under_sl, Nat.lt_irrefl, not_lt_add, trim_tail, keepOk, ABlk.vals, Int.cast_ofNat_Int, decide_true, decide_false, List.all_cons, List.all_nil, Nat.zero_mul, Nat.mul_one, Nat.one_mul, wl, hd, ix, hc, ht, hle, hK1s, cq, d1, seqR_ret, outs_normal]
   exact ⟨aK1, exF2 rfl (.inr rfl)⟩
  have d1 := decide_eq_false c1
  by_cases c2 : p.1 ≥ bl
  ·have ok : okAt bl ar (l.take i) p = false := by unfold okAt; rw [decide_eq_false (show ¬ p.1 < bl by omega)]; simp
   have d2 := decide_eq_true c2
   rw [ok, Bool.false_and, lo]
   unfold l19x1
   simp -implicitDefEqProofs (maxSteps := 5000000) only [go_sem, Nat.reduceShiftRight, Nat.reduceAnd, Nat.reduceBNe, Int.reduceEq, Nat.reduceAdd, Nat.reduceSub, Nat.reduceMul, Nat.reduceLeDiff, reduceIte, reduceCtorEq, Nat.reduceBEq, Nat.reduceEqDiff, wrap64, runC_loop, runC_range, callF_fn, callV_fn, callV_yld, yield_eq, yieldBody, yieldRaw, roundMid, roundEnd, rangeEnd, Bool.not_not, put_cons, put_nil, trim_same, at_zero, at_add, set_zero, set_add, store_one, write_zero, write_add, write_head, write_succ, splice_one, splice_more, List.drop_nil, List.take_nil, cell_int, cell_bool, fillS, splice_one, idxA, Ex.isNormal, List.set_nil, List.length_set, List.all_cons, List.all_nil, Bool.and_self, and_self, true_and, and_true, List.getElem?_nil, Int.reduceLT, Int.reduceLE, Int.reduceToNat, Int.toNat_zero, Int.toNat_one, Int.reduceAdd, Int.reduceSub, Int.reduceMul, Int.reduceNeg, Int.reduceBEq, Int.reduceBNe, Int.reduceGE, Int.reduceGT, Nat.reduceLT, trim_keep, under_fn, under_ptr, under_sl, Nat.lt_irrefl, not_lt_add, trim_tail, keepOk, ABlk.vals, Int.cast_ofNat_Int, decide_true, decide_false, List.all_cons, List.all_nil, Nat.zero_mul, Nat.mul_one, Nat.one_mul, wl, hd, ix, hc, ht, hle, hK1s, cq, d1, d2, seqR_ret, outs_normal]
   exact ⟨aK1, exF2 rfl (.inr rfl)⟩
  have d2 := decide_eq_false c2
  by_cases c3 : p.2 < 0
  ·have ok : okAt bl ar (l.take i) p = false := by unfold okAt; rw [decide_eq_false (show ¬ 0 ≤ p.2 by omega)]; simp
   have d3 := decide_eq_true c3
   rw [ok, Bool.false_and, lo]
   unfold l19x1
   simp -implicitDefEqProofs (maxSteps := 5000000) only [go_sem, Nat.reduceShiftRight, Nat.reduceAnd, Nat.reduceBNe, Int.reduceEq, Nat.reduceAdd, Nat.reduceSub, Nat.reduceMul, Nat.reduceLeDiff, reduceIte, reduceCtorEq, Nat.reduceBEq, Nat.reduceEqDiff, wrap64, runC_loop, runC_range, callF_fn, callV_fn, callV_yld, yield_eq, yieldBody, yieldRaw, roundMid, roundEnd, rangeEnd, Bool.not_not, put_cons, put_nil, trim_same, at_zero, at_add, set_zero, set_add, store_one, write_zero, write_add, write_head, write_succ, splice_one, splice_more, List.drop_nil, List.take_nil, cell_int, cell_bool, fillS, splice_one, idxA, Ex.isNormal, List.set_nil, List.length_set, List.all_cons, List.all_nil, Bool.and_self, and_self, true_and, and_true, List.getElem?_nil, Int.reduceLT, Int.reduceLE, Int.reduceToNat, Int.toNat_zero, Int.toNat_one, Int.reduceAdd, Int.reduceSub, Int.reduceMul, Int.reduceNeg, Int.reduceBEq, Int.reduceBNe, Int.reduceGE, Int.reduceGT, Nat.reduceLT, trim_keep, under_fn, under_ptr, under_sl, Nat.lt_irrefl, not_lt_add, trim_tail, keepOk, ABlk.vals, Int.cast_ofNat_Int, decide_true, decide_false, List.all_cons, List.all_nil, Nat.zero_mul, Nat.mul_one, Nat.one_mul, wl, hd, ix, hc, ht, hle, hK1s, cq, d1, d2, d3, seqR_ret, outs_normal]
   exact ⟨aK1, exF2 rfl (.inr rfl)⟩
  have d3 := decide_eq_false c3
  by_cases c4 : p.2 ≥ ar
  ·have ok : okAt bl ar (l.take i) p = false := by unfold okAt; rw [decide_eq_false (show ¬ p.2 < ar by omega)]; simp
   have d4 := decide_eq_true c4
   rw [ok, Bool.false_and, lo]
   unfold l19x1
   simp -implicitDefEqProofs (maxSteps := 5000000) only [go_sem, Nat.reduceShiftRight, Nat.reduceAnd, Nat.reduceBNe, Int.reduceEq, Nat.reduceAdd, Nat.reduceSub, Nat.reduceMul, Nat.reduceLeDiff, reduceIte, reduceCtorEq, Nat.reduceBEq, Nat.reduceEqDiff, wrap64, runC_loop, runC_range, callF_fn, callV_fn, callV_yld, yield_eq, yieldBody, yieldRaw, roundMid, roundEnd, rangeEnd, Bool.not_not, put_cons, put_nil, trim_same, at_zero, at_add, set_zero, set_add, store_one, write_zero, write_add, write_head, write_succ, splice_one, splice_more, List.drop_nil, List.take_nil, cell_int, cell_bool, fillS, splice_one, idxA, Ex.isNormal, List.set_nil, List.length_set, List.all_cons, List.all_nil, Bool.and_self, and_self, true_and, and_true, List.getElem?_nil, Int.reduceLT, Int.reduceLE, Int.reduceToNat, Int.toNat_zero, Int.toNat_one, Int.reduceAdd, Int.reduceSub, Int.reduceMul, Int.reduceNeg, Int.reduceBEq, Int.reduceBNe, Int.reduceGE, Int.reduceGT, Nat.reduceLT, trim_keep, under_fn, under_ptr, under_sl, Nat.lt_irrefl, not_lt_add, trim_tail, keepOk, ABlk.vals, Int.cast_ofNat_Int, decide_true, decide_false, List.all_cons, List.all_nil, Nat.zero_mul, Nat.mul_one, Nat.one_mul, wl, hd, ix, hc, ht, hle, hK1s, cq, d1, d2, d3, d4, seqR_ret, outs_normal]
   exact ⟨aK1, exF2 rfl (.inr rfl)⟩
  have d4 := decide_eq_false c4
  have okv : okAt bl ar (l.take i) p = (!((l.take i).map (·.2)).contains p.2 && (match (l.take i).getLast? with | none => true | some q => decide (q.1 < p.1))) := by
   unfold okAt; rw [decide_eq_true (show 0 ≤ p.1 by omega), decide_eq_true (show p.1 < bl by omega), decide_eq_true (show 0 ≤ p.2 by omega), decide_eq_true (show p.2 < ar by omega)]; rfl
  have key := ih (i + 1) K1
  by_cases h0 : i = 0
  ·have ok : okAt bl ar (l.take i) p = true := by rw [okv, h0]; rfl
   have d6 : decide ((i : Int) > 0) = false := decide_eq_false (by omega)
   have cf : ((l.take i).map (·.2)).contains p.2 = false := by rw [h0]; rfl
   rw [ok, Bool.true_and, ← tk0, lo]
   unfold l19x1
   simp -implicitDefEqProofs (maxSteps := 5000000) only [go_sem, Nat.reduceShiftRight, Nat.reduceAnd, Nat.reduceBNe, Int.reduceEq, Nat.reduceAdd, Nat.reduceSub, Nat.reduceMul, Nat.reduceLeDiff, reduceIte, reduceCtorEq, Nat.reduceBEq, Nat.reduceEqDiff, wrap64, runC_loop, runC_range, callF_fn, callV_fn, callV_yld, yield_eq, yieldBody, yieldRaw, roundMid, roundEnd, rangeEnd, Bool.not_not, put_cons, put_nil, trim_same, at_zero, at_add, set_zero, set_add, store_one, write_zero, write_add, write_head, write_succ, splice_one, splice_more, List.drop_nil, List.take_nil, cell_int, cell_bool, fillS, splice_one, idxA, Ex.isNormal, List.set_nil, List.length_set, List.all_cons, List.all_nil, Bool.and_self, and_self, true_and, and_true, List.getElem?_nil, Int.reduceLT, Int.reduceLE, Int.reduceToNat, Int.toNat_zero, Int.toNat_one, Int.reduceAdd, Int.reduceSub, Int.reduceMul, Int.reduceNeg, Int.reduceBEq, Int.reduceBNe, Int.reduceGE, Int.reduceGT, Nat.reduceLT, trim_keep, under_fn, under_ptr, under_sl, Nat.lt_irrefl, not_lt_add, trim_tail, keepOk, ABlk.vals, Int.cast_ofNat_Int, decide_true, decide_false, List.all_cons, List.all_nil, Nat.zero_mul, Nat.mul_one, Nat.one_mul, runC_loop, wl, hd, ix, hc, ht, hle, hK1s, cq, d1, d2, d3, d4, d6]
   unfold LP1 at l0
   generalize (envL prog).loop (runC (envL prog) (l19x0 (envL prog))) = LL at l0 ⊢
   refine outs_ctx (fun x => seqR (seqR (blockR 1 (blockR 2 x)) _) _) (l0 _ _ _ _ _ _ _ _ _ _ _ _ _ _ _ _ _ _ _ _ _ _ _ _ _ _ _ _ _ _ _ _ _ _ _ _ _ _ _ _ _ _ _ _ _ _ _ _ _ _ _ _ _ _ _ _ _ _ _ _ _ _ _ (by omega)) ?_
   rintro e t K' ⟨rfl, fv, rfl, ⟨rfl, f6, ho⟩ | ⟨rfl, f6, ho⟩⟩
   ·simp -implicitDefEqProofs (maxSteps := 5000000) only [go_sem, Nat.reduceShiftRight, Nat.reduceAnd, Nat.reduceBNe, Int.reduceEq, Nat.reduceAdd, Nat.reduceSub, Nat.reduceMul, Nat.reduceLeDiff, reduceIte, reduceCtorEq, Nat.reduceBEq, Nat.reduceEqDiff, e2, f6]
    exact key _ _ _ _ _ _ _ _ _ _ _ _ _ _ _ _ _ _ _ _ _ _ _ _ _ _ _ _ _ _ _ _ _ _ _ _ _ _ _ _ _ _ _ _ _ _ _ _ _ _ _ _ _ _ _ _ _ _ _ _ aK1 (by omega)
   ·rw [cf] at ho; cases ho
  ·have d6 : decide ((i : Int) > 0) = true := decide_eq_true (by omega)
   have w1 : IntKind.i64.wrap ((i : Int) - 1) = ((i - 1 : Nat) : Int) := by rw [wrap64 (by omega) (by omega)]; omega
   have hy := List.getElem?_eq_getElem (show i - 1 < l.length by omega)
   have lt := last_take (l := l) (show i - 1 < l.length by omega)
   rw [show i - 1 + 1 = i by omega, hy] at lt
   generalize l[i - 1]'(by omega) = q at *
   obtain ⟨bb2, cs2, _, ix2, hc20, q1, _, _, _⟩ := g.idx hy
   have hc2 := aK1.cells hc20
   rw [lt] at okv
   simp only at okv
   by_cases c6 : p.1 ≤ q.1
   ·have ok : okAt bl ar (l.take i) p = false := by rw [okv, decide_eq_false (show ¬ q.1 < p.1 by omega)]; simp
    have d7 := decide_eq_true c6
    rw [ok, Bool.false_and, lo]
    unfold l19x1
    simp -implicitDefEqProofs (maxSteps := 5000000) only [go_sem, Nat.reduceShiftRight, Nat.reduceAnd, Nat.reduceBNe, Int.reduceEq, Nat.reduceAdd, Nat.reduceSub, Nat.reduceMul, Nat.reduceLeDiff, reduceIte, reduceCtorEq, Nat.reduceBEq, Nat.reduceEqDiff, wrap64, runC_loop, runC_range, callF_fn, callV_fn, callV_yld, yield_eq, yieldBody, yieldRaw, roundMid, roundEnd, rangeEnd, Bool.not_not, put_cons, put_nil, trim_same, at_zero, at_add, set_zero, set_add, store_one, write_zero, write_add, write_head, write_succ, splice_one, splice_more, List.drop_nil, List.take_nil, cell_int, cell_bool, fillS, splice_one, idxA, Ex.isNormal, List.set_nil, List.length_set, List.all_cons, List.all_nil, Bool.and_self, and_self, true_and, and_true, List.getElem?_nil, Int.reduceLT, Int.reduceLE, Int.reduceToNat, Int.toNat_zero, Int.toNat_one, Int.reduceAdd, Int.reduceSub, Int.reduceMul, Int.reduceNeg, Int.reduceBEq, Int.reduceBNe, Int.reduceGE, Int.reduceGT, Nat.reduceLT, trim_keep, under_fn, under_ptr, under_sl, Nat.lt_irrefl, not_lt_add, trim_tail, keepOk, ABlk.vals, Int.cast_ofNat_Int, decide_true, decide_false, List.all_cons, List.all_nil, Nat.zero_mul, Nat.mul_one, Nat.one_mul, wl, hd, ix, hc, ht, hle, hK1s, cq, d1, d2, d3, d4, d6, w1, ix2, hc2, q1, d7, seqR_ret, outs_normal]
    exact ⟨aK1, exF2 rfl (.inr rfl)⟩
   ·have okv2 : okAt bl ar (l.take i) p = (!((l.take i).map (·.2)).contains p.2) := by rw [okv]; simp; intro; omega
    have d7 := decide_eq_false c6
    rw [lo]
    unfold l19x1
    simp -implicitDefEqProofs (maxSteps := 5000000) only [go_sem, Nat.reduceShiftRight, Nat.reduceAnd, Nat.reduceBNe, Int.reduceEq, Nat.reduceAdd, Nat.reduceSub, Nat.reduceMul, Nat.reduceLeDiff, reduceIte, reduceCtorEq, Nat.reduceBEq, Nat.reduceEqDiff, wrap64, runC_loop, runC_range, callF_fn, callV_fn, callV_yld, yield_eq, yieldBody, yieldRaw, roundMid, roundEnd, rangeEnd, Bool.not_not, put_cons, put_nil, trim_same, at_zero, at_add, set_zero, set_add, store_one, write_zero, write_add, write_head, write_succ, splice_one, splice_more, List.drop_nil, List.take_nil, cell_int, cell_bool, fillS, splice_one, idxA, Ex.isNormal, List.set_nil, List.length_set, List.all_cons, List.all_nil, Bool.and_self, and_self, true_and, and_true, List.getElem?_nil, Int.reduceLT, Int.reduceLE, Int.reduceToNat, Int.toNat_zero, Int.toNat_one, Int.reduceAdd, Int.reduceSub, Int.reduceMul, Int.reduceNeg, Int.reduceBEq, Int.reduceBNe, Int.reduceGE, Int.reduceGT, Nat.reduceLT, trim_keep, under_fn, under_ptr, under_sl, Nat.lt_irrefl, not_lt_add, trim_tail, keepOk, ABlk.vals, Int.cast_ofNat_Int, decide_true, decide_false, List.all_cons, List.all_nil, Nat.zero_mul, Nat.mul_one, Nat.one_mul, runC_loop, wl, hd, ix, hc, ht, hle, hK1s, cq, d1, d2, d3, d4, d6, w1, ix2, hc2, q1, d7]
    unfold LP1 at l0
    generalize (envL prog).loop (runC (envL prog) (l19x0 (envL prog))) = LL at l0 ⊢
    refine outs_ctx (fun x => seqR (seqR (blockR 1 (blockR 2 x)) _) _) (l0 _ _ _ _ _ _ _ _ _ _ _ _ _ _ _ _ _ _ _ _ _ _ _ _ _ _ _ _ _ _ _ _ _ _ _ _ _ _ _ _ _ _ _ _ _ _ _ _ _ _ _ _ _ _ _ _ _ _ _ _ _ _ _ (by omega)) ?_
    rintro e t K' ⟨rfl, fv, rfl, ⟨rfl, f6, ho⟩ | ⟨rfl, f6, ho⟩⟩
    ·have ok : okAt bl ar (l.take i) p = true := by rw [okv2, ho]; rfl
     rw [ok, ← tk0]
     simp only [Bool.true_and]
     simp -implicitDefEqProofs (maxSteps := 5000000) only [go_sem, Nat.reduceShiftRight, Nat.reduceAnd, Nat.reduceBNe, Int.reduceEq, Nat.reduceAdd, Nat.reduceSub, Nat.reduceMul, Nat.reduceLeDiff, reduceIte, reduceCtorEq, Nat.reduceBEq, Nat.reduceEqDiff, e2, f6]
     exact key _ _ _ _ _ _ _ _ _ _ _ _ _ _ _ _ _ _ _ _ _ _ _ _ _ _ _ _ _ _ _ _ _ _ _ _ _ _ _ _ _ _ _ _ _ _ _ _ _ _ _ _ _ _ _ _ _ _ _ _ aK1 (by omega)
    ·have ok : okAt bl ar (l.take i) p = false := by rw [okv2, ho]; rfl
     rw [ok]
     simp only [Bool.false_and]
     simp -implicitDefEqProofs (maxSteps := 5000000) only [go_sem, Nat.reduceShiftRight, Nat.reduceAnd, Nat.reduceBNe, Int.reduceEq, Nat.reduceAdd, Nat.reduceSub, Nat.reduceMul, Nat.reduceLeDiff, reduceIte, reduceCtorEq, Nat.reduceBEq, Nat.reduceEqDiff, seqR_ret, outs_normal]
     exact ⟨aK1, exF2 rfl (.inr ⟨f6, trivial⟩)⟩
theorem rgoodC : (envL prog).call 19 [v, .int .i64 bl, .int .i64 ar] H = some (.bool (tgood l bl ar), H) := by
 have l0 := rgoodL g hl bl ar (k := l.length) (i := 0) (K := H)
 rw [show ((0 : Nat) : Int) = 0 from rfl, List.drop_zero, List.take_zero] at l0
 have wl := g.len
 have key : Outs (runC (envL prog) (b19 (envL prog)) ([v, .int .i64 bl, .int .i64 ar] ++ List.replicate (68 - [v, AV.int .i64 bl, AV.int .i64 ar].length) .undef) H) fun e' t K => Adds H K ∧ fin [.tmp 6] (some (e', t, K)) = some (.bool (tgood l bl ar), K) := by
  unfold b19
  generalize hQ : (fun (e' : Ex) (t : T) (K : AHeap) => Adds H K ∧ fin [.tmp 6] (some (e', t, K)) = some (AV.bool (tgood l bl ar), K)) = Q
  simp -implicitDefEqProofs (maxSteps := 5000000) only [go_sem, Nat.reduceShiftRight, Nat.reduceAnd, Nat.reduceBNe, Int.reduceEq, Nat.reduceAdd, Nat.reduceSub, Nat.reduceMul, Nat.reduceLeDiff, reduceIte, reduceCtorEq, Nat.reduceBEq, Nat.reduceEqDiff, wrap64, runC_loop, runC_range, callF_fn, callV_fn, callV_yld, yield_eq, yieldBody, yieldRaw, roundMid, roundEnd, rangeEnd, Bool.not_not, put_cons, put_nil, trim_same, at_zero, at_add, set_zero, set_add, store_one, write_zero, write_add, write_head, write_succ, splice_one, splice_more, List.drop_nil, List.take_nil, cell_int, cell_bool, fillS, splice_one, idxA, Ex.isNormal, List.set_nil, List.length_set, List.all_cons, List.all_nil, Bool.and_self, and_self, true_and, and_true, List.getElem?_nil, Int.reduceLT, Int.reduceLE, Int.reduceToNat, Int.toNat_zero, Int.toNat_one, Int.reduceAdd, Int.reduceSub, Int.reduceMul, Int.reduceNeg, Int.reduceBEq, Int.reduceBNe, Int.reduceGE, Int.reduceGT, Nat.reduceLT, trim_keep, under_fn, under_ptr, under_sl, Nat.lt_irrefl, not_lt_add, trim_tail, keepOk, ABlk.vals, Int.cast_ofNat_Int, decide_true, decide_false, List.all_cons, List.all_nil, Nat.zero_mul, Nat.mul_one, Nat.one_mul, runC_loop, wl]
  unfold LP1 at l0
  generalize (envL prog).loop (runC (envL prog) (l19x1 (envL prog))) = L0 at l0 ⊢
  refine outs_ctx (fun r => seqR (blockR 0 r) _) (l0 _ _ _ _ _ _ _ _ _ _ _ _ _ _ _ _ _ _ _ _ _ _ _ _ _ _ _ _ _ _ _ _ _ _ _ _ _ _ _ _ _ _ _ _ _ _ _ _ _ _ _ _ _ _ _ _ _ _ _ _ _ _ _ (Adds.refl H) (by omega)) ?_
  rintro e t K ⟨aK, fv, rfl, ⟨rfl, ho⟩ | ⟨rfl, f6, ho⟩⟩
  ·have eg : tgood l bl ar = true := ho
   rw [eg] at hQ
   simp -implicitDefEqProofs (maxSteps := 5000000) only [go_sem, Nat.reduceShiftRight, Nat.reduceAnd, Nat.reduceBNe, Int.reduceEq, Nat.reduceAdd, Nat.reduceSub, Nat.reduceMul, Nat.reduceLeDiff, reduceIte, reduceCtorEq, Nat.reduceBEq, Nat.reduceEqDiff, outs_normal]
   subst hQ
   refine ⟨aK, ?_⟩
   simp -implicitDefEqProofs (maxSteps := 5000000) only [go_sem, Nat.reduceShiftRight, Nat.reduceAnd, Nat.reduceBNe, Int.reduceEq, Nat.reduceAdd, Nat.reduceSub, Nat.reduceMul, Nat.reduceLeDiff, reduceIte, reduceCtorEq, Nat.reduceBEq, Nat.reduceEqDiff]
  ·have eg : tgood l bl ar = false := ho
   rw [eg] at hQ
   simp -implicitDefEqProofs (maxSteps := 5000000) only [go_sem, Nat.reduceShiftRight, Nat.reduceAnd, Nat.reduceBNe, Int.reduceEq, Nat.reduceAdd, Nat.reduceSub, Nat.reduceMul, Nat.reduceLeDiff, reduceIte, reduceCtorEq, Nat.reduceBEq, Nat.reduceEqDiff, outs_normal]
   subst hQ
   refine ⟨aK, ?_⟩
   simp -implicitDefEqProofs (maxSteps := 5000000) only [go_sem, Nat.reduceShiftRight, Nat.reduceAnd, Nat.reduceBNe, Int.reduceEq, Nat.reduceAdd, Nat.reduceSub, Nat.reduceMul, Nat.reduceLeDiff, reduceIte, reduceCtorEq, Nat.reduceBEq, Nat.reduceEqDiff, f6]
 obtain ⟨e', t, K, hr, ⟨Y, rfl⟩, hf⟩ := key
 rw [c19, hr, hf]; exact trim_app rfl
end
end Go.Proofs.Ytfioahnogphnfaa.G12
end
section
namespace Go.Proofs.Ytfioahnogphnfaa.G12
open Go Go.Proofs.Ytfioahnogphnfaa.Eng
def IsI (H : AHeap) (v : AV) (zs : List Int) : Prop := (v = .nilSl ∧ zs = []) ∨ ∃ b c ex, v = .sl b 0 1 zs.length c ex ∧ cellsOf H b = some (zs.map fun z => AV.int .i64 z)
theorem IsI.adds {H H' : AHeap} {v : AV} {zs : List Int} (g : IsI H v zs) (a : Adds H H') : IsI H' v zs := by
 rcases g with h | ⟨b, c, ex, rfl, hc⟩
 ·exact .inl h
 ·exact .inr ⟨b, c, ex, rfl, a.cells hc⟩
section
variable {H : AHeap} {v w : AV} {l m : List Int} (g : IsI H v l) (f : IsI H w m) (hl : l.length ≤ 1000000)
include g f hl
end
noncomputable def X3 : Over := X2.up prog 25
theorem x3_ok : X3.Ok prog := up_ok goodP x2_ok _
theorem x3_call (f : Nat) (args : List AV) (h : AHeap) (em : (f == 25) = false) (e0 : (f == 37) = false) (e1 : (f == 52) = false) (e2 : (f == 61) = false) : (envX prog X3).call f args h = (envL prog).call f args h := by
 unfold X3 Over.up; rw [x_miss _ _ em, x2_call _ _ _ e0 e1 e2]
theorem x3_merge {args : List AV} {h : AHeap} {r : AV × AHeap} (e : callBody prog (envX prog X2) 25 args h = some r) : (envX prog X3).call 25 args h = some r := x_hit e
end Go.Proofs.Ytfioahnogphnfaa.G12
end
section
namespace Go.Proofs.Ytfioahnogphnfaa.G12.Bt
open Go Go.Proofs.Ytfioahnogphnfaa.Eng
def bitB (z : Int) (r : Int) : Bool := (IntKind.u8.wrap ((BitVec.ofInt 8 (z.fdiv (2 ^ min r.toNat 8)) &&& BitVec.ofInt 8 1).toNat : Int) == 1)
def hasS (zs : List Int) (i : Int) : Bool := decide (i ≥ 0) && decide (i.tdiv 8 < zs.length) && bitB ((zs[(i.tdiv 8).toNat]?).getD 0) (i.tmod 8)
theorem shr8 (z : Int) (k : IntKind) (r : Int) (hr : 0 ≤ r) : binV .shr .none (.int .u8 z) (.int k r) = some (.int .u8 (z.fdiv (2 ^ min r.toNat 8))) := by
 show (if r < 0 then none else some (AV.int .u8 (z.fdiv (2 ^ min r.toNat 8)))) = _
 rw [if_neg (by omega)]
theorem and8 (x y : Int) : binV .and .none (.int .u8 x) (.int .u8 y) = some (.int .u8 (IntKind.u8.wrap ((BitVec.ofInt 8 x &&& BitVec.ofInt 8 y).toNat : Int))) := rfl
def orI (x y : Int) : Int := IntKind.u8.wrap ((BitVec.ofInt 8 x ||| BitVec.ofInt 8 y).toNat : Int)
theorem or8 (x y : Int) : binV .or .none (.int .u8 x) (.int .u8 y) = some (.int .u8 (orI x y)) := rfl
theorem wrapU (r : Int) (h0 : 0 ≤ r) (h1 : r ≤ 1000) : IntKind.u64.wrap r = r := by
 unfold IntKind.wrap
 simp only [show IntKind.u64.signed = false from rfl, show IntKind.u64.bits = 64 from rfl, Bool.false_and, Bool.false_eq_true, if_false]
 omega
set_option maxHeartbeats 1000000 in
theorem hasR {H : AHeap} {v : AV} {zs : List Int} (b : BS H v zs) (i : Int) (hi : i ≤ 9223372036854775807) : (envL prog).call 20 [v, .int .i64 i] H = some (.bool (hasS zs i), H) := by
 rw [c20]
 unfold b20 hasS
 have hl := b.len
 by_cases h0 : i ≥ 0
 ·have d0 : decide (i ≥ 0) = true := by simp [h0]
  have e1 : i.tdiv 8 = i / 8 := Int.tdiv_eq_ediv_of_nonneg h0
  have e2 : i.tmod 8 = i % 8 := Int.tmod_eq_emod_of_nonneg h0
  have w : IntKind.i64.wrap (i / 8) = i / 8 := wrap64 (by omega) (by omega)
  have wu : IntKind.u64.wrap (i % 8) = i % 8 := wrapU _ (by omega) (by omega)
  rw [e1, e2]
  by_cases h1 : i / 8 < zs.length
  ·have d1 : decide (i / 8 < (zs.length : Int)) = true := by simp [h1]
   obtain ⟨n, hn⟩ : ∃ n : Nat, i / 8 = n := ⟨(i / 8).toNat, by omega⟩
   have hlt : n < zs.length := by omega
   obtain ⟨ad, ha, hld⟩ := b.idx (List.getElem?_eq_getElem hlt) .i64
   have hs := fun z => shr8 z .u64 (i % 8) (by omega)
   rw [hn] at w d1 ⊢
   rw [Int.toNat_natCast, List.getElem?_eq_getElem hlt, Option.getD_some]
   unfold bitB
   simp -implicitDefEqProofs (maxSteps := 5000000) only [go_sem, Nat.reduceShiftRight, Nat.reduceAnd, Nat.reduceBNe, Int.reduceEq, Nat.reduceAdd, Nat.reduceSub, Nat.reduceMul, Nat.reduceLeDiff, reduceIte, reduceCtorEq, Nat.reduceBEq, Nat.reduceEqDiff, go_sem, hl, d0, d1, e1, e2, hn, w, wu, ha, hld, hs, and8]
  ·have d1 : decide (i / 8 < (zs.length : Int)) = false := by simp [h1]
   simp -implicitDefEqProofs (maxSteps := 5000000) only [go_sem, Nat.reduceShiftRight, Nat.reduceAnd, Nat.reduceBNe, Int.reduceEq, Nat.reduceAdd, Nat.reduceSub, Nat.reduceMul, Nat.reduceLeDiff, reduceIte, reduceCtorEq, Nat.reduceBEq, Nat.reduceEqDiff, go_sem, hl, d0, d1, e1, w]
 ·have d0 : decide (i ≥ 0) = false := by simp [h0]
  simp -implicitDefEqProofs (maxSteps := 5000000) only [go_sem, Nat.reduceShiftRight, Nat.reduceAnd, Nat.reduceBNe, Int.reduceEq, Nat.reduceAdd, Nat.reduceSub, Nat.reduceMul, Nat.reduceLeDiff, reduceIte, reduceCtorEq, Nat.reduceBEq, Nat.reduceEqDiff, go_sem, hl, d0]
end Go.Proofs.Ytfioahnogphnfaa.G12.Bt
end
section
namespace Go.Proofs.Ytfioahnogphnfaa.G12.Bt
open Go Go.Proofs.Ytfioahnogphnfaa.Eng
def Own (H : AHeap) (v : AV) (G : AHeap) (zs : List Int) : Prop :=
 (zs = [] ∧ ((v = .nilSl ∧ G = []) ∨ (v = .sl H.length 0 1 0 0 true ∧ G = [.rw []]))) ∨ (zs ≠ [] ∧ v = .sl (H.length + 1) 0 1 zs.length zs.length false ∧ G = [.rw [], .rw (u8s zs)])
theorem Own.bs {H : AHeap} {v : AV} {G : AHeap} {zs : List Int} (h : Own H v G zs) : BS (H ++ G) v zs := by
 rcases h with ⟨rfl, ⟨rfl, rfl⟩ | ⟨rfl, rfl⟩⟩ | ⟨_, rfl, rfl⟩
 ·exact BS.nil _
 ·exact BS.block (zs := []) (b := H.length) (by simp [u8s])
 ·exact BS.block (by simp)
theorem app_copy {H : AHeap} {v : AV} {zs : List Int} (b : BS H v zs) (hn : zs.length ≤ 100000) : ∃ v' G, Own H v' G zs ∧ v' ≠ .nilSl ∧ app (ty 1 false 1 [.int .u8 0]) (.sl H.length 0 1 0 0 true) v (H ++ [.rw []]) = some (v', H ++ G) := by
 have hr := (b.mono [.rw []]).read
 by_cases h0 : zs = []
 ·subst h0
  refine ⟨.sl H.length 0 1 0 0 true, [.rw []], .inl ⟨rfl, .inr ⟨rfl, rfl⟩⟩, by simp, ?_⟩
  unfold app
  rw [hr.1]
  simp only [Option.bind_some, show (ty 1 false 1 [AV.int .u8 0]).size = 1 from rfl]
  have h2 := hr.2
  simp only [List.length_nil] at h2 ⊢
  rw [h2]
  rfl
 ·have hpos : 0 < zs.length := List.length_pos_iff.2 h0
  refine ⟨.sl (H.length + 1) 0 1 zs.length zs.length false, [.rw [], .rw (u8s zs)], .inr ⟨h0, rfl, rfl⟩, by simp, ?_⟩
  unfold app
  rw [hr.1]
  simp only [Option.bind_some, show (ty 1 false 1 [AV.int .u8 0]).size = 1 from rfl, hr.2]
  unfold appendV
  simp only [show (ty 1 false 1 [AV.int .u8 0]).size = 1 from rfl, show (ty 1 false 1 [AV.int .u8 0]).bytes = 1 from rfl]
  have h1 : ¬ ((1 : Nat) ≠ 1 ∨ (1 : Nat) = 0) := by simp
  have h3 : ¬ (0 + zs.length ≤ 0) := by omega
  have h4 : 1 ≤ 1 ∧ (0 + zs.length) * 1 ≤ roomy := ⟨by omega, by unfold roomy; omega⟩
  rw [if_neg h1, if_neg (by omega), if_neg h3, if_pos h4]
  have hz : readN (H ++ [.rw []]) H.length 0 (0 * 1) = some [] := by unfold readN cellsOf; simp
  rw [hz]
  simp
theorem cloneC {H : AHeap} {v : AV} {zs : List Int} (b : BS H v zs) (hn : zs.length ≤ 100000) : ∃ v' G, Own H v' G zs ∧ (envL prog).call 35 [v] H = some (v', H ++ G) := by
 by_cases hv : v = .nilSl
 ·subst hv
  have hz : zs = [] := by
   rcases b with ⟨_, h⟩ | ⟨_, _, _, _, _, h, _⟩
   ·exact h
   ·cases h
  subst hz
  refine ⟨.nilSl, [], .inl ⟨rfl, .inl ⟨rfl, rfl⟩⟩, ?_⟩
  rw [c35]
  unfold b35
  simp -implicitDefEqProofs (maxSteps := 5000000) only [go_sem, Nat.reduceShiftRight, Nat.reduceAnd, Nat.reduceBNe, Int.reduceEq, Nat.reduceAdd, Nat.reduceSub, Nat.reduceMul, Nat.reduceLeDiff, reduceIte, reduceCtorEq, Nat.reduceBEq, Nat.reduceEqDiff, go_sem]
 ·obtain ⟨v', G, o, hne, ha⟩ := app_copy b hn
  refine ⟨v', G, o, ?_⟩
  have e : binV .eql .slice v .nilSl = some (.bool false) := by
   rcases b.is with rfl | ⟨_, _, _, _, _, _, rfl⟩
   ·exact absurd rfl hv
   ·rfl
  have u : v'.under H.length = false := by
   rcases o with ⟨_, ⟨rfl, _⟩ | ⟨rfl, _⟩⟩ | ⟨_, rfl, _⟩
   ·exact absurd rfl hne
   ·simp [AV.under]
   ·simp [AV.under]
  rw [c35]
  unfold b35
  simp -implicitDefEqProofs (maxSteps := 5000000) only [go_sem, Nat.reduceShiftRight, Nat.reduceAnd, Nat.reduceBNe, Int.reduceEq, Nat.reduceAdd, Nat.reduceSub, Nat.reduceMul, Nat.reduceLeDiff, reduceIte, reduceCtorEq, Nat.reduceBEq, Nat.reduceEqDiff, go_sem, e, ha, trim_keep, u]
theorem orI_u8 (x y : Int) : 0 ≤ orI x y ∧ orI x y ≤ 255 := by
 unfold orI IntKind.wrap
 simp only [show IntKind.u8.signed = false from rfl, show IntKind.u8.bits = 8 from rfl, Bool.false_and, Bool.false_eq_true, if_false]
 omega
theorem own_at {H : AHeap} {zs : List Int} {n : Nat} (hn : n < zs.length) (x : Int) (k : IntKind) :
  idxAddrS 1 (.sl (H.length + 1) 0 1 zs.length zs.length false) (.int k (n : Int)) = some (.ptr (H.length + 1) n) ∧
  loadV 1 false (.ptr (H.length + 1) n) (H ++ [.rw [], .rw (u8s zs)]) = some (.int .u8 (zs[n]'hn)) ∧
  storeV 1 (.ptr (H.length + 1) n) (.int .u8 x) (H ++ [.rw [], .rw (u8s zs)]) = some (H ++ [.rw [], .rw (u8s (zs.set n x))]) := by
 refine ⟨?_, ?_, ?_⟩
 ·rw [idx_sl, if_pos ⟨Nat.le_refl _, by omega, by omega⟩]; simp
 ·show read1 _ _ _ = _
  unfold read1 cellsOf
  simp [u8s_get (List.getElem?_eq_getElem hn)]
 ·rw [store_one, cellsA_int]
  simp only [Option.bind_some, List.length_cons, List.length_nil]
  rw [if_pos trivial, write_add, write_succ, write_head]
  have hc : n + [AV.int .u8 x].length ≤ (u8s zs).length ∧ [AV.int .u8 x].all AV.isCell = true := ⟨by simp only [List.length_cons, List.length_nil, u8s_len]; omega, rfl⟩
  rw [if_pos hc, splice_one, u8s_set]
  rfl
end Go.Proofs.Ytfioahnogphnfaa.G12.Bt
end
section
namespace Go.Proofs.Ytfioahnogphnfaa.G12.Bt
open Go Go.Proofs.Ytfioahnogphnfaa.Eng
def orL : List Int → List Int → List Int
 | p, [] => p
 | [], _ => []
 | x :: p, y :: q => orI x y :: orL p q
theorem orL_len : ∀ (p q : List Int), (orL p q).length = p.length
 | p, [] => by cases p <;> rfl
 | [], _ :: _ => rfl
 | x :: p, y :: q => by simp [orL, orL_len p q]
theorem orL_nil (p : List Int) : orL p [] = p := by cases p <;> rfl
theorem orL_get : ∀ (p q : List Int) (i : Nat), q.length ≤ i → (orL p q)[i]? = p[i]?
 | p, [], i, _ => by rw [orL_nil]
 | [], _ :: _, i, _ => rfl
 | x :: p, y :: q, 0, h => by simp at h
 | x :: p, y :: q, i + 1, h => by simpa [orL] using orL_get p q i (by simpa using h)
theorem orL_step : ∀ (p q : List Int) (i : Nat) (x y : Int), p[i]? = some x → q[i]? = some y → orL p (q.take (i + 1)) = (orL p (q.take i)).set i (orI x y)
 | [], _, i, x, y, hp, _ => by simp at hp
 | _ :: _, [], i, x, y, _, hq => by simp at hq
 | a :: p, b :: q, 0, x, y, hp, hq => by
  simp at hp hq; subst hp; subst hq
  simp [orL, orL_nil]
 | a :: p, b :: q, i + 1, x, y, hp, hq => by
  have := orL_step p q i x y (by simpa using hp) (by simpa using hq)
  simp only [List.take_succ_cons, orL, List.set_cons_succ, this]
theorem orL_u8 : ∀ (p q : List Int), IsU8 p → IsU8 (orL p q)
 | p, [], h => by rw [orL_nil]; exact h
 | [], _ :: _, _ => fun z hz => by simp [orL] at hz
 | x :: p, y :: q, h => fun z hz => by
  rcases List.mem_cons.1 hz with rfl | hz
  ·exact orI_u8 _ _
  ·exact orL_u8 p q (fun z hz => h z (by simp [hz])) z hz
def orS (xs ys : List Int) : List Int := if xs.length < ys.length then orL ys xs else orL xs ys
theorem orS_u8 {xs ys : List Int} (hx : IsU8 xs) (hy : IsU8 ys) : IsU8 (orS xs ys) := by
 unfold orS; split
 ·exact orL_u8 _ _ hy
 ·exact orL_u8 _ _ hx
set_option maxHeartbeats 4000000 in
theorem orLoop {H : AHeap} {w : AV} {p q : List Int} (c : BS H w q) (hq : q.length ≤ p.length) (hn : q.length ≤ 100000) (x0 x1 x2 x3 x4 x8 x9 x10 x11 x12 x13 x14 x15 x16 x32 : AV) :
  ∀ (m i : Nat) (j6 j7 j20 j21 j22 j23 j24 j25 j26 j27 j28 j29 j30 j31 : AV), i + m = q.length →
  ∃ k6 k7 k20 k21 k22 k23 k24 k25 k26 k27 k28 k29 k30 k31 : AV, (envL prog).loop (runC (envL prog) (l24x0 (envL prog)))
   [x0, x1, x2, x3, x4, .sl (H.length + 1) 0 1 p.length p.length false, j6, j7, x8, x9, x10, x11, x12, x13, x14, x15, x16, w, .int .i64 q.length, .int .i64 (i : Int), j20, j21, j22, j23, j24, j25, j26, j27, j28, j29, j30, j31, x32] (H ++ [.rw [], .rw (u8s (orL p (q.take i)))]) =
   some (.exit 0, [x0, x1, x2, x3, x4, .sl (H.length + 1) 0 1 p.length p.length false, k6, k7, x8, x9, x10, x11, x12, x13, x14, x15, x16, w, .int .i64 q.length, .int .i64 (q.length : Int), k20, k21, k22, k23, k24, k25, k26, k27, k28, k29, k30, k31, x32], H ++ [.rw [], .rw (u8s (orL p q))]) := by
 intro m
 induction m with
 | zero =>
  intro i j6 j7 j20 j21 j22 j23 j24 j25 j26 j27 j28 j29 j30 j31 hi
  obtain rfl : i = q.length := by omega
  have hd : decide ((q.length : Int) < (q.length : Int)) = false := by simp
  rw [loop_run, List.take_length]
  unfold l24x0
  simp -implicitDefEqProofs (maxSteps := 5000000) only [go_sem, Nat.reduceShiftRight, Nat.reduceAnd, Nat.reduceBNe, Int.reduceEq, Nat.reduceAdd, Nat.reduceSub, Nat.reduceMul, Nat.reduceLeDiff, reduceIte, reduceCtorEq, Nat.reduceBEq, Nat.reduceEqDiff, go_sem, hd, seqR_exit']
  exact ⟨_, _, _, _, _, _, _, _, _, _, _, _, _, _, rfl⟩
 | succ m ih =>
  intro i j6 j7 j20 j21 j22 j23 j24 j25 j26 j27 j28 j29 j30 j31 hi
  have hlt : i < q.length := by omega
  have hlp : i < p.length := by omega
  have hd : decide ((i : Int) < (q.length : Int)) = true := by simp; omega
  have h2 : IntKind.i64.wrap ((i : Int) + 1) = ((i + 1 : Nat) : Int) := by rw [wrap64 (by omega) (by omega)]; omega
  obtain ⟨ad, ha, hl⟩ := (c.mono [.rw [], .rw (u8s (orL p (q.take i)))]).idx (List.getElem?_eq_getElem hlt) .i64
  have hlen : (orL p (q.take i)).length = p.length := orL_len _ _
  have hli : i < (orL p (q.take i)).length := by omega
  have hpi : (orL p (q.take i))[i]'hli = p[i]'hlp := by
   have := orL_get p (q.take i) i (by rw [List.length_take]; omega)
   rw [List.getElem?_eq_getElem hli, List.getElem?_eq_getElem hlp] at this
   exact Option.some.inj this
  obtain ⟨a1, a2, _⟩ := own_at (H := H) hli 0 .i64
  have a3 := (own_at (H := H) hli (orI (p[i]'hlp) (q[i]'hlt)) .i64).2.2
  rw [hlen] at a1
  rw [hpi] at a2
  rw [← orL_step p q i _ _ (List.getElem?_eq_getElem hlp) (List.getElem?_eq_getElem hlt)] at a3
  obtain ⟨k6, k7, k20, k21, k22, k23, k24, k25, k26, k27, k28, k29, k30, k31, e⟩ := ih (i + 1) (.int .i64 i) (.int .u8 (q[i]'hlt)) (.bool true) (.int .i64 i) ad (.int .u8 (q[i]'hlt)) (.sl (H.length + 1) 0 1 p.length p.length false) (.int .i64 i) (.ptr (H.length + 1) i) (.int .u8 (p[i]'hlp)) (.int .u8 (q[i]'hlt)) (.int .u8 (orI (p[i]'hlp) (q[i]'hlt))) (.ptr (H.length + 1) i) (.int .i64 ((i + 1 : Nat) : Int)) (by omega)
  refine ⟨k6, k7, k20, k21, k22, k23, k24, k25, k26, k27, k28, k29, k30, k31, ?_⟩
  rw [← e, loop_run]
  conv => lhs; arg 1; unfold l24x0
  simp -implicitDefEqProofs (maxSteps := 5000000) only [go_sem, Nat.reduceShiftRight, Nat.reduceAnd, Nat.reduceBNe, Int.reduceEq, Nat.reduceAdd, Nat.reduceSub, Nat.reduceMul, Nat.reduceLeDiff, reduceIte, reduceCtorEq, Nat.reduceBEq, Nat.reduceEqDiff, go_sem, hd, h2, ha, hl, a1, a2, a3, or8]
end Go.Proofs.Ytfioahnogphnfaa.G12.Bt
end
section
namespace Go.Proofs.Ytfioahnogphnfaa.G12.Bt
open Go Go.Proofs.Ytfioahnogphnfaa.Eng
theorem Own.trim {H : AHeap} {v : AV} {G : AHeap} {zs : List Int} (o : Own H v G zs) : trim H (some (v, H ++ G)) = some (v, H ++ G) := by
 rcases o with ⟨_, ⟨rfl, rfl⟩ | ⟨rfl, rfl⟩⟩ | ⟨_, rfl, rfl⟩
 ·rw [List.append_nil]; exact trim_some_id (by simp [AV.under])
 ·exact trim_keep (by simp [AV.under])
 ·exact trim_keep (by simp [AV.under])
theorem orL_ne {p : List Int} (q : List Int) (h : p ≠ []) : orL p q ≠ [] := fun e => by
 have := congrArg List.length e
 rw [orL_len] at this
 exact h (List.eq_nil_of_length_eq_zero (by simpa using this))
set_option maxHeartbeats 4000000 in
theorem orC {H : AHeap} {v w : AV} {xs ys : List Int} (b : BS H v xs) (c : BS H w ys) (hx : xs.length ≤ 100000) (hy : ys.length ≤ 100000) : ∃ v' G, Own H v' G (orS xs ys) ∧ (envL prog).call 24 [v, w] H = some (v', H ++ G) := by
 have hb := b.len
 have hc := c.len
 unfold orS
 by_cases hlt : xs.length < ys.length
 ·rw [if_pos hlt]
  have d : decide ((xs.length : Int) < (ys.length : Int)) = true := by simp [hlt]
  obtain ⟨v', G, o, hcl⟩ := cloneC c hy
  by_cases h0 : xs = []
  ·subst h0
   refine ⟨v', G, by rw [orL_nil]; exact o, ?_⟩
   rw [c24]
   unfold b24
   have z0 : ((([] : List Int).length : Nat) : Int) = 0 := rfl
   rw [z0] at hb d
   simp -implicitDefEqProofs (maxSteps := 5000000) only [go_sem, Nat.reduceShiftRight, Nat.reduceAnd, Nat.reduceBNe, Int.reduceEq, Nat.reduceAdd, Nat.reduceSub, Nat.reduceMul, Nat.reduceLeDiff, reduceIte, reduceCtorEq, Nat.reduceBEq, Nat.reduceEqDiff, wrap64, loop_run, runC_loop, runC_range, callF_fn, callV_fn, callV_yld, yield_eq, yieldBody, yieldRaw, roundMid, roundEnd, rangeEnd, Bool.not_not, put_cons, put_nil, trim_same, at_zero, at_add, set_zero, set_add, store_one, write_zero, write_add, write_head, write_succ, splice_one, splice_more, List.drop_nil, List.take_nil, cell_int, cell_bool, fillS, splice_one, idxA, Ex.isNormal, List.set_nil, List.length_set, List.all_cons, List.all_nil, Bool.and_self, and_self, true_and, and_true, List.getElem?_nil, Int.reduceLT, Int.reduceLE, Int.reduceToNat, Int.toNat_zero, Int.toNat_one, Int.reduceAdd, Int.reduceSub, Int.reduceMul, Int.reduceNeg, Int.reduceBEq, Int.reduceBNe, Int.reduceGE, Int.reduceGT, Nat.reduceLT, trim_keep, under_fn, under_ptr, under_sl, Nat.lt_irrefl, not_lt_add, trim_tail, keepOk, ABlk.vals, Int.cast_ofNat_Int, decide_true, decide_false, List.all_cons, List.all_nil, Nat.zero_mul, Nat.mul_one, Nat.one_mul, go_sem, hb, hc, d, hcl, l24x0]
   exact o.trim
  ·have hy0 : ys ≠ [] := fun h => by subst h; simp at hlt
   rcases o with ⟨h, _⟩ | ⟨_, rfl, rfl⟩
   ·exact absurd h hy0
   ·obtain ⟨k6, k7, k20, k21, k22, k23, k24, k25, k26, k27, k28, k29, k30, k31, e⟩ := orLoop (p := ys) (q := xs) b (by omega) hx w v .undef .undef .nilSl v (.int .i64 xs.length) w (.int .i64 ys.length) (.bool true) w v w (.sl (H.length + 1) 0 1 ys.length ys.length false) .undef xs.length 0 .undef .undef .undef .undef .undef .undef .undef .undef .undef .undef .undef .undef .undef .undef (by omega)
    rw [List.take_zero, orL_nil, show ((0 : Nat) : Int) = 0 from rfl] at e
    refine ⟨.sl (H.length + 1) 0 1 (orL ys xs).length (orL ys xs).length false, [.rw [], .rw (u8s (orL ys xs))], .inr ⟨orL_ne _ hy0, rfl, rfl⟩, ?_⟩
    have u : (AV.sl (H.length + 1) 0 1 ys.length ys.length false).under H.length = false := by simp [AV.under]
    rw [orL_len, c24]
    unfold b24
    simp -implicitDefEqProofs (maxSteps := 5000000) only [go_sem, Nat.reduceShiftRight, Nat.reduceAnd, Nat.reduceBNe, Int.reduceEq, Nat.reduceAdd, Nat.reduceSub, Nat.reduceMul, Nat.reduceLeDiff, reduceIte, reduceCtorEq, Nat.reduceBEq, Nat.reduceEqDiff, go_sem, runC_loop, hb, hc, d, hcl, e, trim_keep, u]
 ·rw [if_neg hlt]
  have d : decide ((xs.length : Int) < (ys.length : Int)) = false := by simp; omega
  obtain ⟨v', G, o, hcl⟩ := cloneC b hx
  by_cases h0 : ys = []
  ·subst h0
   refine ⟨v', G, by rw [orL_nil]; exact o, ?_⟩
   rw [c24]
   unfold b24
   have z0 : ((([] : List Int).length : Nat) : Int) = 0 := rfl
   rw [z0] at hc d
   simp -implicitDefEqProofs (maxSteps := 5000000) only [go_sem, Nat.reduceShiftRight, Nat.reduceAnd, Nat.reduceBNe, Int.reduceEq, Nat.reduceAdd, Nat.reduceSub, Nat.reduceMul, Nat.reduceLeDiff, reduceIte, reduceCtorEq, Nat.reduceBEq, Nat.reduceEqDiff, wrap64, loop_run, runC_loop, runC_range, callF_fn, callV_fn, callV_yld, yield_eq, yieldBody, yieldRaw, roundMid, roundEnd, rangeEnd, Bool.not_not, put_cons, put_nil, trim_same, at_zero, at_add, set_zero, set_add, store_one, write_zero, write_add, write_head, write_succ, splice_one, splice_more, List.drop_nil, List.take_nil, cell_int, cell_bool, fillS, splice_one, idxA, Ex.isNormal, List.set_nil, List.length_set, List.all_cons, List.all_nil, Bool.and_self, and_self, true_and, and_true, List.getElem?_nil, Int.reduceLT, Int.reduceLE, Int.reduceToNat, Int.toNat_zero, Int.toNat_one, Int.reduceAdd, Int.reduceSub, Int.reduceMul, Int.reduceNeg, Int.reduceBEq, Int.reduceBNe, Int.reduceGE, Int.reduceGT, Nat.reduceLT, trim_keep, under_fn, under_ptr, under_sl, Nat.lt_irrefl, not_lt_add, trim_tail, keepOk, ABlk.vals, Int.cast_ofNat_Int, decide_true, decide_false, List.all_cons, List.all_nil, Nat.zero_mul, Nat.mul_one, Nat.one_mul, go_sem, hb, hc, d, hcl, l24x0]
   exact o.trim
  ·have hy0 : xs ≠ [] := fun h => by subst h; simp at hlt; exact h0 hlt
   rcases o with ⟨h, _⟩ | ⟨_, rfl, rfl⟩
   ·exact absurd h hy0
   ·obtain ⟨k6, k7, k20, k21, k22, k23, k24, k25, k26, k27, k28, k29, k30, k31, e⟩ := orLoop (p := xs) (q := ys) c (by omega) hy v w .undef .undef .nilSl v (.int .i64 xs.length) w (.int .i64 ys.length) (.bool false) .undef .undef v (.sl (H.length + 1) 0 1 xs.length xs.length false) .undef ys.length 0 .undef .undef .undef .undef .undef .undef .undef .undef .undef .undef .undef .undef .undef .undef (by omega)
    rw [List.take_zero, orL_nil, show ((0 : Nat) : Int) = 0 from rfl] at e
    refine ⟨.sl (H.length + 1) 0 1 (orL xs ys).length (orL xs ys).length false, [.rw [], .rw (u8s (orL xs ys))], .inr ⟨orL_ne _ hy0, rfl, rfl⟩, ?_⟩
    have u : (AV.sl (H.length + 1) 0 1 xs.length xs.length false).under H.length = false := by simp [AV.under]
    rw [orL_len, c24]
    unfold b24
    simp -implicitDefEqProofs (maxSteps := 5000000) only [go_sem, Nat.reduceShiftRight, Nat.reduceAnd, Nat.reduceBNe, Int.reduceEq, Nat.reduceAdd, Nat.reduceSub, Nat.reduceMul, Nat.reduceLeDiff, reduceIte, reduceCtorEq, Nat.reduceBEq, Nat.reduceEqDiff, go_sem, runC_loop, hb, hc, d, hcl, e, trim_keep, u]
def newN (k : Int) : Nat := if k < 1 ∨ k > 4096 then 0 else ((k + 7) / 8).toNat
def NewS (H : AHeap) (v : AV) (G : AHeap) (k : Int) : Prop := (v = .nilSl ∧ G = [] ∧ newN k = 0) ∨ (v = .sl H.length 0 1 (newN k) (newN k) true ∧ G = [.rw (u8s (List.replicate (newN k) 0))])
theorem NewS.bs {H : AHeap} {v : AV} {G : AHeap} {k : Int} (h : NewS H v G k) : BS (H ++ G) v (List.replicate (newN k) 0) := by
 rcases h with ⟨rfl, rfl, h0⟩ | ⟨rfl, rfl⟩
 ·rw [h0]; exact BS.nil _
 ·have := BS.block (H := H ++ [.rw (u8s (List.replicate (newN k) 0))]) (b := H.length) (zs := List.replicate (newN k) 0) (l := newN k) (e := true) (by simp)
  rwa [List.length_replicate] at this
theorem make8 (n : Nat) (hn : n ≤ 100000) (h : AHeap) : makeSliceV (ty 1 false 1 [.int .u8 0]) (.int .i64 n) (.int .i64 n) h = some (.sl h.length 0 1 n n true, h ++ [.rw (u8s (List.replicate n 0))]) := by
 have hc : (0 ≤ (n : Int) ∧ (n : Int) ≤ n ∧ 1 ≤ 1 ∧ (n : Int) * ((1 : Nat) : Int) ≤ ((roomy : Nat) : Int) ∧ 1 ≤ 1) := ⟨by omega, by omega, by omega, by unfold roomy; omega, by omega⟩
 refine (if_pos hc).trans ?_
 have : (List.replicate (n : Int).toNat [AV.int .u8 0]).flatten = u8s (List.replicate n 0) := by
  rw [Int.toNat_natCast]
  unfold u8s
  induction n with
  | zero => rfl
  | succ n ih => rw [List.replicate_succ, List.flatten_cons, ih (by omega) ⟨by omega, by omega, by omega, by unfold roomy; omega, by omega⟩]; rfl
 rw [Int.toNat_natCast] at this
 simp only [show (ty 1 false 1 [AV.int .u8 0]).zero = [AV.int .u8 0] from rfl, Int.toNat_natCast, this]
 rfl
theorem newR (k : Int) (H : AHeap) : ∃ v G, NewS H v G k ∧ (envL prog).call 33 [.int .i64 k] H = some (v, H ++ G) := by
 rw [c33]
 unfold b33
 by_cases h1 : k < 1
 ·have d1 : decide (k < 1) = true := by simp [h1]
  refine ⟨.nilSl, [], .inl ⟨rfl, rfl, by simp [newN, h1]⟩, ?_⟩
  simp -implicitDefEqProofs (maxSteps := 5000000) only [go_sem, Nat.reduceShiftRight, Nat.reduceAnd, Nat.reduceBNe, Int.reduceEq, Nat.reduceAdd, Nat.reduceSub, Nat.reduceMul, Nat.reduceLeDiff, reduceIte, reduceCtorEq, Nat.reduceBEq, Nat.reduceEqDiff, go_sem, d1]
 ·have d1 : decide (k < 1) = false := by simp [h1]
  by_cases h2 : k > 4096
  ·have d2 : decide (k > 4096) = true := by simp [h2]
   refine ⟨.nilSl, [], .inl ⟨rfl, rfl, by simp [newN, h2]⟩, ?_⟩
   simp -implicitDefEqProofs (maxSteps := 5000000) only [go_sem, Nat.reduceShiftRight, Nat.reduceAnd, Nat.reduceBNe, Int.reduceEq, Nat.reduceAdd, Nat.reduceSub, Nat.reduceMul, Nat.reduceLeDiff, reduceIte, reduceCtorEq, Nat.reduceBEq, Nat.reduceEqDiff, go_sem, d1, d2]
  ·have d2 : decide (k > 4096) = false := by simp [h2]
   obtain ⟨n, hn⟩ : ∃ n : Nat, (k + 7) / 8 = n := ⟨((k + 7) / 8).toNat, by omega⟩
   have hw : newN k = n := by unfold newN; rw [if_neg (by omega), hn]; simp
   have e2 : IntKind.i64.wrap (k + 7) = k + 7 := wrap64 (by omega) (by omega)
   have e3 : (k + 7).tdiv 8 = n := by rw [Int.tdiv_eq_ediv_of_nonneg (by omega), hn]
   have e4 : IntKind.i64.wrap (n : Int) = n := wrap64 (by omega) (by omega)
   have mk := make8 n (by omega)
   have u : (AV.sl H.length 0 1 n n true).under H.length = false := by simp [AV.under]
   refine ⟨.sl H.length 0 1 n n true, [.rw (u8s (List.replicate n 0))], .inr ⟨by rw [hw], by rw [hw]⟩, ?_⟩
   simp -implicitDefEqProofs (maxSteps := 5000000) only [go_sem, Nat.reduceShiftRight, Nat.reduceAnd, Nat.reduceBNe, Int.reduceEq, Nat.reduceAdd, Nat.reduceSub, Nat.reduceMul, Nat.reduceLeDiff, reduceIte, reduceCtorEq, Nat.reduceBEq, Nat.reduceEqDiff, go_sem, d1, d2, e2, e3, e4, mk, trim_keep, u]
end Go.Proofs.Ytfioahnogphnfaa.G12.Bt
end
section
namespace Go.Proofs.Ytfioahnogphnfaa.G12.Bt
open Go Go.Proofs.Ytfioahnogphnfaa.Eng
def ones (z : Int) : Int := (((List.range 8).countP fun i => z.toNat.testBit i : Nat) : Int)
def sumO : List Int → Int
 | [] => 0
 | z :: r => ones z + sumO r
theorem sumO_take {zs : List Int} {i : Nat} {z : Int} (h : zs[i]? = some z) : sumO (zs.take (i + 1)) = sumO (zs.take i) + ones z := by
 induction zs generalizing i with
 | nil => simp at h
 | cons a zs ih =>
  cases i with
  | zero => simp at h; subst h; simp [sumO]
  | succ i =>
   simp only [List.take_succ_cons, sumO]
   rw [ih (by simpa using h)]; omega
def Grown (B : Nat) (l : AV) (R : AHeap) (zs : List Int) : Prop :=
 (zs = [] ∧ l = .nilSl ∧ R = []) ∨ (zs ≠ [] ∧ ∃ J, R = J ++ [.rw (i64s zs)] ∧ l = .sl (B + J.length) 0 1 zs.length zs.length false)
theorem Grown.is {P : AHeap} {l : AV} {R : AHeap} {zs : List Int} (g : Grown P.length l R zs) : IS (P ++ R) l zs := by
 rcases g with ⟨rfl, rfl, rfl⟩ | ⟨_, J, rfl, rfl⟩
 ·exact IS.nil _
 ·exact IS.block (by
   rw [List.getElem?_append_right (by omega), show P.length + J.length - P.length = J.length by omega, List.getElem?_append_right (by omega), Nat.sub_self]; rfl)
theorem Grown.under {B : Nat} {l : AV} {R : AHeap} {zs : List Int} (g : Grown B l R zs) : l.under (B + R.length) = true := by
 rcases g with ⟨rfl, rfl, rfl⟩ | ⟨_, J, rfl, rfl⟩
 ·simp [AV.under]
 ·simp [AV.under]
theorem grow_stepU {B : Nat} {l : AV} {R : AHeap} {zs : List Int} (g : Grown B l R zs) (hn : zs.length < 1000000) (x : Int) :
  ∃ l' R', Grown B l' R' (zs ++ [x]) ∧ l'.under (B + R.length) = false ∧ l'.isCell = true ∧ cellsA l' = some [l'] ∧ ∀ P : AHeap, P.length = B → app (ty 1 false 8 [.int .i64 0]) l (.sl (B + R.length) 0 1 1 1 true) (P ++ (R ++ [.rw [.int .i64 x]])) = some (l', P ++ R') := by
 have hs : ∀ P : AHeap, P.length = B → srcCells 1 1 (.sl (B + R.length) 0 1 1 1 true) (P ++ (R ++ [.rw [.int .i64 x]])) = some [.int .i64 x] := by
  intro P hP
  unfold srcCells readN cellsOf
  have : (P ++ (R ++ [ABlk.rw [AV.int .i64 x]]))[B + R.length]? = some (.rw [.int .i64 x]) := by
   rw [List.getElem?_append_right (by omega), show B + R.length - P.length = R.length by omega, List.getElem?_append_right (by omega), Nat.sub_self]; rfl
  simp only [if_true, this]; rfl
 rcases g with ⟨rfl, rfl, rfl⟩ | ⟨hz, J, rfl, rfl⟩
 ·refine ⟨.sl (B + 1) 0 1 1 1 false, [.rw [.int .i64 x], .rw (i64s [x])], .inr ⟨by simp, [.rw [.int .i64 x]], rfl, rfl⟩, ?_, rfl, rfl, ?_⟩
  ·simp [AV.under]
  ·intro P hP
   have e := app_first (d := ty 1 false 8 [.int .i64 0]) rfl rfl (H := P ++ ([] ++ [.rw [.int .i64 x]])) (x := .int .i64 x) (y := .sl (B + ([] : AHeap).length) 0 1 1 1 true) rfl (hs P hP)
   rw [e]; simp [i64s, hP]
 ·refine ⟨.sl (B + (J ++ [ABlk.dead, ABlk.rw [AV.int .i64 x]]).length) 0 1 (zs ++ [x]).length (zs ++ [x]).length false, J ++ [ABlk.dead, ABlk.rw [AV.int .i64 x]] ++ [ABlk.rw (i64s (zs ++ [x]))], .inr ⟨by simp, J ++ [ABlk.dead, ABlk.rw [AV.int .i64 x]], rfl, rfl⟩, ?_, rfl, rfl, ?_⟩
  ·simp [AV.under]
  ·intro P hP
   have hb : (P ++ (J ++ [.rw (i64s zs)] ++ [.rw [.int .i64 x]]))[B + J.length]? = some (.rw (i64s zs)) := by
    rw [List.getElem?_append_right (by omega), show B + J.length - P.length = J.length by omega, List.append_assoc, List.getElem?_append_right (by omega), Nat.sub_self]; rfl
   have e := app_grow (d := ty 1 false 8 [.int .i64 0]) rfl rfl (H := P ++ (J ++ [.rw (i64s zs)] ++ [.rw [.int .i64 x]])) (b := B + J.length) (zs := zs) (x := .int .i64 x) (y := .sl (B + (J ++ [ABlk.rw (i64s zs)]).length) 0 1 1 1 true) hb rfl (hs P hP) rfl hn
   have hset : (P ++ (J ++ [ABlk.rw (i64s zs)] ++ [ABlk.rw [AV.int .i64 x]])).set (B + J.length) .dead = P ++ (J ++ [ABlk.dead, ABlk.rw [AV.int .i64 x]]) := by
    rw [List.set_append_right _ _ (by omega), show B + J.length - P.length = J.length by omega, List.append_assoc, List.set_append_right _ _ (by omega), Nat.sub_self]; rfl
   rw [e, i64s_snoc, hset]
   simp
   omega
theorem grow_step {P : AHeap} {l : AV} {R : AHeap} {zs : List Int} (g : Grown P.length l R zs) (hn : zs.length < 1000000) (x : Int) :
  ∃ l' R', Grown P.length l' R' (zs ++ [x]) ∧ l'.under (P.length + R.length) = false ∧ l'.isCell = true ∧ cellsA l' = some [l'] ∧ app (ty 1 false 8 [.int .i64 0]) l (.sl (P.length + R.length) 0 1 1 1 true) (P ++ (R ++ [.rw [.int .i64 x]])) = some (l', P ++ R') := by
 obtain ⟨l', R', h1, h2, h3, h4, h5⟩ := grow_stepU g hn x
 exact ⟨l', R', h1, h2, h3, h4, h5 P rfl⟩
def allU (zs : List Int) : Nat → List Int
 | 0 => []
 | i + 1 => if hasS zs i then allU zs i ++ [(i : Int)] else allU zs i
theorem allU_len (zs : List Int) : ∀ i, (allU zs i).length ≤ i
 | 0 => by simp [allU]
 | i + 1 => by
  have := allU_len zs i
  simp only [allU]; split <;> simp <;> omega
def allS (zs : List Int) : List Int := allU zs (8 * zs.length)
set_option maxHeartbeats 4000000 in
theorem allRL {H : AHeap} {v : AV} {zs : List Int} (b : BS H v zs) (hn : zs.length ≤ 100000) (x1 x2 x19 : AV) : ∀ (m i : Nat) (l : AV) (R : AHeap) (j5 j6 j7 j8 j9 j10 j11 j12 j13 j14 j15 j16 j17 j18 : AV), i + m = 8 * zs.length → Grown H.length l R (allU zs i) →
  ∃ (l' : AV) (R' : AHeap) (k5 k6 k7 k8 k9 k10 k11 k12 k13 k14 k15 k16 k17 k18 : AV), Grown H.length l' R' (allS zs) ∧ (envL prog).loop (runC (envL prog) (l21x0 (envL prog))) [v, x1, x2, l, .int .i64 (i : Int), j5, j6, j7, j8, j9, j10, j11, j12, j13, j14, j15, j16, j17, j18, x19] (H ++ R) =
   some (.exit 0, [v, x1, x2, l', .int .i64 ((8 * zs.length : Nat) : Int), k5, k6, k7, k8, k9, k10, k11, k12, k13, k14, k15, k16, k17, k18, x19], H ++ R') := by
 intro m
 have hl := b.len
 have e8 : IntKind.i64.wrap (8 * (zs.length : Int)) = ((8 * zs.length : Nat) : Int) := by rw [wrap64 (by omega) (by omega)]; omega
 induction m with
 | zero =>
  intro i l R j5 j6 j7 j8 j9 j10 j11 j12 j13 j14 j15 j16 j17 j18 hi g
  obtain rfl : i = 8 * zs.length := by omega
  have hd : decide (((8 * zs.length : Nat) : Int) < ((8 * zs.length : Nat) : Int)) = false := by simp
  rw [loop_run]
  unfold l21x0
  simp -implicitDefEqProofs (maxSteps := 5000000) only [go_sem, Nat.reduceShiftRight, Nat.reduceAnd, Nat.reduceBNe, Int.reduceEq, Nat.reduceAdd, Nat.reduceSub, Nat.reduceMul, Nat.reduceLeDiff, reduceIte, reduceCtorEq, Nat.reduceBEq, Nat.reduceEqDiff, go_sem, hl, e8, hd, seqR_exit']
  exact ⟨l, R, _, _, _, _, _, _, _, _, _, _, _, _, _, _, g, rfl⟩
 | succ m ih =>
  intro i l R j5 j6 j7 j8 j9 j10 j11 j12 j13 j14 j15 j16 j17 j18 hi g
  have hd : decide ((i : Int) < ((8 * zs.length : Nat) : Int)) = true := by simp; omega
  have h2 : IntKind.i64.wrap ((i : Int) + 1) = ((i + 1 : Nat) : Int) := by rw [wrap64 (by omega) (by omega)]; omega
  have hh := hasR (b.mono R) (i : Int) (by omega)
  cases hb : hasS zs i with
  | false =>
   rw [hb] at hh
   have g' : Grown H.length l R (allU zs (i + 1)) := by simp only [allU, hb, Bool.false_eq_true, if_false]; exact g
   obtain ⟨l', R', k5, k6, k7, k8, k9, k10, k11, k12, k13, k14, k15, k16, k17, k18, g2, e⟩ := ih (i + 1) l R (.int .i64 i) v (.int .i64 zs.length) (.int .i64 ((8 * zs.length : Nat) : Int)) (.bool true) (.int .i64 i) (.int .i64 ((i + 1 : Nat) : Int)) v (.int .i64 i) (.bool false) j15 j16 j17 j18 (by omega) g'
   refine ⟨l', R', k5, k6, k7, k8, k9, k10, k11, k12, k13, k14, k15, k16, k17, k18, g2, ?_⟩
   rw [← e, loop_run]
   conv => lhs; arg 1; unfold l21x0
   simp -implicitDefEqProofs (maxSteps := 5000000) only [go_sem, Nat.reduceShiftRight, Nat.reduceAnd, Nat.reduceBNe, Int.reduceEq, Nat.reduceAdd, Nat.reduceSub, Nat.reduceMul, Nat.reduceLeDiff, reduceIte, reduceCtorEq, Nat.reduceBEq, Nat.reduceEqDiff, go_sem, hl, e8, hd, h2, hh]
  | true =>
   rw [hb] at hh
   obtain ⟨l1, R1, g1, _, _, _, ea⟩ := grow_step g (by have := allU_len zs i; omega) (i : Int)
   have g' : Grown H.length l1 R1 (allU zs (i + 1)) := by simp only [allU, hb, if_true]; exact g1
   obtain ⟨l', R', k5, k6, k7, k8, k9, k10, k11, k12, k13, k14, k15, k16, k17, k18, g2, e⟩ := ih (i + 1) l1 R1 (.int .i64 i) v (.int .i64 zs.length) (.int .i64 ((8 * zs.length : Nat) : Int)) (.bool true) (.int .i64 i) (.int .i64 ((i + 1 : Nat) : Int)) v (.int .i64 i) (.bool true) l (.int .i64 i) (.sl (H.length + R.length) 0 1 1 1 true) l1 (by omega) g'
   refine ⟨l', R', k5, k6, k7, k8, k9, k10, k11, k12, k13, k14, k15, k16, k17, k18, g2, ?_⟩
   rw [← e, loop_run]
   conv => lhs; arg 1; unfold l21x0
   simp -implicitDefEqProofs (maxSteps := 5000000) only [go_sem, Nat.reduceShiftRight, Nat.reduceAnd, Nat.reduceBNe, Int.reduceEq, Nat.reduceAdd, Nat.reduceSub, Nat.reduceMul, Nat.reduceLeDiff, reduceIte, reduceCtorEq, Nat.reduceBEq, Nat.reduceEqDiff, go_sem, hl, e8, hd, h2, hh, ea]
theorem Grown.trim {H : AHeap} {l : AV} {R : AHeap} {zs : List Int} (g : Grown H.length l R zs) : trim H (some (l, H ++ R)) = some (l, H ++ R) := by
 rcases g with ⟨_, rfl, rfl⟩ | ⟨_, J, rfl, rfl⟩
 ·rw [List.append_nil]; exact trim_some_id (by simp [AV.under])
 ·exact trim_keep (by simp [AV.under])
theorem allR {H : AHeap} {v : AV} {zs : List Int} (b : BS H v zs) (hn : zs.length ≤ 100000) : ∃ l R, Grown H.length l R (allS zs) ∧ (envL prog).call 21 [v] H = some (l, H ++ R) := by
 obtain ⟨l, R, k5, k6, k7, k8, k9, k10, k11, k12, k13, k14, k15, k16, k17, k18, g, e⟩ := allRL b hn .undef .nilSl .undef (8 * zs.length) 0 .nilSl [] .undef .undef .undef .undef .undef .undef .undef .undef .undef .undef .undef .undef .undef .undef (by omega) (.inl ⟨rfl, rfl, rfl⟩)
 refine ⟨l, R, g, ?_⟩
 have t := g.trim
 rw [List.append_nil, show ((0 : Nat) : Int) = 0 from rfl] at e
 rw [c21]
 unfold b21
 simp -implicitDefEqProofs (maxSteps := 5000000) only [go_sem, Nat.reduceShiftRight, Nat.reduceAnd, Nat.reduceBNe, Int.reduceEq, Nat.reduceAdd, Nat.reduceSub, Nat.reduceMul, Nat.reduceLeDiff, reduceIte, reduceCtorEq, Nat.reduceBEq, Nat.reduceEqDiff, go_sem, runC_loop, e, t]
end Go.Proofs.Ytfioahnogphnfaa.G12.Bt
end
section
namespace Go.Proofs.Ytfioahnogphnfaa.G12.Bt
open Go Go.Proofs.Ytfioahnogphnfaa.Eng
def Fresh (h : AHeap) (l : AV) (G : AHeap) (zs : List Int) : Prop := IS (h ++ G) l zs ∧ ((l = .nilSl ∧ G = []) ∨ ∃ b o n c x, l = .sl b o 1 n c x ∧ h.length ≤ b)
theorem Fresh.trim {h : AHeap} {l : AV} {G : AHeap} {zs : List Int} (f : Fresh h l G zs) : trim h (some (l, h ++ G)) = some (l, h ++ G) := by
 rcases f.2 with ⟨rfl, rfl⟩ | ⟨b, o, n, c, x, rfl, hb⟩
 ·rw [List.append_nil]; exact trim_some_id (by simp [AV.under])
 ·exact trim_keep (by simp [AV.under]; omega)
end Go.Proofs.Ytfioahnogphnfaa.G12.Bt
end
section
namespace Go.Proofs.Ytfioahnogphnfaa.G12.Bt
open Go Go.Proofs.Ytfioahnogphnfaa.Eng
def okF (zs : List Int) (k : Int) : Nat → Nat → Bool
 | 0, _ => true
 | m + 1, i => (!hasS zs i || decide ((i : Int) < k)) && okF zs k m (i + 1)
theorem okF_iff (zs : List Int) (k : Int) : ∀ m i, okF zs k m i = true ↔ ∀ j, i ≤ j → j < i + m → hasS zs j = true → (j : Int) < k
 | 0, i => by simp [okF]; intro j h1 h2; omega
 | m + 1, i => by
  simp only [okF, Bool.and_eq_true, Bool.or_eq_true, decide_eq_true_eq, okF_iff zs k m (i + 1)]
  constructor
  ·rintro ⟨h1, h2⟩ j hj hj2 hh
   by_cases e : j = i
   ·subst e
    rcases h1 with h1 | h1
    ·rw [hh] at h1; cases h1
    ·exact h1
   ·exact h2 j (by omega) (by omega) hh
  ·intro h
   refine ⟨?_, fun j h1 h2 h3 => h j (by omega) (by omega) h3⟩
   cases hh : hasS zs i with
   | false => exact .inl rfl
   | true => exact .inr (h i (by omega) (by omega) hh)
def okR (zs : List Int) : Nat → Nat → Bool
 | 0, _ => true
 | m + 1, i => !hasS zs i && okR zs m (i + 1)
theorem okR_iff (zs : List Int) : ∀ m i, okR zs m i = true ↔ ∀ j, i ≤ j → j < i + m → hasS zs j = false
 | 0, i => by simp [okR]; intro j h1 h2; omega
 | m + 1, i => by
  simp only [okR, Bool.and_eq_true, Bool.not_eq_true', okR_iff zs m (i + 1)]
  constructor
  ·rintro ⟨h1, h2⟩ j hj hj2
   by_cases e : j = i
   ·subst e; exact h1
   ·exact h2 j (by omega) (by omega)
  ·intro h
   exact ⟨h i (by omega) (by omega), fun j h1 h2 => h j (by omega) (by omega)⟩
def goodS (zs : List Int) (k : Int) : Bool := decide (zs.length = newN k) && okF zs k (8 * zs.length) 0
end Go.Proofs.Ytfioahnogphnfaa.G12.Bt
end
section
namespace Go.Proofs.Ytfioahnogphnfaa.G12.Bt
open Go Go.Proofs.Ytfioahnogphnfaa.Eng
set_option maxHeartbeats 4000000 in
theorem goodL {H : AHeap} {v : AV} {zs : List Int} (b : BS H v zs) (hn : zs.length ≤ 100000) (x1 x2 x3 x4 x6 x7 x8 x9 x10 x11 x12 x13 : AV) : ∀ (m i : Nat) (j14 j15 j16 j17 j18 j19 j20 j21 j22 j23 : AV), i + m = 8 * zs.length →
  ∃ (k4 k5 k14 k15 k16 k17 k18 k19 k20 k21 k22 k23 : AV), (envL prog).loop (runC (envL prog) (l18x0 (envL prog))) [v, x1, x2, x3, .bool false, .int .i64 (i : Int), x6, x7, x8, x9, x10, x11, x12, x13, j14, j15, j16, j17, j18, j19, j20, j21, j22, j23] H =
   some (if okR zs m i = true then .exit 0 else .ret, [v, x1, x2, x3, .bool false, k5, x6, x7, x8, x9, x10, x11, x12, x13, k14, k15, k16, k17, k18, k19, k20, k21, k22, k23], H) := by
 intro m
 have hl := b.len
 have e8 : IntKind.i64.wrap (8 * (zs.length : Int)) = ((8 * zs.length : Nat) : Int) := by rw [wrap64 (by omega) (by omega)]; omega
 induction m with
 | zero =>
  intro i j14 j15 j16 j17 j18 j19 j20 j21 j22 j23 hi
  obtain rfl : i = 8 * zs.length := by omega
  have hd : decide (((8 * zs.length : Nat) : Int) < ((8 * zs.length : Nat) : Int)) = false := by simp
  rw [loop_run]
  unfold l18x0
  simp -implicitDefEqProofs (maxSteps := 5000000) only [go_sem, Nat.reduceShiftRight, Nat.reduceAnd, Nat.reduceBNe, Int.reduceEq, Nat.reduceAdd, Nat.reduceSub, Nat.reduceMul, Nat.reduceLeDiff, reduceIte, reduceCtorEq, Nat.reduceBEq, Nat.reduceEqDiff, go_sem, hl, e8, hd, seqR_exit', okR]
  exact ⟨.undef, _, _, _, _, _, _, _, _, _, _, _, rfl⟩
 | succ m ih =>
  intro i j14 j15 j16 j17 j18 j19 j20 j21 j22 j23 hi
  have hd : decide ((i : Int) < ((8 * zs.length : Nat) : Int)) = true := by simp; omega
  have h2 : IntKind.i64.wrap ((i : Int) + 1) = ((i + 1 : Nat) : Int) := by rw [wrap64 (by omega) (by omega)]; omega
  have hh := hasR b (i : Int) (by omega)
  cases hb : hasS zs i with
  | false =>
   rw [hb] at hh
   obtain ⟨k4, k5, k14, k15, k16, k17, k18, k19, k20, k21, k22, k23, e⟩ := ih (i + 1) (.int .i64 i) v (.int .i64 zs.length) (.int .i64 ((8 * zs.length : Nat) : Int)) (.bool true) (.int .i64 i) (.int .i64 ((i + 1 : Nat) : Int)) v (.int .i64 i) (.bool false) (by omega)
   refine ⟨k4, k5, k14, k15, k16, k17, k18, k19, k20, k21, k22, k23, ?_⟩
   have ok : okR zs (m + 1) i = okR zs m (i + 1) := by simp [okR, hb]
   rw [ok, ← e, loop_run]
   conv => lhs; arg 1; unfold l18x0
   simp -implicitDefEqProofs (maxSteps := 5000000) only [go_sem, Nat.reduceShiftRight, Nat.reduceAnd, Nat.reduceBNe, Int.reduceEq, Nat.reduceAdd, Nat.reduceSub, Nat.reduceMul, Nat.reduceLeDiff, reduceIte, reduceCtorEq, Nat.reduceBEq, Nat.reduceEqDiff, go_sem, hl, e8, hd, h2, hh]
  | true =>
   rw [hb] at hh
   have ok : okR zs (m + 1) i = false := by simp [okR, hb]
   rw [ok, loop_run]
   unfold l18x0
   simp -implicitDefEqProofs (maxSteps := 5000000) only [go_sem, Nat.reduceShiftRight, Nat.reduceAnd, Nat.reduceBNe, Int.reduceEq, Nat.reduceAdd, Nat.reduceSub, Nat.reduceMul, Nat.reduceLeDiff, reduceIte, reduceCtorEq, Nat.reduceBEq, Nat.reduceEqDiff, go_sem, hl, e8, hd, h2, hh, Bool.false_eq_true]
   exact ⟨.undef, _, _, _, _, _, _, _, _, _, _, _, rfl⟩
theorem ok_eq (zs : List Int) (k : Int) (h : k.toNat ≤ 8 * zs.length) : okR zs (8 * zs.length - k.toNat) k.toNat = okF zs k (8 * zs.length) 0 := by
 rw [Bool.eq_iff_iff, okR_iff, okF_iff]
 constructor
 ·intro h1 j _ h2 h3
  by_cases hj : k.toNat ≤ j
  ·rw [h1 j hj (by omega)] at h3; cases h3
  ·omega
 ·intro h1 j h2 h3
  cases hh : hasS zs j with
  | false => rfl
  | true => have := h1 j (by omega) (by omega) hh; omega
theorem ok_high (zs : List Int) (k : Int) (h : 8 * zs.length < k.toNat) : okF zs k (8 * zs.length) 0 = true := by
 rw [okF_iff]
 intro j _ h2 _; omega
set_option maxHeartbeats 4000000 in
theorem goodR {H : AHeap} {v : AV} {zs : List Int} (b : BS H v zs) (hn : zs.length ≤ 100000) (k : Int) : (envL prog).call 18 [v, .int .i64 k] H = some (.bool (goodS zs k), H) := by
 obtain ⟨w, G, o, e⟩ := newR k H
 have hl := b.len
 have hw := o.bs.len
 rw [List.length_replicate] at hw
 by_cases hq : zs.length = newN k
 ·have dq : ((zs.length : Int) != (newN k : Int)) = false := by simp [hq]
  have hm : (if k > 0 then k else 0) = (k.toNat : Int) := by split <;> omega
  have e8 : IntKind.i64.wrap (8 * (zs.length : Int)) = ((8 * zs.length : Nat) : Int) := by rw [wrap64 (by omega) (by omega)]; omega
  have g1 : goodS zs k = okF zs k (8 * zs.length) 0 := by simp [goodS, hq]
  rw [g1, c18]
  unfold b18
  by_cases hk : k.toNat ≤ 8 * zs.length
  ·obtain ⟨k4, k5, k14, k15, k16, k17, k18, k19, k20, k21, k22, k23, e2⟩ := goodL (b.mono G) hn (.int .i64 k) .undef .undef .undef v (.int .i64 zs.length) (.int .i64 k) w (.int .i64 (newN k)) (.bool false) (.int .i64 k) (.int .i64 k.toNat) (8 * zs.length - k.toNat) k.toNat .undef .undef .undef .undef .undef .undef .undef .undef .undef .undef (by omega)
   rw [ok_eq zs k hk] at e2
   cases hok : okF zs k (8 * zs.length) 0 with
   | true =>
    rw [hok] at e2
    simp only [if_true] at e2
    simp -implicitDefEqProofs (maxSteps := 5000000) only [go_sem, Nat.reduceShiftRight, Nat.reduceAnd, Nat.reduceBNe, Int.reduceEq, Nat.reduceAdd, Nat.reduceSub, Nat.reduceMul, Nat.reduceLeDiff, reduceIte, reduceCtorEq, Nat.reduceBEq, Nat.reduceEqDiff, go_sem, runC_loop, e, hl, hw, dq, hm, e2]
   | false =>
    rw [hok] at e2
    simp only [Bool.false_eq_true, if_false] at e2
    simp -implicitDefEqProofs (maxSteps := 5000000) only [go_sem, Nat.reduceShiftRight, Nat.reduceAnd, Nat.reduceBNe, Int.reduceEq, Nat.reduceAdd, Nat.reduceSub, Nat.reduceMul, Nat.reduceLeDiff, reduceIte, reduceCtorEq, Nat.reduceBEq, Nat.reduceEqDiff, go_sem, runC_loop, e, hl, hw, dq, hm, e2]
  ·rw [ok_high zs k (by omega)]
   have hd : decide ((k.toNat : Int) < ((8 * zs.length : Nat) : Int)) = false := by simp; omega
   unfold l18x0
   simp -implicitDefEqProofs (maxSteps := 5000000) only [go_sem, Nat.reduceShiftRight, Nat.reduceAnd, Nat.reduceBNe, Int.reduceEq, Nat.reduceAdd, Nat.reduceSub, Nat.reduceMul, Nat.reduceLeDiff, reduceIte, reduceCtorEq, Nat.reduceBEq, Nat.reduceEqDiff, go_sem, runC_loop, loop_run, e, hl, hw, dq, hm, e8, hd, seqR_exit']
 ·have dq : ((zs.length : Int) != (newN k : Int)) = true := by simp; omega
  have hg : goodS zs k = false := by simp [goodS, hq]
  rw [hg]
  rw [c18]
  unfold b18
  simp -implicitDefEqProofs (maxSteps := 5000000) only [go_sem, Nat.reduceShiftRight, Nat.reduceAnd, Nat.reduceBNe, Int.reduceEq, Nat.reduceAdd, Nat.reduceSub, Nat.reduceMul, Nat.reduceLeDiff, reduceIte, reduceCtorEq, Nat.reduceBEq, Nat.reduceEqDiff, go_sem, e, hl, hw, dq]
theorem newN_le (k : Int) : newN k ≤ 512 := by unfold newN; split <;> omega
theorem goodR' {H : AHeap} {v : AV} {zs : List Int} (b : BS H v zs) (k : Int) : (envL prog).call 18 [v, .int .i64 k] H = some (.bool (goodS zs k), H) := by
 by_cases hq : zs.length = newN k
 ·exact goodR b (by have := newN_le k; omega) k
 ·obtain ⟨w, G, o, e⟩ := newR k H
  have hl := b.len
  have hw := o.bs.len
  rw [List.length_replicate] at hw
  have dq : ((zs.length : Int) != (newN k : Int)) = true := by simp; omega
  have hg : goodS zs k = false := by simp [goodS, hq]
  rw [hg]
  rw [c18]
  unfold b18
  simp -implicitDefEqProofs (maxSteps := 5000000) only [go_sem, Nat.reduceShiftRight, Nat.reduceAnd, Nat.reduceBNe, Int.reduceEq, Nat.reduceAdd, Nat.reduceSub, Nat.reduceMul, Nat.reduceLeDiff, reduceIte, reduceCtorEq, Nat.reduceBEq, Nat.reduceEqDiff, go_sem, e, hl, hw, dq]
end Go.Proofs.Ytfioahnogphnfaa.G12.Bt
end
section
namespace Go.Proofs.Ytfioahnogphnfaa.G12.Bt
open Go Go.Proofs.Ytfioahnogphnfaa.Eng
set_option maxHeartbeats 4000000 in
theorem intsL {H : AHeap} {v w : AV} {zs : List Int} (b : IS H v zs) (c : IS H w zs) (hn : zs.length ≤ 1000000) (x2 x3 x6 x7 x8 x9 x10 : AV) : ∀ (m i : Nat) (j11 j12 j13 j14 j15 j16 j17 j18 j19 j20 j21 j22 j23 j24 j25 : AV), i + m = zs.length →
  ∃ (k5 k11 k12 k13 k14 k15 k16 k17 k18 k19 k20 k21 k22 k23 k24 k25 : AV), (envL prog).loop (runC (envL prog) (l14x0 (envL prog))) [v, w, x2, x3, .bool false, .int .i64 (i : Int), x6, x7, x8, x9, x10, j11, j12, j13, j14, j15, j16, j17, j18, j19, j20, j21, j22, j23, j24, j25] H =
   some (.exit 0, [v, w, x2, x3, .bool false, k5, x6, x7, x8, x9, x10, k11, k12, k13, k14, k15, k16, k17, k18, k19, k20, k21, k22, k23, k24, k25], H) := by
 intro m
 have hl := b.len
 induction m with
 | zero =>
  intro i j11 j12 j13 j14 j15 j16 j17 j18 j19 j20 j21 j22 j23 j24 j25 hi
  obtain rfl : i = zs.length := by omega
  have hd : decide ((zs.length : Int) < (zs.length : Int)) = false := by simp
  rw [loop_run]
  unfold l14x0
  simp -implicitDefEqProofs (maxSteps := 5000000) only [go_sem, Nat.reduceShiftRight, Nat.reduceAnd, Nat.reduceBNe, Int.reduceEq, Nat.reduceAdd, Nat.reduceSub, Nat.reduceMul, Nat.reduceLeDiff, reduceIte, reduceCtorEq, Nat.reduceBEq, Nat.reduceEqDiff, go_sem, hl, hd, seqR_exit']
  exact ⟨_, _, _, _, _, _, _, _, _, _, _, _, _, _, _, _, rfl⟩
 | succ m ih =>
  intro i j11 j12 j13 j14 j15 j16 j17 j18 j19 j20 j21 j22 j23 j24 j25 hi
  have hlt : i < zs.length := by omega
  have hd : decide ((i : Int) < (zs.length : Int)) = true := by simp; omega
  have h2 : IntKind.i64.wrap ((i : Int) + 1) = ((i + 1 : Nat) : Int) := by rw [wrap64 (by omega) (by omega)]; omega
  obtain ⟨a1, ha1, hl1⟩ := b.idx (List.getElem?_eq_getElem hlt) .i64
  obtain ⟨a2, ha2, hl2⟩ := c.idx (List.getElem?_eq_getElem hlt) .i64
  have hne : (zs[i]'hlt != zs[i]'hlt) = false := by simp
  obtain ⟨k5, k11, k12, k13, k14, k15, k16, k17, k18, k19, k20, k21, k22, k23, k24, k25, e⟩ := ih (i + 1) (.int .i64 i) v (.int .i64 zs.length) (.bool true) (.int .i64 i) (.int .i64 ((i + 1 : Nat) : Int)) v (.int .i64 i) a1 (.int .i64 (zs[i]'hlt)) w (.int .i64 i) a2 (.int .i64 (zs[i]'hlt)) (.bool false) (by omega)
  refine ⟨k5, k11, k12, k13, k14, k15, k16, k17, k18, k19, k20, k21, k22, k23, k24, k25, ?_⟩
  rw [← e, loop_run]
  conv => lhs; arg 1; unfold l14x0
  simp -implicitDefEqProofs (maxSteps := 5000000) only [go_sem, Nat.reduceShiftRight, Nat.reduceAnd, Nat.reduceBNe, Int.reduceEq, Nat.reduceAdd, Nat.reduceSub, Nat.reduceMul, Nat.reduceLeDiff, reduceIte, reduceCtorEq, Nat.reduceBEq, Nat.reduceEqDiff, go_sem, hl, hd, h2, ha1, hl1, ha2, hl2, hne]
theorem intsC {H : AHeap} {v w : AV} {zs : List Int} (b : IS H v zs) (c : IS H w zs) (hn : zs.length ≤ 1000000) : (envL prog).call 14 [v, w] H = some (.bool true, H) := by
 obtain ⟨k5, k11, k12, k13, k14, k15, k16, k17, k18, k19, k20, k21, k22, k23, k24, k25, e⟩ := intsL b c hn .undef .undef v (.int .i64 zs.length) w (.int .i64 zs.length) (.bool false) zs.length 0 .undef .undef .undef .undef .undef .undef .undef .undef .undef .undef .undef .undef .undef .undef .undef (by omega)
 have hl := b.len
 have hl2 := c.len
 have hne : ((zs.length : Int) != (zs.length : Int)) = false := by simp
 rw [show ((0 : Nat) : Int) = 0 from rfl] at e
 rw [c14]
 unfold b14
 simp -implicitDefEqProofs (maxSteps := 5000000) only [go_sem, Nat.reduceShiftRight, Nat.reduceAnd, Nat.reduceBNe, Int.reduceEq, Nat.reduceAdd, Nat.reduceSub, Nat.reduceMul, Nat.reduceLeDiff, reduceIte, reduceCtorEq, Nat.reduceBEq, Nat.reduceEqDiff, go_sem, runC_loop, hl, hl2, hne, e]
def cnt (z : Int) : Nat → Nat
 | 0 => 0
 | r + 1 => cnt z r + if bitB z r then 1 else 0
theorem cnt_ones : ∀ z : Fin 256, ((cnt (z : Int) 8 : Nat) : Int) = ones (z : Int) := by decide +kernel
theorem hasS_at {zs : List Int} {q r : Nat} (hr : r < 8) (hq : q < zs.length) : hasS zs ((8 * q + r : Nat) : Int) = bitB (zs[q]'hq) (r : Int) := by
 unfold hasS
 have e1 : (((8 * q + r : Nat) : Int)).tdiv 8 = (q : Int) := by rw [Int.tdiv_eq_ediv_of_nonneg (by omega)]; omega
 have e2 : (((8 * q + r : Nat) : Int)).tmod 8 = (r : Int) := by rw [Int.tmod_eq_emod_of_nonneg (by omega)]; omega
 rw [e1, e2, Int.toNat_natCast, List.getElem?_eq_getElem hq, Option.getD_some]
 have d1 : decide ((((8 * q + r : Nat) : Int)) ≥ 0) = true := by simp; omega
 have d2 : decide ((q : Int) < (zs.length : Int)) = true := by simp; exact hq
 rw [d1, d2]; rfl
theorem allU_at (zs : List Int) (q : Nat) (hq : q < zs.length) : ∀ r, r ≤ 8 → (allU zs (8 * q + r)).length = (allU zs (8 * q)).length + cnt (zs[q]'hq) r
 | 0, _ => by simp [cnt]
 | r + 1, h => by
  have ih := allU_at zs q hq r (by omega)
  rw [← Nat.add_assoc]
  simp only [allU, cnt, hasS_at (show r < 8 by omega) hq]
  split <;> simp [ih]; omega
theorem allU_sum {zs : List Int} (hu : IsU8 zs) : ∀ q, q ≤ zs.length → ((allU zs (8 * q)).length : Int) = sumO (zs.take q)
 | 0, _ => by simp [allU, sumO]
 | q + 1, h => by
  have hq : q < zs.length := by omega
  have ih := allU_sum hu q (by omega)
  rw [show 8 * (q + 1) = 8 * q + 8 by omega, allU_at zs q hq 8 (Nat.le_refl _), sumO_take (List.getElem?_eq_getElem hq)]
  have hz := hu _ (List.getElem_mem hq)
  have := cnt_ones ⟨(zs[q]'hq).toNat, by omega⟩
  simp only [Int.toNat_of_nonneg hz.1] at this
  omega
theorem count_all {zs : List Int} (hu : IsU8 zs) : sumO zs = ((allS zs).length : Int) := by
 have := allU_sum hu zs.length (Nat.le_refl _)
 rw [List.take_length] at this
 exact this.symm
end Go.Proofs.Ytfioahnogphnfaa.G12.Bt
end
section
namespace Go.Proofs.Ytfioahnogphnfaa.G12.Bt
open Go Go.Proofs.Ytfioahnogphnfaa.Eng
theorem allS_len (zs : List Int) : (allS zs).length ≤ 8 * zs.length := allU_len zs _
theorem rep_u8 (n : Nat) : IsU8 (List.replicate n 0) := fun z hz => by rw [(List.mem_replicate.1 hz).2]; omega
end Go.Proofs.Ytfioahnogphnfaa.G12.Bt
end
section
namespace Go.Proofs.Ytfioahnogphnfaa.G12.Bt
open Go Go.Proofs.Ytfioahnogphnfaa.Eng
theorem u8_nat (x y : Nat) (hx : x < 256) (hy : y < 256) : orI (x : Int) (y : Int) = ((x ||| y : Nat) : Int) := by
 have hlt : x ||| y < 2 ^ 8 := Nat.or_lt_two_pow (by simpa using hx) (by simpa using hy)
 unfold orI
 have e : (BitVec.ofInt 8 (x : Int) ||| BitVec.ofInt 8 (y : Int)).toNat = x ||| y := by
  rw [BitVec.toNat_or]
  simp only [BitVec.ofInt_natCast, BitVec.toNat_ofNat]
  rw [Nat.mod_eq_of_lt (by simpa using hx), Nat.mod_eq_of_lt (by simpa using hy)]
 rw [e]
 unfold IntKind.wrap
 simp only [show IntKind.u8.signed = false from rfl, show IntKind.u8.bits = 8 from rfl, Bool.false_and, Bool.false_eq_true, if_false]
 have : ((x ||| y : Nat) : Int) < 256 := by
  have : x ||| y < 256 := by simpa using hlt
  omega
 omega
theorem bit_test : ∀ z : Fin 256, ∀ r : Fin 8, bitB ((z.1 : Nat) : Int) ((r.1 : Nat) : Int) = z.1.testBit r.1 := by decide +kernel
theorem u8_ex {z : Int} (h : 0 ≤ z ∧ z ≤ 255) : ∃ n : Nat, n < 256 ∧ z = n := ⟨z.toNat, by omega, by omega⟩
theorem bit_or {x y : Int} (hx : 0 ≤ x ∧ x ≤ 255) (hy : 0 ≤ y ∧ y ≤ 255) {r : Nat} (hr : r < 8) : bitB (orI x y) (r : Int) = (bitB x r || bitB y r) := by
 obtain ⟨a, ha, rfl⟩ := u8_ex hx
 obtain ⟨b, hb, rfl⟩ := u8_ex hy
 rw [u8_nat a b ha hb]
 have hlt : a ||| b < 2 ^ 8 := Nat.or_lt_two_pow (by simpa using ha) (by simpa using hb)
 rw [bit_test ⟨a ||| b, by simpa using hlt⟩ ⟨r, hr⟩, bit_test ⟨a, ha⟩ ⟨r, hr⟩, bit_test ⟨b, hb⟩ ⟨r, hr⟩]
 simp
def byteAt (zs : List Int) (q : Nat) : Int := (zs[q]?).getD 0
theorem byteAt_u8 {zs : List Int} (h : IsU8 zs) (q : Nat) : 0 ≤ byteAt zs q ∧ byteAt zs q ≤ 255 := by
 unfold byteAt
 cases e : zs[q]? with
 | none => simp
 | some z => exact h z (List.mem_of_getElem? e)
theorem hasS_nat (zs : List Int) (j : Nat) : hasS zs (j : Int) = bitB (byteAt zs (j / 8)) ((j % 8 : Nat) : Int) := by
 unfold hasS byteAt
 have e1 : ((j : Int)).tdiv 8 = ((j / 8 : Nat) : Int) := by rw [Int.tdiv_eq_ediv_of_nonneg (by omega)]; omega
 have e2 : ((j : Int)).tmod 8 = ((j % 8 : Nat) : Int) := by rw [Int.tmod_eq_emod_of_nonneg (by omega)]; omega
 rw [e1, e2, Int.toNat_natCast]
 by_cases h : j / 8 < zs.length
 ·have d1 : decide ((j : Int) ≥ 0) = true := by simp
  have d2 : decide (((j / 8 : Nat) : Int) < (zs.length : Int)) = true := by simp only [decide_eq_true_eq]; omega
  rw [d1, d2]; rfl
 ·have d2 : decide (((j / 8 : Nat) : Int) < (zs.length : Int)) = false := by simp only [decide_eq_false_iff_not]; omega
  rw [d2, List.getElem?_eq_none (by omega)]
  have := bit_test ⟨0, by omega⟩ ⟨j % 8, by omega⟩
  simp only [Bool.and_false, Bool.false_and, Option.getD_none]
  exact (this.trans (by simp)).symm
theorem hasS_neg (zs : List Int) {j : Int} (h : j < 0) : hasS zs j = false := by
 unfold hasS
 have d1 : decide (j ≥ 0) = false := by simp; omega
 rw [d1]; rfl
theorem orI_zero {x : Int} (hx : 0 ≤ x ∧ x ≤ 255) : orI x 0 = x := by
 obtain ⟨a, ha, rfl⟩ := u8_ex hx
 have := u8_nat a 0 ha (by omega)
 simpa using this
theorem orI_comm (x y : Int) : orI x y = orI y x := by unfold orI; rw [BitVec.or_comm]
theorem orL_at : ∀ (p q : List Int) (i : Nat), IsU8 p → q.length ≤ p.length → byteAt (orL p q) i = orI (byteAt p i) (byteAt q i)
 | [], [], i, _, _ => by simp [orL, byteAt, orI_zero]
 | [], _ :: _, _, _, h => by simp at h
 | x :: p, [], i, hp, _ => by rw [orL_nil]; exact (orI_zero (byteAt_u8 hp i)).symm
 | x :: p, y :: q, 0, _, _ => by simp [orL, byteAt]
 | x :: p, y :: q, i + 1, hp, h => by
  have := orL_at p q i (fun z hz => hp z (by simp [hz])) (by simpa using h)
  simpa [orL, byteAt] using this
theorem orS_at {xs ys : List Int} (hx : IsU8 xs) (hy : IsU8 ys) (i : Nat) : byteAt (orS xs ys) i = orI (byteAt xs i) (byteAt ys i) := by
 unfold orS
 split
 ·rw [orL_at _ _ _ hy (by omega), orI_comm]
 ·rw [orL_at _ _ _ hx (by omega)]
theorem orS_len (xs ys : List Int) : (orS xs ys).length = max xs.length ys.length := by
 unfold orS
 split <;> rw [orL_len] <;> omega
theorem has_or {xs ys : List Int} (hx : IsU8 xs) (hy : IsU8 ys) (j : Int) : hasS (orS xs ys) j = (hasS xs j || hasS ys j) := by
 by_cases h : j < 0
 ·rw [hasS_neg _ h, hasS_neg _ h, hasS_neg _ h]; rfl
 ·obtain ⟨n, rfl⟩ : ∃ n : Nat, j = n := ⟨j.toNat, by omega⟩
  rw [hasS_nat, hasS_nat, hasS_nat, orS_at hx hy, bit_or (byteAt_u8 hx _) (byteAt_u8 hy _) (Nat.mod_lt _ (by omega))]
theorem hasS_high {zs : List Int} {j : Nat} (h : 8 * zs.length ≤ j) : hasS zs (j : Int) = false := by
 rw [hasS_nat]
 unfold byteAt
 rw [List.getElem?_eq_none (by omega)]
 exact (bit_test ⟨0, by omega⟩ ⟨j % 8, by omega⟩).trans (by simp)
theorem allU_mem {zs : List Int} : ∀ {i : Nat} {z : Int}, z ∈ allU zs i → 0 ≤ z ∧ z < i ∧ hasS zs z = true
 | 0, z, h => by simp [allU] at h
 | i + 1, z, h => by
  simp only [allU] at h
  split at h
  ·rename_i hh
   rcases List.mem_append.1 h with h | h
   ·obtain ⟨h1, h2, h3⟩ := allU_mem h
    exact ⟨h1, by omega, h3⟩
   ·simp at h; subst h; exact ⟨by omega, by omega, hh⟩
  ·obtain ⟨h1, h2, h3⟩ := allU_mem h
   exact ⟨h1, by omega, h3⟩
theorem allU_sorted (zs : List Int) : ∀ i, (allU zs i).Pairwise (· < ·)
 | 0 => by simp [allU]
 | i + 1 => by
  simp only [allU]
  split
  ·refine List.pairwise_append.2 ⟨allU_sorted zs i, by simp, fun a ha b hb => ?_⟩
   simp at hb; subst hb
   exact (allU_mem ha).2.1
  ·exact allU_sorted zs i
end Go.Proofs.Ytfioahnogphnfaa.G12.Bt
end
section
namespace Go.Proofs.Ytfioahnogphnfaa.G12
open Go Go.Proofs.Ytfioahnogphnfaa.Eng
theorem tySn : (ty 3 true 56 [AV.int .i64 0, .nilSl, .nilSl]).size = 3 := rfl
theorem tySb : (ty 3 true 56 [AV.int .i64 0, .nilSl, .nilSl]).bytes = 56 := rfl
theorem fits_get {L : List SnS} (f : Fits L) {i : Nat} {s : SnS} (h : L[i]? = some s) : s.Fit := f.2 s (List.mem_of_getElem? h)
section
variable {H : AHeap} {v : AV} {L : List SnS} (g : IsC H v L) (fi : Fits L)
include g fi
theorem gc_cut {H K : AHeap} {v : AV} {rows : List (List AV)} {L : List SnS} (a : Adds H K) (gk : Gc K H.length v L rows) : ∃ K', trim H (some (v, K)) = some (v, K') ∧ Adds H K' ∧ ∃ rows, Gc K' H.length v L rows := by
 rcases trim_adds (v := v) a with e | ⟨u, e⟩
 ·exact ⟨K, e, a, rows, gk⟩
 ·refine ⟨H, e, Adds.refl H, ?_⟩
  rcases gk.g with ⟨rfl, rfl⟩ | ⟨_, b, hb, rfl, _⟩
  ·have : L = [] := List.length_eq_zero_iff.1 gk.ch.len.symm
   subst this; exact ⟨[], Gc.nil H _⟩
  ·simp [AV.under] at u; omega
end
section
variable {H : AHeap} {v w : AV} {L M : List SnS} (g : IsC H v L) (f : IsC H w M) (fL : Fits L) (fM : Fits M)
include g f fL fM
end
end Go.Proofs.Ytfioahnogphnfaa.G12
end
section
namespace Go.Proofs.Ytfioahnogphnfaa.G12
open Go Go.Proofs.Ytfioahnogphnfaa.Eng
structure ChV (H : AHeap) (v : AV) (L : List SnS) : Prop where
 cell : cellsA v = some [v] ∧ v.isCell = true
 len : lenSl v = some (.int .i64 L.length)
 row : ∀ (i : Nat) (s : SnS), L[i]? = some s → ∃ b q cs vc vt, idxAddrS 3 v (.int .i64 (i : Int)) = some (.ptr b q) ∧ cellsOf H b = some cs ∧ (cs.drop q).take 3 = [.int .i64 s.id, vc, vt] ∧ q + 3 ≤ cs.length ∧ BS H vc s.ch ∧ IsP H vt s.tb
theorem ChV.adds {H H' : AHeap} {v : AV} {L : List SnS} (g : ChV H v L) (a : Adds H H') : ChV H' v L :=
 ⟨g.cell, g.len, fun i s h => by obtain ⟨b, q, cs, vc, vt, h1, h2, h3, h4, h5, h6⟩ := g.row i s h; exact ⟨b, q, cs, vc, vt, h1, a.cells h2, h3, h4, a.bs h5, h6.adds a⟩⟩
theorem isC_chv {H : AHeap} {v : AV} {L : List SnS} (g : IsC H v L) : ChV H v L :=
 ⟨g.cell, g.len, fun i s h => by obtain ⟨b, cs, vc, vt, _, h1, h2, _, _, _, h3, h4, h5, h6⟩ := g.idx h; exact ⟨b, _, cs, vc, vt, h1, h2, h3, h4, h5, h6⟩⟩
theorem findF {H : AHeap} {v : AV} {l : List PrS} (g : IsP H v l) (hl : l.length ≤ 1000000) (b : Int) : (envL prog).call 28 [v, .int .i64 b] H = some (.tup [.int .i64 (fnd l b), .bool (decide (0 ≤ idxS l b))], H) := findC g hl b
theorem fromCV {H : AHeap} {v : AV} {L : List SnS} (g : ChV H v L) (i : Int) : (envL prog).call 27 [v, .int .i64 i] H = some (.fn 38 [.ptr (H.length + 1) 0, .ptr H.length 0], H ++ [.rw [v], .rw [.int .i64 i]]) := by
 have hc := g.cell
 rw [c27]
 unfold b27
 simp -implicitDefEqProofs (maxSteps := 5000000) only [go_sem, Nat.reduceShiftRight, Nat.reduceAnd, Nat.reduceBNe, Int.reduceEq, Nat.reduceAdd, Nat.reduceSub, Nat.reduceMul, Nat.reduceLeDiff, reduceIte, reduceCtorEq, Nat.reduceBEq, Nat.reduceEqDiff, wrap64, runC_loop, runC_range, callF_fn, callV_fn, callV_yld, yield_eq, yieldBody, yieldRaw, roundMid, roundEnd, rangeEnd, Bool.not_not, put_cons, put_nil, trim_same, at_zero, at_add, set_zero, set_add, store_one, write_zero, write_add, write_head, write_succ, splice_one, splice_more, List.drop_nil, List.take_nil, cell_int, cell_bool, fillS, splice_one, idxA, Ex.isNormal, List.set_nil, List.length_set, List.all_cons, List.all_nil, Bool.and_self, and_self, true_and, and_true, List.getElem?_nil, Int.reduceLT, Int.reduceLE, Int.reduceToNat, Int.toNat_zero, Int.toNat_one, Int.reduceAdd, Int.reduceSub, Int.reduceMul, Int.reduceNeg, Int.reduceBEq, Int.reduceBNe, Int.reduceGE, Int.reduceGT, Nat.reduceLT, trim_keep, under_fn, under_ptr, under_sl, Nat.lt_irrefl, not_lt_add, trim_tail, keepOk, ABlk.vals, Int.cast_ofNat_Int, decide_true, decide_false, List.all_cons, List.all_nil, Nat.zero_mul, Nat.mul_one, Nat.one_mul, hc.1]
section
variable {H0 : AHeap} {v : AV} {L : List SnS} (g0 : ChV H0 v L) {p q y : Nat} {P : Nat → AHeap → Prop} {Q : AHeap → Prop} (fl : L.length ≤ 100)
 (hP : ∀ i K, P i K → K[p]? = some (.rw [.int .i64 (i : Int)]) ∧ cellsOf K q = some [v] ∧ Adds H0 K)
 (hy : ∀ i K s vc vt, P i K → L[i]? = some s → BS H0 vc s.ch → IsP H0 vt s.tb → ∃ K', ((envL prog).yield y [.int .i64 (i : Int), .agg [.int .i64 s.id, vc, vt]] K = some (.bool true, K') ∧ K'[p]? = some (.rw [.int .i64 (i : Int)]) ∧ P (i + 1) (K'.set p (.rw [.int .i64 ((i + 1 : Nat) : Int)]))) ∨ ((envL prog).yield y [.int .i64 (i : Int), .agg [.int .i64 s.id, vc, vt]] K = some (.bool false, K') ∧ Q K'))
include g0 fl hP hy
set_option maxHeartbeats 4000000 in
theorem fromL (x3 x4 x5 : AV) : ∀ (k i : Nat) (K : AHeap) (j6 j7 j8 j9 j10 j11 j12 j13 j14 j15 j16 j17 j18 j19 : AV), P i K → L.length - i ≤ k →
  Outs (LP1 l38x0 [.yld y, .ptr p 0, .ptr q 0, x3, x4, x5, j6, j7, j8, j9, j10, j11, j12, j13, j14, j15, j16, j17, j18, j19] K) fun e t K' => (e = .exit 0 ∧ ∃ j, L.length ≤ j ∧ i ≤ j ∧ (i ≤ L.length → j = L.length) ∧ P j K') ∨ (e = .ret ∧ Q K') := by
 intro k
 obtain ⟨L0, hL0⟩ : ∃ L, L = LP1 l38x0 := ⟨_, rfl⟩
 have lo := loop_open hL0
 rw [← hL0]
 induction k with
 | zero =>
  intro i K j6 j7 j8 j9 j10 j11 j12 j13 j14 j15 j16 j17 j18 j19 pK hi
  obtain ⟨c0, c1, a0⟩ := hP i K pK
  have c0 := cells_rw c0
  have wl := g0.len
  have hd : decide ((i : Int) < (L.length : Int)) = false := decide_eq_false (by omega)
  rw [lo]
  unfold l38x0
  simp -implicitDefEqProofs (maxSteps := 5000000) only [go_sem, Nat.reduceShiftRight, Nat.reduceAnd, Nat.reduceBNe, Int.reduceEq, Nat.reduceAdd, Nat.reduceSub, Nat.reduceMul, Nat.reduceLeDiff, reduceIte, reduceCtorEq, Nat.reduceBEq, Nat.reduceEqDiff, c0, c1, wl, hd, seqR_exit', outs_normal]
  exact .inl ⟨i, by omega, Nat.le_refl _, fun _ => by omega, pK⟩
 | succ k ih =>
  intro i K j6 j7 j8 j9 j10 j11 j12 j13 j14 j15 j16 j17 j18 j19 pK hi
  obtain ⟨c0, c1, a0⟩ := hP i K pK
  have c0 := cells_rw c0
  have wl := g0.len
  by_cases hlt : i < L.length
  ·have hd : decide ((i : Int) < (L.length : Int)) = true := decide_eq_true (by omega)
   have e2 : IntKind.i64.wrap ((i : Int) + 1) = ((i + 1 : Nat) : Int) := by rw [wrap64 (by omega) (by omega)]; omega
   have hx := List.getElem?_eq_getElem hlt
   generalize L[i] = s at *
   obtain ⟨bb, q0, cs, vc, vt, ix, hc0, ht, hle, hbs, hip⟩ := g0.row _ _ hx
   have hc := a0.cells hc0
   obtain ⟨K', ⟨ey, p', pn⟩ | ⟨ey, qn⟩⟩ := hy i K s vc vt pK hx hbs hip
   ·have cp := cells_rw p'
    have wr : writeN K' p 0 [.int .i64 ((i + 1 : Nat) : Int)] = some (K'.set p (.rw [.int .i64 ((i + 1 : Nat) : Int)])) := by
     rw [write_of p', if_pos ⟨by simp, rfl⟩, splice_one]; rfl
    have key := ih (i + 1) (K'.set p (.rw [.int .i64 ((i + 1 : Nat) : Int)]))
    rw [lo]
    unfold l38x0
    simp -implicitDefEqProofs (maxSteps := 5000000) only [go_sem, Nat.reduceShiftRight, Nat.reduceAnd, Nat.reduceBNe, Int.reduceEq, Nat.reduceAdd, Nat.reduceSub, Nat.reduceMul, Nat.reduceLeDiff, reduceIte, reduceCtorEq, Nat.reduceBEq, Nat.reduceEqDiff, wrap64, runC_loop, runC_range, callF_fn, callV_fn, callV_yld, Bool.not_not, put_cons, put_nil, trim_same, at_zero, at_add, set_zero, set_add, store_one, write_zero, write_add, write_head, write_succ, splice_one, splice_more, List.drop_nil, List.take_nil, cell_int, cell_bool, fillS, splice_one, idxA, Ex.isNormal, List.set_nil, List.length_set, List.all_cons, List.all_nil, Bool.and_self, and_self, true_and, and_true, List.getElem?_nil, Int.reduceLT, Int.reduceLE, Int.reduceToNat, Int.toNat_zero, Int.toNat_one, Int.reduceAdd, Int.reduceSub, Int.reduceMul, Int.reduceNeg, Int.reduceBEq, Int.reduceBNe, Int.reduceGE, Int.reduceGT, Nat.reduceLT, trim_keep, under_fn, under_ptr, under_sl, Nat.lt_irrefl, not_lt_add, trim_tail, keepOk, ABlk.vals, Int.cast_ofNat_Int, decide_true, decide_false, List.all_cons, List.all_nil, Nat.zero_mul, Nat.mul_one, Nat.one_mul, c0, c1, wl, hd, ix, hc, ht, hle, ey, cp, e2, wr]
    refine (key _ _ _ _ _ _ _ _ _ _ _ _ _ _ pn (by omega)).mono fun e t K h => ?_
    rcases h with ⟨he, j, h1, h2, h3, h4⟩ | h
    ·exact .inl ⟨he, j, h1, by omega, fun _ => h3 (by omega), h4⟩
    ·exact .inr h
   ·rw [lo]
    unfold l38x0
    simp -implicitDefEqProofs (maxSteps := 5000000) only [go_sem, Nat.reduceShiftRight, Nat.reduceAnd, Nat.reduceBNe, Int.reduceEq, Nat.reduceAdd, Nat.reduceSub, Nat.reduceMul, Nat.reduceLeDiff, reduceIte, reduceCtorEq, Nat.reduceBEq, Nat.reduceEqDiff, wrap64, runC_loop, runC_range, callF_fn, callV_fn, callV_yld, Bool.not_not, put_cons, put_nil, trim_same, at_zero, at_add, set_zero, set_add, store_one, write_zero, write_add, write_head, write_succ, splice_one, splice_more, List.drop_nil, List.take_nil, cell_int, cell_bool, fillS, splice_one, idxA, Ex.isNormal, List.set_nil, List.length_set, List.all_cons, List.all_nil, Bool.and_self, and_self, true_and, and_true, List.getElem?_nil, Int.reduceLT, Int.reduceLE, Int.reduceToNat, Int.toNat_zero, Int.toNat_one, Int.reduceAdd, Int.reduceSub, Int.reduceMul, Int.reduceNeg, Int.reduceBEq, Int.reduceBNe, Int.reduceGE, Int.reduceGT, Nat.reduceLT, trim_keep, under_fn, under_ptr, under_sl, Nat.lt_irrefl, not_lt_add, trim_tail, keepOk, ABlk.vals, Int.cast_ofNat_Int, decide_true, decide_false, List.all_cons, List.all_nil, Nat.zero_mul, Nat.mul_one, Nat.one_mul, c0, c1, wl, hd, ix, hc, ht, hle, ey, outs_normal]
    exact .inr qn
  ·have hd : decide ((i : Int) < (L.length : Int)) = false := decide_eq_false (by omega)
   rw [lo]
   unfold l38x0
   simp -implicitDefEqProofs (maxSteps := 5000000) only [go_sem, Nat.reduceShiftRight, Nat.reduceAnd, Nat.reduceBNe, Int.reduceEq, Nat.reduceAdd, Nat.reduceSub, Nat.reduceMul, Nat.reduceLeDiff, reduceIte, reduceCtorEq, Nat.reduceBEq, Nat.reduceEqDiff, c0, c1, wl, hd, seqR_exit', outs_normal]
   exact .inl ⟨i, by omega, Nat.le_refl _, fun _ => by omega, pK⟩
theorem fromAllV {i : Nat} {K : AHeap} (pK : P i K) : ∃ K', (envL prog).call 38 [.yld y, .ptr p 0, .ptr q 0] K = trim K (some (.tup [], K')) ∧ ((∃ j, L.length ≤ j ∧ i ≤ j ∧ (i ≤ L.length → j = L.length) ∧ P j K') ∨ Q K') := by
 obtain ⟨c0, c1, a0⟩ := hP i K pK
 have c0 := cells_rw c0
 have l0 := fromL g0 fl hP hy (k := L.length) (i := i) (K := K)
 have key : Outs (runC (envL prog) (b38 (envL prog)) ([.yld y, .ptr p 0, .ptr q 0] ++ List.replicate (20 - [AV.yld y, .ptr p 0, .ptr q 0].length) .undef) K) fun e' t K' => ((∃ j, L.length ≤ j ∧ i ≤ j ∧ (i ≤ L.length → j = L.length) ∧ P j K') ∨ Q K') ∧ fin [] (some (e', t, K')) = some (.tup [], K') := by
  unfold b38
  generalize hQ : (fun (e' : Ex) (t : T) (K' : AHeap) => ((∃ j, L.length ≤ j ∧ i ≤ j ∧ (i ≤ L.length → j = L.length) ∧ P j K') ∨ Q K') ∧ fin [] (some (e', t, K')) = some (AV.tup [], K')) = Q1
  have dn : decide ((i : Int) < 0) = false := decide_eq_false (by omega)
  simp -implicitDefEqProofs (maxSteps := 5000000) only [go_sem, Nat.reduceShiftRight, Nat.reduceAnd, Nat.reduceBNe, Int.reduceEq, Nat.reduceAdd, Nat.reduceSub, Nat.reduceMul, Nat.reduceLeDiff, reduceIte, reduceCtorEq, Nat.reduceBEq, Nat.reduceEqDiff, wrap64, runC_loop, runC_range, callF_fn, callV_fn, callV_yld, yield_eq, yieldBody, yieldRaw, roundMid, roundEnd, rangeEnd, Bool.not_not, put_cons, put_nil, trim_same, at_zero, at_add, set_zero, set_add, store_one, write_zero, write_add, write_head, write_succ, splice_one, splice_more, List.drop_nil, List.take_nil, cell_int, cell_bool, fillS, splice_one, idxA, Ex.isNormal, List.set_nil, List.length_set, List.all_cons, List.all_nil, Bool.and_self, and_self, true_and, and_true, List.getElem?_nil, Int.reduceLT, Int.reduceLE, Int.reduceToNat, Int.toNat_zero, Int.toNat_one, Int.reduceAdd, Int.reduceSub, Int.reduceMul, Int.reduceNeg, Int.reduceBEq, Int.reduceBNe, Int.reduceGE, Int.reduceGT, Nat.reduceLT, trim_keep, under_fn, under_ptr, under_sl, Nat.lt_irrefl, not_lt_add, trim_tail, keepOk, ABlk.vals, Int.cast_ofNat_Int, decide_true, decide_false, List.all_cons, List.all_nil, Nat.zero_mul, Nat.mul_one, Nat.one_mul, runC_loop, c0, dn]
  unfold LP1 at l0
  generalize (envL prog).loop (runC (envL prog) (l38x0 (envL prog))) = L0 at l0 ⊢
  refine outs_ctx (fun r => blockR 0 r) (l0 _ _ _ _ _ _ _ _ _ _ _ _ _ _ _ _ _ pK (by omega)) ?_
  rintro e t K' (⟨rfl, h⟩ | ⟨rfl, h⟩)
  ·simp -implicitDefEqProofs (maxSteps := 5000000) only [go_sem, Nat.reduceShiftRight, Nat.reduceAnd, Nat.reduceBNe, Int.reduceEq, Nat.reduceAdd, Nat.reduceSub, Nat.reduceMul, Nat.reduceLeDiff, reduceIte, reduceCtorEq, Nat.reduceBEq, Nat.reduceEqDiff, outs_normal]
   subst hQ
   exact ⟨.inl h, rfl⟩
  ·simp -implicitDefEqProofs (maxSteps := 5000000) only [go_sem, Nat.reduceShiftRight, Nat.reduceAnd, Nat.reduceBNe, Int.reduceEq, Nat.reduceAdd, Nat.reduceSub, Nat.reduceMul, Nat.reduceLeDiff, reduceIte, reduceCtorEq, Nat.reduceBEq, Nat.reduceEqDiff, outs_normal]
   subst hQ
   exact ⟨.inr h, rfl⟩
 obtain ⟨e', t, K', hr, hh, hf⟩ := key
 exact ⟨K', by rw [c38, hr, hf], hh⟩
end
theorem fromC {H : AHeap} {v : AV} {L : List SnS} (g : IsC H v L) (i : Int) : (envL prog).call 27 [v, .int .i64 i] H = some (.fn 38 [.ptr (H.length + 1) 0, .ptr H.length 0], H ++ [.rw [v], .rw [.int .i64 i]]) := fromCV (isC_chv g) i
section
variable {H0 : AHeap} {v : AV} {L : List SnS} (g0 : IsC H0 v L) {p q y : Nat} {P : Nat → AHeap → Prop} {Q : AHeap → Prop} (fl : L.length ≤ 100)
 (hP : ∀ i K, P i K → K[p]? = some (.rw [.int .i64 (i : Int)]) ∧ cellsOf K q = some [v] ∧ Adds H0 K)
 (hy : ∀ i K s vc vt, P i K → L[i]? = some s → BS H0 vc s.ch → IsP H0 vt s.tb → ∃ K', ((envL prog).yield y [.int .i64 (i : Int), .agg [.int .i64 s.id, vc, vt]] K = some (.bool true, K') ∧ K'[p]? = some (.rw [.int .i64 (i : Int)]) ∧ P (i + 1) (K'.set p (.rw [.int .i64 ((i + 1 : Nat) : Int)]))) ∨ ((envL prog).yield y [.int .i64 (i : Int), .agg [.int .i64 s.id, vc, vt]] K = some (.bool false, K') ∧ Q K'))
include g0 fl hP hy
theorem fromAll {i : Nat} {K : AHeap} (pK : P i K) : ∃ K', (envL prog).call 38 [.yld y, .ptr p 0, .ptr q 0] K = trim K (some (.tup [], K')) ∧ ((∃ j, L.length ≤ j ∧ i ≤ j ∧ (i ≤ L.length → j = L.length) ∧ P j K') ∨ Q K') := fromAllV (isC_chv g0) fl hP hy pK
end
theorem fromNeg {K : AHeap} {p q y : Nat} {i : Int} (hi : i < 0) (c0 : cellsOf K p = some [.int .i64 i]) : (envL prog).call 38 [.yld y, .ptr p 0, .ptr q 0] K = some (.tup [], K) := by
 have dn : decide (i < 0) = true := decide_eq_true hi
 rw [c38]
 unfold b38
 simp -implicitDefEqProofs (maxSteps := 5000000) only [go_sem, Nat.reduceShiftRight, Nat.reduceAnd, Nat.reduceBNe, Int.reduceEq, Nat.reduceAdd, Nat.reduceSub, Nat.reduceMul, Nat.reduceLeDiff, reduceIte, reduceCtorEq, Nat.reduceBEq, Nat.reduceEqDiff, wrap64, runC_loop, runC_range, callF_fn, callV_fn, callV_yld, yield_eq, yieldBody, yieldRaw, roundMid, roundEnd, rangeEnd, Bool.not_not, put_cons, put_nil, trim_same, at_zero, at_add, set_zero, set_add, store_one, write_zero, write_add, write_head, write_succ, splice_one, splice_more, List.drop_nil, List.take_nil, cell_int, cell_bool, fillS, splice_one, idxA, Ex.isNormal, List.set_nil, List.length_set, List.all_cons, List.all_nil, Bool.and_self, and_self, true_and, and_true, List.getElem?_nil, Int.reduceLT, Int.reduceLE, Int.reduceToNat, Int.toNat_zero, Int.toNat_one, Int.reduceAdd, Int.reduceSub, Int.reduceMul, Int.reduceNeg, Int.reduceBEq, Int.reduceBNe, Int.reduceGE, Int.reduceGT, Nat.reduceLT, trim_keep, under_fn, under_ptr, under_sl, Nat.lt_irrefl, not_lt_add, trim_tail, keepOk, ABlk.vals, Int.cast_ofNat_Int, decide_true, decide_false, List.all_cons, List.all_nil, Nat.zero_mul, Nat.mul_one, Nat.one_mul, c0, dn]
end Go.Proofs.Ytfioahnogphnfaa.G12
end
section
namespace Go.Proofs.Ytfioahnogphnfaa.G12
open Go Go.Proofs.Ytfioahnogphnfaa.Eng
noncomputable abbrev HolL (s : LoopState) (e : Ex) (t : T) : ABlk := .loop ⟨s, e, t, [13, 14], kaq13x0, kbq13x0⟩
structure HolY (H : AHeap) (v : AV) (b : Int) (x : Int × Bool) (s : LoopState) (e : Ex) (t : T) (K : AHeap) : Prop where
 old : ∀ b, b < H.length → K[b]? = H[b]?
 len : H.length + 6 ≤ K.length
 blk : K[H.length]? = some (.rw [.int .i64 b])
 at_ : K[H.length + 1]? = some (.rw [.int .i64 x.1])
 ok : K[H.length + 2]? = some (.rw [.bool x.2])
 lb : K[H.length + 3]? = some (.rw [v])
 lp : K[H.length + 5]? = some (HolL s e t)
structure HolP (H : AHeap) (v : AV) (L : List SnS) (b : Int) (ans : Int × Bool) (t : T) (i : Nat) (K : AHeap) : Prop where
 y : HolY H v b (0, false) .ready .normal t K
 ib : K[H.length + 4]? = some (.rw [.int .i64 (i : Int)])
 inv : ans = holdF b (L.drop i)
theorem snAlloc {K : AHeap} {s : SnS} {vc vt : AV} (hbs : BS K vc s.ch) (hip : IsP K vt s.tb) : writeN (K ++ [ABlk.rw [AV.int .i64 0, .nilSl, .nilSl]]) K.length 0 [.int .i64 s.id, vc, vt] = some (K ++ [ABlk.rw [.int .i64 s.id, vc, vt]]) := by
 rw [write_zero, if_pos ⟨by simp, by have := hbs.cell.2; have := hip.cell.2; simp only [List.all_cons, List.all_nil, Bool.and_true, *]; rfl⟩]; rfl
section
variable {H : AHeap} {v : AV} {L : List SnS} (g : ChV H v L) (fi : Fits L) (b : Int)
include g fi
set_option maxHeartbeats 4000000 in
theorem holRound {ans : Int × Bool} {t : T} (ht : t.length = 24) (t5 : getT t 5 = .ptr H.length 0) (t6 : getT t 6 = .ptr (H.length + 1) 0) (t7 : getT t 7 = .ptr (H.length + 2) 0) {i : Nat} {K : AHeap} {s : SnS} {vc vt : AV} (y : HolP H v L b ans t i K) (hx : L[i]? = some s) (hbs : BS K vc s.ch) (hip : IsP K vt s.tb) :
  ∃ K', ((envL prog).yield (H.length + 5) [.int .i64 (i : Int), .agg [.int .i64 s.id, vc, vt]] K = some (.bool true, K') ∧ K'[H.length + 4]? = some (.rw [.int .i64 (i : Int)]) ∧ HolP H v L b ans t (i + 1) (K'.set (H.length + 4) (.rw [.int .i64 ((i + 1 : Nat) : Int)]))) ∨ ((envL prog).yield (H.length + 5) [.int .i64 (i : Int), .agg [.int .i64 s.id, vc, vt]] K = some (.bool false, K') ∧ HolY H v b ans .done .ret t K' ∧ ans.2 = true) := by
 have kl := y.y.len
 have ft := fits_get fi hx
 have lt := (List.getElem?_eq_some_iff.1 hx).1
 have inv := y.inv
 rw [List.drop_eq_getElem_cons lt, Option.some.inj ((List.getElem?_eq_getElem lt).symm.trans hx)] at inv
 have w0 := snAlloc hbs hip
 obtain ⟨Kb, hKb⟩ : ∃ Kb, Kb = (K ++ [ABlk.rw [.int .i64 s.id, vc, vt]]).set (H.length + 5) (HolL .busy .normal t) := ⟨_, rfl⟩
 have lb : Kb.length = K.length + 1 := by rw [hKb]; exact busy_len
 have fb : ∀ b, b < K.length → b ≠ H.length + 5 → Kb[b]? = K[b]? := fun b hb hn => by rw [hKb]; exact busy_at hb hn
 have b0 : Kb[H.length]? = some (.rw [.int .i64 b]) := by rw [fb _ (by omega) (by omega)]; exact y.y.blk
 have b1 : Kb[H.length + 1]? = some (.rw [.int .i64 0]) := by rw [fb _ (by omega) (by omega)]; exact y.y.at_
 have b2 : Kb[H.length + 2]? = some (.rw [.bool false]) := by rw [fb _ (by omega) (by omega)]; exact y.y.ok
 have b5 : Kb[H.length + 5]? = some (HolL .busy .normal t) := by rw [hKb]; exact busy_lp (by omega)
 have b6 : Kb[K.length]? = some (.rw [.int .i64 s.id, vc, vt]) := by rw [hKb]; exact busy_new (by omega)
 have frb : Fr K Kb (fun b => b = H.length + 5) := by rw [hKb]; exact busy_fr
 have ef := findF (hip.fr frb (hip.nl y.y.lp)) (by have := ft.lt; omega) b
 have c0 := cells_rw b0
 have c6 := cells_rw b6
 obtain ⟨x1, hx1⟩ : ∃ x, fnd s.tb b = x := ⟨_, rfl⟩
 obtain ⟨x2, hx2⟩ : ∃ x, decide (0 ≤ idxS s.tb b) = x := ⟨_, rfl⟩
 rw [hx1, hx2] at ef
 have w1 := write_one (y := .int .i64 x1) b1 rfl
 have q2 : (Kb.set (H.length + 1) (.rw [.int .i64 x1]))[H.length + 2]? = some (.rw [.bool false]) := by rw [at_set_ne _ _ _ _ (by omega)]; exact b2
 have w2 := write_one (y := .bool x2) q2 rfl
 obtain ⟨Kc, hKc⟩ : ∃ Kc, Kc = (Kb.set (H.length + 1) (.rw [.int .i64 x1])).set (H.length + 2) (.rw [.bool x2]) := ⟨_, rfl⟩
 rw [← hKc] at w2
 have lc : Kc.length = K.length + 1 := by rw [hKc, List.length_set, List.length_set, lb]
 have r2 : Kc[H.length + 2]? = some (.rw [.bool x2]) := by rw [hKc]; exact at_set _ _ _ (by rw [List.length_set]; omega)
 have r1 : Kc[H.length + 1]? = some (.rw [.int .i64 x1]) := by rw [hKc, at_set_ne _ _ _ _ (by omega)]; exact at_set _ _ _ (by omega)
 have ro : ∀ z, z ≠ H.length + 1 → z ≠ H.length + 2 → Kc[z]? = Kb[z]? := fun z h1 h2 => by rw [hKc, at_set_ne _ _ _ _ h2, at_set_ne _ _ _ _ h1]
 have c2 := cells_rw r2
 have c1 := cells_rw r1
 have w3 := write_one (y := .int .i64 x1) r1 rfl
 have q4 : (Kc.set (H.length + 1) (.rw [.int .i64 x1]))[H.length + 2]? = some (.rw [.bool x2]) := by rw [at_set_ne _ _ _ _ (by omega)]; exact r2
 have w4 := write_one (y := .bool true) q4 rfl
 obtain ⟨Kd, hKd⟩ : ∃ Kd, Kd = (Kc.set (H.length + 1) (.rw [.int .i64 x1])).set (H.length + 2) (.rw [.bool true]) := ⟨_, rfl⟩
 rw [← hKd] at w4
 obtain ⟨e, K2, K4, r, ey, h4⟩ := round_gen (P := prog) (l := H.length + 5) (args := [.int .i64 (i : Int), .agg [.int .i64 s.id, vc, vt]]) (K := K) (eaq13x0 _) (ebq13x0 _) y.y.lp rfl (t1 := ((t.set 13 (.int .i64 (i : Int))).set 14 (.agg [.int .i64 s.id, vc, vt])).set 9 (.ptr K.length 0)) (cs := [.int .i64 s.id, vc, vt]) (by
   unfold aq13x0
   simp -implicitDefEqProofs (maxSteps := 5000000) only [go_sem, Nat.reduceShiftRight, Nat.reduceAnd, Nat.reduceBNe, Int.reduceEq, Nat.reduceAdd, Nat.reduceSub, Nat.reduceMul, Nat.reduceLeDiff, reduceIte, reduceCtorEq, Nat.reduceBEq, Nat.reduceEqDiff, putParams, getT_set, ht, List.length_set, Nat.reduceLT, store_one, cellsA_agg, w0])
  (R := fun e K2 => (x2 = false ∧ e = .normal ∧ K2 = Kc) ∨ (x2 = true ∧ e = .ret ∧ K2 = Kd)) (by
   rw [← hKb]
   unfold bq13x0
   cases x2 <;>
   ·simp -implicitDefEqProofs (maxSteps := 5000000) only [go_sem, Nat.reduceShiftRight, Nat.reduceAnd, Nat.reduceBNe, Int.reduceEq, Nat.reduceAdd, Nat.reduceSub, Nat.reduceMul, Nat.reduceLeDiff, reduceIte, reduceCtorEq, Nat.reduceBEq, Nat.reduceEqDiff, wrap64, runC_loop, runC_range, callF_fn, callV_fn, callV_yld, yield_eq, yieldBody, yieldRaw, roundMid, roundEnd, rangeEnd, Bool.not_not, put_cons, put_nil, trim_same, at_zero, at_add, set_zero, set_add, store_one, write_zero, write_add, write_head, write_succ, splice_one, splice_more, List.drop_nil, List.take_nil, cell_int, cell_bool, fillS, splice_one, idxA, Ex.isNormal, List.set_nil, List.length_set, List.all_cons, List.all_nil, Bool.and_self, and_self, true_and, and_true, List.getElem?_nil, Int.reduceLT, Int.reduceLE, Int.reduceToNat, Int.toNat_zero, Int.toNat_one, Int.reduceAdd, Int.reduceSub, Int.reduceMul, Int.reduceNeg, Int.reduceBEq, Int.reduceBNe, Int.reduceGE, Int.reduceGT, Nat.reduceLT, trim_keep, under_fn, under_ptr, under_sl, Nat.lt_irrefl, not_lt_add, trim_tail, keepOk, ABlk.vals, Int.cast_ofNat_Int, decide_true, decide_false, List.all_cons, List.all_nil, Nat.zero_mul, Nat.mul_one, Nat.one_mul, getT_set, ht, t5, t6, t7, List.length_set, Nat.reduceLT, c0, c6, ef, w1, w2, c2, c1, w3, w4, outs_normal]
    simp) (by
   rintro e K2 (⟨_, _, rfl⟩ | ⟨_, _, rfl⟩)
   ·rw [ro _ (by omega) (by omega)]; exact b5
   ·rw [hKd, at_set_ne _ _ _ _ (by omega), at_set_ne _ _ _ _ (by omega), ro _ (by omega) (by omega)]; exact b5)
 rcases r with ⟨hf, he, hk⟩ | ⟨hf, he, hk⟩
 ·rw [hk] at h4; subst he
  rw [hf] at hx2
  have f0 : x1 = 0 := by rw [← hx1]; unfold fnd; rw [if_neg (of_decide_eq_false hx2)]
  have inv2 : ans = holdF b (L.drop (i + 1)) := by rw [inv, holdF, if_neg (of_decide_eq_false hx2)]
  rw [show Ex.isNormal .normal = true from rfl] at ey h4
  simp only [if_true] at h4
  have l4 := two_len h4 (by rw [List.length_set]; omega)
  have a4 := fun {z} (hz : z < K.length) => two_at h4 hz
  have i4 : K4[H.length + 4]? = some (.rw [.int .i64 (i : Int)]) := by rw [a4 (by omega), at_set_ne _ _ _ _ (by omega), ro _ (by omega) (by omega), fb _ (by omega) (by omega)]; exact y.ib
  refine ⟨K4, .inl ⟨ey, i4, ⟨⟨fun z hz => ?_, by rw [List.length_set]; omega, ?_, ?_, ?_, ?_, ?_⟩, at_set _ _ _ (by omega), inv2⟩⟩⟩
  ·rw [at_set_ne _ _ _ _ (by omega), a4 (by omega), at_set_ne _ _ _ _ (by omega), ro _ (by omega) (by omega), fb _ (by omega) (by omega)]; exact y.y.old z hz
  ·rw [at_set_ne _ _ _ _ (by omega), a4 (by omega), at_set_ne _ _ _ _ (by omega), ro _ (by omega) (by omega)]; exact b0
  ·rw [at_set_ne _ _ _ _ (by omega), a4 (by omega), at_set_ne _ _ _ _ (by omega), r1, f0]
  ·rw [at_set_ne _ _ _ _ (by omega), a4 (by omega), at_set_ne _ _ _ _ (by omega), r2, hf]
  ·rw [at_set_ne _ _ _ _ (by omega), a4 (by omega), at_set_ne _ _ _ _ (by omega), ro _ (by omega) (by omega), fb _ (by omega) (by omega)]; exact y.y.lb
  ·rw [at_set_ne _ _ _ _ (by omega), a4 (by omega), at_set _ _ _ (by omega)]
 ·rw [hk] at h4; subst he
  rw [hf] at hx2
  have inv2 : ans = (x1, true) := by rw [inv, holdF, if_pos (of_decide_eq_true hx2), hx1]
  rw [show Ex.isNormal .ret = false from rfl] at ey h4
  simp only [Bool.false_eq_true, if_false] at h4
  have ld : Kd.length = K.length + 1 := by rw [hKd, List.length_set, List.length_set, lc]
  have l4 := two_len h4 (by rw [List.length_set]; omega)
  have a4 := fun {z} (hz : z < K.length) => two_at h4 hz
  have rd : ∀ z, z ≠ H.length + 1 → z ≠ H.length + 2 → Kd[z]? = Kb[z]? := fun z h1 h2 => by rw [hKd, at_set_ne _ _ _ _ h2, at_set_ne _ _ _ _ h1, ro z h1 h2]
  refine ⟨K4, .inr ⟨ey, ⟨fun z hz => ?_, by omega, ?_, ?_, ?_, ?_, ?_⟩, by rw [inv2]⟩⟩
  ·rw [a4 (by omega), at_set_ne _ _ _ _ (by omega), rd _ (by omega) (by omega), fb _ (by omega) (by omega)]; exact y.y.old z hz
  ·rw [a4 (by omega), at_set_ne _ _ _ _ (by omega), rd _ (by omega) (by omega)]; exact b0
  ·rw [a4 (by omega), at_set_ne _ _ _ _ (by omega), hKd, at_set_ne _ _ _ _ (by omega), at_set _ _ _ (by omega), inv2]
  ·rw [a4 (by omega), at_set_ne _ _ _ _ (by omega), hKd, at_set _ _ _ (by rw [List.length_set]; omega), inv2]
  ·rw [a4 (by omega), at_set_ne _ _ _ _ (by omega), rd _ (by omega) (by omega), fb _ (by omega) (by omega)]; exact y.y.lb
  ·rw [a4 (by omega), at_set _ _ _ (by omega)]
set_option maxHeartbeats 4000000 in
theorem holRange (i : Int) {T : T} (ht : T.length = 24) (t5 : getT T 5 = .ptr H.length 0) (t6 : getT T 6 = .ptr (H.length + 1) 0) (t7 : getT T 7 = .ptr (H.length + 2) 0) (tf : getT T 12 = .fn 38 [.ptr (H.length + 4) 0, .ptr (H.length + 3) 0]) :
  Outs (runC (envL prog) (.range (X 12) [13, 14] kaq13x0 kbq13x0) T (H ++ [ABlk.rw [.int .i64 b], .rw [.int .i64 0], .rw [.bool false], .rw [v], .rw [.int .i64 i]])) fun e t K => t = T ∧ ((e = .normal ∧ holdS L i b = (0, false)) ∨ (e = .ret ∧ (holdS L i b).2 = true)) ∧ HolY H v b (holdS L i b) .exhausted e T K := by
 obtain ⟨G, hG⟩ : ∃ G, G = H ++ [ABlk.rw [.int .i64 b], .rw [.int .i64 0], .rw [.bool false], .rw [v], .rw [.int .i64 i]] := ⟨_, rfl⟩
 obtain ⟨K0, hK0⟩ : ∃ K0, K0 = G ++ [HolL .ready .normal T] := ⟨_, rfl⟩
 have lG : G.length = H.length + 5 := by rw [hG]; simp
 have aH : Adds H K0 := ⟨_, by rw [hK0, hG, List.append_assoc]⟩
 have y0 : HolY H v b (0, false) .ready .normal T K0 := ⟨fun z hz => by rw [hK0, hG, List.getElem?_append_left (by simp; omega), List.getElem?_append_left hz], by rw [hK0, List.length_append, lG]; simp, by rw [hK0, hG]; simp, by rw [hK0, hG]; simp, by rw [hK0, hG]; simp, by rw [hK0, hG]; simp, by rw [hK0, ← lG]; simp⟩
 have ib0 : K0[H.length + 4]? = some (.rw [.int .i64 i]) := by rw [hK0, hG]; simp
 rw [← hG]
 have cf : ∀ K, callF (envL prog) (X 12 T) [.yld G.length] K = (envL prog).call 38 [.yld (H.length + 5), .ptr (H.length + 4) 0, .ptr (H.length + 3) 0] K := fun K => by
  rw [lG, X_ap, tf]; rfl
 have fin : ∀ {e : Ex} {st : LoopState} {K : AHeap} {ans : Int × Bool}, (envL prog).call 38 [.yld (H.length + 5), .ptr (H.length + 4) 0, .ptr (H.length + 3) 0] K0 = some (.tup [], K) → HolY H v b ans st e T K → st ≠ .busy → runC (envL prog) (.range (X 12) [13, 14] kaq13x0 kbq13x0) T G = some (e, T, K.set (H.length + 5) (HolL .exhausted e T)) ∧ HolY H v b ans .exhausted e T (K.set (H.length + 5) (HolL .exhausted e T)) := by
  intro e st K ans hc hy hs
  have hl := hy.len
  have := range_all (E := envL prog) (f := X 12) (ps := [13, 14]) (ka := kaq13x0) (kb := kbq13x0) (t := T) (h := G) (K := K) (e := e) (st := st) (v := .tup []) (by rw [cf]; rw [hK0] at hc; exact hc) (by rw [lG]; exact hy.lp) hs
  rw [lG] at this
  exact ⟨this, fun z hz => by rw [at_set_ne _ _ _ _ (by omega)]; exact hy.old z hz, by rw [List.length_set]; exact hl, by rw [at_set_ne _ _ _ _ (by omega)]; exact hy.blk, by rw [at_set_ne _ _ _ _ (by omega)]; exact hy.at_, by rw [at_set_ne _ _ _ _ (by omega)]; exact hy.ok, by rw [at_set_ne _ _ _ _ (by omega)]; exact hy.lb, at_set _ _ _ (by omega)⟩
 by_cases hi : i < 0
 ·obtain ⟨e1, e2⟩ := fin (fromNeg hi (cells_rw ib0)) y0 (by decide)
  have hs : holdS L i b = (0, false) := by unfold holdS; rw [if_pos hi]
  rw [e1, hs]
  exact ⟨_, _, _, rfl, rfl, .inl ⟨rfl, rfl⟩, e2⟩
 ·obtain ⟨n, rfl⟩ : ∃ n : Nat, i = n := ⟨i.toNat, by omega⟩
  have hs : holdS L (n : Int) b = holdF b (L.drop n) := by unfold holdS; rw [if_neg hi, Int.toNat_natCast]
  have hP : ∀ j K, HolP H v L b (holdS L (n : Int) b) T j K → K[H.length + 4]? = some (.rw [.int .i64 (j : Int)]) ∧ cellsOf K (H.length + 3) = some [v] ∧ Adds H K := fun j K y => ⟨y.ib, cells_rw y.y.lb, Adds.of_get (by have := y.y.len; omega) y.y.old⟩
  obtain ⟨K1, ec, h1⟩ := fromAllV g (v := v) (L := L) (p := H.length + 4) (q := H.length + 3) (y := H.length + 5) (P := HolP H v L b (holdS L (n : Int) b) T) (Q := fun K => HolY H v b (holdS L (n : Int) b) .done .ret T K ∧ (holdS L (n : Int) b).2 = true) fi.1 hP (fun j K s vc vt y hx hbs hip => holRound g fi b ht t5 t6 t7 y hx ((hP _ K y).2.2.bs hbs) (hip.adds (hP _ K y).2.2)) (i := n) (K := K0) ⟨y0, ib0, hs⟩
  have l0 : K0.length = H.length + 6 := by rw [hK0, List.length_append, lG]; rfl
  obtain ⟨K4, et, h4⟩ := trim_two K0 (.tup []) K1
  rw [et] at ec
  have cut : ∀ {ans st e}, HolY H v b ans st e T K1 → HolY H v b ans st e T K4 := fun {ans st e} y => by
   have a4 := fun {z} (hz : z < K0.length) => two_at h4 hz
   exact ⟨fun z hz => by rw [a4 (by omega)]; exact y.old z hz, by have := two_len h4 (by have := y.len; omega); omega, by rw [a4 (by omega)]; exact y.blk, by rw [a4 (by omega)]; exact y.at_, by rw [a4 (by omega)]; exact y.ok, by rw [a4 (by omega)]; exact y.lb, by rw [a4 (by omega)]; exact y.lp⟩
  rcases h1 with ⟨j, hj, _, _, yj⟩ | yd
  ·have ha : holdS L (n : Int) b = (0, false) := by rw [yj.inv, List.drop_eq_nil_of_le hj]; rfl
   obtain ⟨e1, e2⟩ := fin ec (cut yj.y) (by decide)
   rw [e1, ha]
   exact ⟨_, _, _, rfl, rfl, .inl ⟨rfl, rfl⟩, e2⟩
  ·obtain ⟨e1, e2⟩ := fin ec (cut yd.1) (by decide)
   rw [e1]
   exact ⟨_, _, _, rfl, rfl, .inr ⟨rfl, yd.2⟩, e2⟩
theorem holderV (i : Int) : (envL prog).call 13 [v, .int .i64 i, .int .i64 b] H = some (.tup [.int .i64 (holdS L i b).1, .bool (holdS L i b).2], H) := by
 have hr := fun T => holRange g fi b i (T := T)
 have ef := fromCV (g.adds (⟨[ABlk.rw [.int .i64 b], .rw [.int .i64 0], .rw [.bool false]], rfl⟩ : Adds H _)) i
 have key : Outs (runC (envL prog) (b13 (envL prog)) ([v, .int .i64 i, .int .i64 b] ++ List.replicate (24 - [v, AV.int .i64 i, AV.int .i64 b].length) .undef) H) fun e' t K => Adds H K ∧ fin [.cell 6 1 false, .cell 7 1 false] (some (e', t, K)) = some (.tup [.int .i64 (holdS L i b).1, .bool (holdS L i b).2], K) := by
  unfold b13
  generalize hQ : (fun (e' : Ex) (t : T) (K : AHeap) => Adds H K ∧ fin [.cell 6 1 false, .cell 7 1 false] (some (e', t, K)) = some (AV.tup [.int .i64 (holdS L i b).1, .bool (holdS L i b).2], K)) = Q
  simp -implicitDefEqProofs (maxSteps := 5000000) only [go_sem, Nat.reduceShiftRight, Nat.reduceAnd, Nat.reduceBNe, Int.reduceEq, Nat.reduceAdd, Nat.reduceSub, Nat.reduceMul, Nat.reduceLeDiff, reduceIte, reduceCtorEq, Nat.reduceBEq, Nat.reduceEqDiff, wrap64, runC_loop, callF_fn, callV_fn, callV_yld, Bool.not_not, put_cons, put_nil, trim_same, at_zero, at_add, set_zero, set_add, store_one, write_zero, write_add, write_head, write_succ, splice_one, splice_more, List.drop_nil, List.take_nil, cell_int, cell_bool, fillS, splice_one, idxA, Ex.isNormal, List.set_nil, List.length_set, List.all_cons, List.all_nil, Bool.and_self, and_self, true_and, and_true, List.getElem?_nil, Int.reduceLT, Int.reduceLE, Int.reduceToNat, Int.toNat_zero, Int.toNat_one, Int.reduceAdd, Int.reduceSub, Int.reduceMul, Int.reduceNeg, Int.reduceBEq, Int.reduceBNe, Int.reduceGE, Int.reduceGT, Nat.reduceLT, trim_keep, under_fn, under_ptr, under_sl, Nat.lt_irrefl, not_lt_add, trim_tail, keepOk, ABlk.vals, Int.cast_ofNat_Int, decide_true, decide_false, List.all_cons, List.all_nil, Nat.zero_mul, Nat.mul_one, Nat.one_mul, ef]
  refine outs_ctx (fun r => seqR (blockR 0 r) _) (hr _ rfl rfl rfl rfl rfl) ?_
  rintro e t K ⟨rfl, h, y⟩
  have aK : Adds H K := Adds.of_get (by have := y.len; omega) y.old
  have hl := y.len
  have c1 := cells_rw y.at_
  have c2 := cells_rw y.ok
  rcases h with ⟨rfl, ha⟩ | ⟨rfl, ha⟩
  ·have w1 := write_one (y := .int .i64 0) y.at_ rfl
   have q2 : (K.set (H.length + 1) (.rw [.int .i64 0]))[H.length + 2]? = some (.rw [.bool (holdS L i b).2]) := by rw [at_set_ne _ _ _ _ (by omega)]; exact y.ok
   have w2 := write_one (y := .bool false) q2 rfl
   obtain ⟨Kd, hKd⟩ : ∃ Kd, Kd = (K.set (H.length + 1) (.rw [.int .i64 0])).set (H.length + 2) (.rw [.bool false]) := ⟨_, rfl⟩
   rw [← hKd] at w2
   have d2 := cells_rw (show Kd[H.length + 2]? = some (.rw [.bool false]) by rw [hKd]; exact at_set _ _ _ (by rw [List.length_set]; omega))
   have d1 := cells_rw (show Kd[H.length + 1]? = some (.rw [.int .i64 0]) by rw [hKd, at_set_ne _ _ _ _ (by omega)]; exact at_set _ _ _ (by omega))
   have aD : Adds H Kd := Adds.of_get (by rw [hKd, List.length_set, List.length_set]; omega) fun z hz => by rw [hKd, at_set_ne _ _ _ _ (by omega), at_set_ne _ _ _ _ (by omega)]; exact y.old z hz
   simp -implicitDefEqProofs (maxSteps := 5000000) only [go_sem, Nat.reduceShiftRight, Nat.reduceAnd, Nat.reduceBNe, Int.reduceEq, Nat.reduceAdd, Nat.reduceSub, Nat.reduceMul, Nat.reduceLeDiff, reduceIte, reduceCtorEq, Nat.reduceBEq, Nat.reduceEqDiff, wrap64, runC_loop, runC_range, callF_fn, callV_fn, callV_yld, yield_eq, yieldBody, yieldRaw, roundMid, roundEnd, rangeEnd, Bool.not_not, put_cons, put_nil, trim_same, at_zero, at_add, set_zero, set_add, store_one, write_zero, write_add, write_head, write_succ, splice_one, splice_more, List.drop_nil, List.take_nil, cell_int, cell_bool, fillS, splice_one, idxA, Ex.isNormal, List.set_nil, List.length_set, List.all_cons, List.all_nil, Bool.and_self, and_self, true_and, and_true, List.getElem?_nil, Int.reduceLT, Int.reduceLE, Int.reduceToNat, Int.toNat_zero, Int.toNat_one, Int.reduceAdd, Int.reduceSub, Int.reduceMul, Int.reduceNeg, Int.reduceBEq, Int.reduceBNe, Int.reduceGE, Int.reduceGT, Nat.reduceLT, trim_keep, under_fn, under_ptr, under_sl, Nat.lt_irrefl, not_lt_add, trim_tail, keepOk, ABlk.vals, Int.cast_ofNat_Int, decide_true, decide_false, List.all_cons, List.all_nil, Nat.zero_mul, Nat.mul_one, Nat.one_mul, w1, w2, outs_normal]
   subst hQ
   rw [ha]
   refine ⟨aD, ?_⟩
   simp -implicitDefEqProofs (maxSteps := 5000000) only [go_sem, Nat.reduceShiftRight, Nat.reduceAnd, Nat.reduceBNe, Int.reduceEq, Nat.reduceAdd, Nat.reduceSub, Nat.reduceMul, Nat.reduceLeDiff, reduceIte, reduceCtorEq, Nat.reduceBEq, Nat.reduceEqDiff, wrap64, runC_loop, runC_range, callF_fn, callV_fn, callV_yld, yield_eq, yieldBody, yieldRaw, roundMid, roundEnd, rangeEnd, Bool.not_not, put_cons, put_nil, trim_same, at_zero, at_add, set_zero, set_add, store_one, write_zero, write_add, write_head, write_succ, splice_one, splice_more, List.drop_nil, List.take_nil, cell_int, cell_bool, fillS, splice_one, idxA, Ex.isNormal, List.set_nil, List.length_set, List.all_cons, List.all_nil, Bool.and_self, and_self, true_and, and_true, List.getElem?_nil, Int.reduceLT, Int.reduceLE, Int.reduceToNat, Int.toNat_zero, Int.toNat_one, Int.reduceAdd, Int.reduceSub, Int.reduceMul, Int.reduceNeg, Int.reduceBEq, Int.reduceBNe, Int.reduceGE, Int.reduceGT, Nat.reduceLT, trim_keep, under_fn, under_ptr, under_sl, Nat.lt_irrefl, not_lt_add, trim_tail, keepOk, ABlk.vals, Int.cast_ofNat_Int, decide_true, decide_false, List.all_cons, List.all_nil, Nat.zero_mul, Nat.mul_one, Nat.one_mul, d1, d2]
  ·simp -implicitDefEqProofs (maxSteps := 5000000) only [go_sem, Nat.reduceShiftRight, Nat.reduceAnd, Nat.reduceBNe, Int.reduceEq, Nat.reduceAdd, Nat.reduceSub, Nat.reduceMul, Nat.reduceLeDiff, reduceIte, reduceCtorEq, Nat.reduceBEq, Nat.reduceEqDiff, wrap64, runC_loop, runC_range, callF_fn, callV_fn, callV_yld, yield_eq, yieldBody, yieldRaw, roundMid, roundEnd, rangeEnd, Bool.not_not, put_cons, put_nil, trim_same, at_zero, at_add, set_zero, set_add, store_one, write_zero, write_add, write_head, write_succ, splice_one, splice_more, List.drop_nil, List.take_nil, cell_int, cell_bool, fillS, splice_one, idxA, Ex.isNormal, List.set_nil, List.length_set, List.all_cons, List.all_nil, Bool.and_self, and_self, true_and, and_true, List.getElem?_nil, Int.reduceLT, Int.reduceLE, Int.reduceToNat, Int.toNat_zero, Int.toNat_one, Int.reduceAdd, Int.reduceSub, Int.reduceMul, Int.reduceNeg, Int.reduceBEq, Int.reduceBNe, Int.reduceGE, Int.reduceGT, Nat.reduceLT, trim_keep, under_fn, under_ptr, under_sl, Nat.lt_irrefl, not_lt_add, trim_tail, keepOk, ABlk.vals, Int.cast_ofNat_Int, decide_true, decide_false, List.all_cons, List.all_nil, Nat.zero_mul, Nat.mul_one, Nat.one_mul, outs_normal]
   subst hQ
   refine ⟨aK, ?_⟩
   simp -implicitDefEqProofs (maxSteps := 5000000) only [go_sem, Nat.reduceShiftRight, Nat.reduceAnd, Nat.reduceBNe, Int.reduceEq, Nat.reduceAdd, Nat.reduceSub, Nat.reduceMul, Nat.reduceLeDiff, reduceIte, reduceCtorEq, Nat.reduceBEq, Nat.reduceEqDiff, wrap64, runC_loop, runC_range, callF_fn, callV_fn, callV_yld, yield_eq, yieldBody, yieldRaw, roundMid, roundEnd, rangeEnd, Bool.not_not, put_cons, put_nil, trim_same, at_zero, at_add, set_zero, set_add, store_one, write_zero, write_add, write_head, write_succ, splice_one, splice_more, List.drop_nil, List.take_nil, cell_int, cell_bool, fillS, splice_one, idxA, Ex.isNormal, List.set_nil, List.length_set, List.all_cons, List.all_nil, Bool.and_self, and_self, true_and, and_true, List.getElem?_nil, Int.reduceLT, Int.reduceLE, Int.reduceToNat, Int.toNat_zero, Int.toNat_one, Int.reduceAdd, Int.reduceSub, Int.reduceMul, Int.reduceNeg, Int.reduceBEq, Int.reduceBNe, Int.reduceGE, Int.reduceGT, Nat.reduceLT, trim_keep, under_fn, under_ptr, under_sl, Nat.lt_irrefl, not_lt_add, trim_tail, keepOk, ABlk.vals, Int.cast_ofNat_Int, decide_true, decide_false, List.all_cons, List.all_nil, Nat.zero_mul, Nat.mul_one, Nat.one_mul, c1, c2]
 obtain ⟨e', t, K, hr, aK, hf⟩ := key
 rw [c13, hr, hf]; exact aK.trimS rfl
end
end Go.Proofs.Ytfioahnogphnfaa.G12
end
section
namespace Go.Proofs.Ytfioahnogphnfaa.G12
open Go Go.Proofs.Ytfioahnogphnfaa.Eng
theorem own_ge {H : AHeap} {v : AV} {G : AHeap} {zs : List Int} (o : Bt.Own H v G zs) : ∀ b, slb v = some b → H.length ≤ b := by
 rcases o with ⟨_, ⟨rfl, _⟩ | ⟨rfl, _⟩⟩ | ⟨_, rfl, _⟩
 ·intro b h; cases h
 ·intro b h; injection h with h; omega
 ·intro b h; injection h with h; omega
section
variable {H : AHeap} {v : AV} {L : List SnS} (g : IsC H v L) (fi : Fits L) (j : Int)
include g fi
end
end Go.Proofs.Ytfioahnogphnfaa.G12
end
section
namespace Go.Proofs.Ytfioahnogphnfaa.G12
open Go Go.Proofs.Ytfioahnogphnfaa.Eng
theorem bs_any {K : AHeap} {v : AV} {zs : List Int} {n : Nat} (g : BS K v zs) (h : ∀ b, slb v = some b → n ≤ b) (u : v.under n = true) (H : AHeap) : BS H v zs := by
 rcases g with g | ⟨b, o, l, e, cs, rfl, _⟩
 ·exact .inl g
 ·have := h b rfl; have := slb_under u rfl; omega
theorem isP_any {K : AHeap} {v : AV} {l : List PrS} {n : Nat} (g : IsP K v l) (h : ∀ b, slb v = some b → n ≤ b) (u : v.under n = true) (H : AHeap) : IsP H v l := by
 rcases g with g | ⟨b, c, e, rfl, _⟩
 ·exact .inl g
 ·have := h b rfl; have := slb_under u rfl; omega
structure Owned (H K : AHeap) (s : SnS) (vc vt : AV) : Prop where
 a : Adds H K
 bc : BS K vc s.ch
 pt : IsP K vt s.tb
 gc : ∀ b, slb vc = some b → H.length ≤ b
 gt : ∀ b, slb vt = some b → H.length ≤ b
theorem owned_end {H K : AHeap} {s : SnS} {vc vt : AV} (o : Owned H K s vc vt) : ∃ K', trim H (some (.agg [.int .i64 s.id, vc, vt], K)) = some (.agg [.int .i64 s.id, vc, vt], K') ∧ Owned H K' s vc vt := by
 rcases trim_adds (v := .agg [.int .i64 s.id, vc, vt]) o.a with e | ⟨u, e⟩
 ·exact ⟨K, e, o⟩
 ·have u2 : vc.under H.length = true ∧ vt.under H.length = true := by simpa [AV.under, underAll] using u
  exact ⟨H, e, Adds.refl H, bs_any o.bc o.gc u2.1 H, isP_any o.pt o.gt u2.2 H, o.gc, o.gt⟩
theorem Owned.row {H K : AHeap} {s : SnS} {vc vt : AV} (o : Owned H K s vc vt) : SnR K [.int .i64 s.id, vc, vt] s := ⟨vc, vt, rfl, o.bc, o.pt⟩
theorem Owned.cells {H K : AHeap} {s : SnS} {vc vt : AV} (o : Owned H K s vc vt) : [AV.int .i64 s.id, vc, vt].all AV.isCell = true := o.row.cell
section
variable {H : AHeap} {s : SnS} {vc vt : AV} (bc : BS H vc s.ch) (pt : IsP H vt s.tb) (ft : s.Fit)
include bc pt ft
set_option maxHeartbeats 4000000 in
theorem ownC : ∃ vc' vt' K, (envL prog).call 34 [.agg [.int .i64 s.id, vc, vt]] H = some (.agg [.int .i64 s.id, vc', vt'], K) ∧ Owned H K s vc' vt' := by
 obtain ⟨H2, hH2⟩ : ∃ K, K = H ++ [ABlk.rw [.int .i64 s.id, vc, vt], .rw [.int .i64 0, .nilSl, .nilSl]] := ⟨_, rfl⟩
 have A2 : Adds H H2 := ⟨_, hH2⟩
 have l2 : H2.length = H.length + 2 := by rw [hH2]; simp
 obtain ⟨vc', G, o, ec⟩ := Bt.cloneC (A2.bs bc) (by have := ft.lc; omega)
 have A3 : Adds H2 (H2 ++ G) := ⟨_, rfl⟩
 obtain ⟨vt', K, ed, A4, gt⟩ := cloneC (pt.adds (A2.trans A3)) (by have := ft.lt; omega)
 have og := own_ge o
 have tg := gt.out
 have A24 := A3.trans A4
 have q0 : ∀ {X}, Adds H2 X → X[H.length]? = some (.rw [.int .i64 s.id, vc, vt]) := fun a => a.at (by rw [hH2]; simp)
 have q1 : ∀ {X}, Adds H2 X → X[H.length + 1]? = some (.rw [.int .i64 0, .nilSl, .nilSl]) := fun a => a.at (by rw [hH2]; simp)
 have c0 := cells_rw (q0 (Adds.refl H2))
 have c3 := cells_rw (q0 A3)
 have c4 := cells_rw (q0 A24)
 have kc := (o.bs).cell
 have kt := gt.isP.cell
 have lK : H.length + 2 ≤ K.length := by have := A24.len; omega
 have w1 : writeN K H.length 1 [vc'] = some (K.set H.length (.rw [.int .i64 s.id, vc', vt])) := by
  rw [write_of (q0 A24), if_pos ⟨by simp, by simp [kc.2]⟩, splice_one]; rfl
 have p1 : (K.set H.length (ABlk.rw [.int .i64 s.id, vc', vt]))[H.length]? = some (.rw [.int .i64 s.id, vc', vt]) := at_set _ _ _ (by omega)
 have w2 : writeN (K.set H.length (.rw [.int .i64 s.id, vc', vt])) H.length 2 [vt'] = some ((K.set H.length (.rw [.int .i64 s.id, vc', vt])).set H.length (.rw [.int .i64 s.id, vc', vt'])) := by
  rw [write_of p1, if_pos ⟨by simp, by simp [kt.2]⟩, splice_one]; rfl
 obtain ⟨K1, hK1⟩ : ∃ K1, K1 = (K.set H.length (ABlk.rw [.int .i64 s.id, vc', vt])).set H.length (.rw [.int .i64 s.id, vc', vt']) := ⟨_, rfl⟩
 rw [← hK1] at w2
 have r1 : K1[H.length]? = some (.rw [.int .i64 s.id, vc', vt']) := by rw [hK1]; exact at_set _ _ _ (by rw [List.length_set]; omega)
 have r2 : K1[H.length + 1]? = some (.rw [.int .i64 0, .nilSl, .nilSl]) := by rw [hK1, at_set_ne _ _ _ _ (by omega), at_set_ne _ _ _ _ (by omega)]; exact q1 A24
 have d1 := cells_rw r1
 obtain ⟨K2, hK2⟩ : ∃ K2, K2 = K1.set (H.length + 1) (ABlk.rw [.int .i64 s.id, vc', vt']) := ⟨_, rfl⟩
 have kk : [AV.int .i64 s.id, vc', vt'].all AV.isCell = true := by simp only [List.all_cons, List.all_nil, kc.2, kt.2, Bool.and_true]; rfl
 have w3 : writeN K1 (H.length + 1) 0 [.int .i64 s.id, vc', vt'] = some K2 := by
  rw [write_of r2, if_pos ⟨by simp, kk⟩, hK2]; rfl
 have d2 := cells_rw (show K2[H.length + 1]? = some (.rw [.int .i64 s.id, vc', vt']) by rw [hK2]; exact at_set _ _ _ (by rw [hK1, List.length_set, List.length_set]; omega))
 have fr : Fr K K2 (fun b => b = H.length ∨ b = H.length + 1) := by
  rw [hK2, hK1]
  exact ((Fr.set _ _ (F := fun b => b = H.length ∨ b = H.length + 1) (.inl rfl)).trans (Fr.set _ _ (F := fun b => b = H.length ∨ b = H.length + 1) (.inl rfl)) (fun _ _ h => h)).trans (Fr.set _ _ (F := fun b => b = H.length ∨ b = H.length + 1) (.inr rfl)) (fun _ _ h => h)
 have ow : Owned H K2 s vc' vt' := ⟨fr.old (A2.trans A24) (fun b hb h => by omega), (A4.bs o.bs).fr fr (fun b hb h => by have := og b hb; omega), gt.isP.fr fr (fun b hb h => by have := tg b hb; have := A3.len; omega), fun b hb => by have := og b hb; omega, fun b hb => by have := tg b hb; have := A3.len; omega⟩
 obtain ⟨K', et, o'⟩ := owned_end ow
 refine ⟨vc', vt', K', ?_, o'⟩
 have hH2 := hH2.symm
 have cm := bc.cell
 have ct := pt.cell
 rw [c34]
 unfold b34
 simp -implicitDefEqProofs (maxSteps := 5000000) only [go_sem, Nat.reduceShiftRight, Nat.reduceAnd, Nat.reduceBNe, Int.reduceEq, Nat.reduceAdd, Nat.reduceSub, Nat.reduceMul, Nat.reduceLeDiff, reduceIte, reduceCtorEq, Nat.reduceBEq, Nat.reduceEqDiff, wrap64, runC_loop, runC_range, callF_fn, callV_fn, callV_yld, yield_eq, yieldBody, yieldRaw, roundMid, roundEnd, rangeEnd, Bool.not_not, put_cons, put_nil, trim_same, at_zero, at_add, set_zero, set_add, store_one, write_zero, write_add, write_head, write_succ, splice_one, splice_more, List.drop_nil, List.take_nil, cell_int, cell_bool, fillS, splice_one, idxA, Ex.isNormal, List.set_nil, List.length_set, List.all_cons, List.all_nil, Bool.and_self, and_self, true_and, and_true, List.getElem?_nil, Int.reduceLT, Int.reduceLE, Int.reduceToNat, Int.toNat_zero, Int.toNat_one, Int.reduceAdd, Int.reduceSub, Int.reduceMul, Int.reduceNeg, Int.reduceBEq, Int.reduceBNe, Int.reduceGE, Int.reduceGT, Nat.reduceLT, trim_keep, under_fn, under_ptr, under_sl, Nat.lt_irrefl, not_lt_add, trim_tail, keepOk, ABlk.vals, Int.cast_ofNat_Int, decide_true, decide_false, List.all_cons, List.all_nil, Nat.zero_mul, Nat.mul_one, Nat.one_mul, cellsA_agg, hH2, c0, c3, c4, ec, ed, kc.1, kt.1, w1, w2, d1, w3, d2, et]
end
end Go.Proofs.Ytfioahnogphnfaa.G12
end
