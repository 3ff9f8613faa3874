/- What the functions that PoolApart reaches answer, for every argument. No condition but those in each statement. -/
import Derived.Test.YtfioahnogphnfaaN
import Derived.Test.YtfioahnogphnfaaE6
import Derived.Test.YtfioahnogphnfaaE4
import Derived.Shelf.Sort.Plain
import Derived.Shelf.Slices.In.SortNone
set_option linter.unusedSimpArgs false
set_option linter.unusedVariables false
set_option linter.unusedSectionVars false
set_option maxRecDepth 10000
section
namespace Go.Proofs.Ytfioahnogphnfaa.G12
open Go Go.Proofs.Ytfioahnogphnfaa.Eng
noncomputable abbrev LP1 (l : Env → CT) := (envL prog).loop (runC (envL prog) (l (envL prog)))
noncomputable def X0 : Over := Over.none.with 61 ovR
theorem x0_ov (args : List AV) (h : AHeap) (r : AV × AHeap) (e : ovR args h = some r) : (envX prog X0).call 61 args h = some r := by
 unfold envX X0 Over.with
 simp [e]
def pd : TyD := ty 2 true 16 [.int .i64 0, .int .i64 0]
set_option maxHeartbeats 8000000 in
theorem insB (h : AHeap) (b vb n i : Nat) (cs vs : List AV) (hk : h[b]? = some (.rw cs)) (hv : h[vb]? = some (.rw vs)) (hne : vb ≠ b) (hi : i < n) (lc : cs.length = n * 2) (lv : vs.length = 2) (cc : cs.all AV.isCell = true) (cv : vs.all AV.isCell = true) (room : (n + 1) * 16 ≤ roomy) :
  callBody prog (envX prog X0) 52 [.sl b 0 2 n n true, .int .i64 (i : Int), .sl vb 0 2 1 1 true] h = some (.sl h.length 0 2 (n + 1) (n + 1) false, h ++ [.rw (insC 2 i cs vs)]) := by
 have hr : (roomy : Nat) = 140737488355328 := rfl
 have ltb := lt_of_at hk
 have ltv := lt_of_at hv
 have s1 := sl_from (sz := 2) (b := b) (off := 0) (len := n) (cp := n) (i := i) (ex := true) (by omega) (Nat.le_refl _)
 have s2 := sl_to (sz := 2) (b := b) (off := 0) (len := n) (cp := n) (u := i) (ex := true) (by omega)
 have d1 : ((i : Int) == (n : Int)) = false := by simp; omega
 have w1 : IntKind.i64.wrap ((n : Int) + 1) = (n : Int) + 1 := wrap64 (by omega) (by omega)
 have d2 : decide ((n : Int) + 1 > (n : Int)) = true := decide_eq_true (by omega)
 have w2 : IntKind.i64.wrap ((n : Int) + 1 - (i : Int)) = ((n + 1 - i : Nat) : Int) := by rw [wrap64 (by omega) (by omega)]; omega
 have a1 := appN_ex (d := ty 2 true 16 [.int .i64 0, .int .i64 0]) (h := h) (b := b) (off := 0) (sz := 2) (len := i) (c := n) (k := n + 1 - i) rfl (by omega) (by decide) (by omega) (by omega) (read_at hk (by omega)) (by show (i + (n + 1 - i)) * 16 ≤ _; rw [show i + (n + 1 - i) = n + 1 by omega]; exact room)
 rw [show i + (n + 1 - i) = n + 1 by omega, List.drop_zero] at a1
 obtain ⟨z0, hz0⟩ : ∃ z0, z0 = cs.take (i * 2) ++ (List.replicate (n + 1 - i) (ty 2 true 16 [.int .i64 0, .int .i64 0]).zero).flatten := ⟨_, rfl⟩
 rw [← hz0] at a1
 have lz : z0.length = (n + 1) * 2 := by rw [hz0]; simp [ty, lc]; omega
 have s3 := sl_from (sz := 2) (b := h.length) (off := 0) (len := n + 1) (cp := n + 1) (i := i) (ex := false) (by omega) (Nat.le_refl _)
 have s4 := sl_from (sz := 2) (b := h.length) (off := 0) (len := n + 1) (cp := n + 1) (i := i + 1) (ex := false) (by omega) (Nat.le_refl _)
 obtain ⟨H1, hH1⟩ : ∃ H1, H1 = h ++ [ABlk.rw z0] := ⟨_, rfl⟩
 rw [← hH1] at a1
 have k1 : H1[h.length]? = some (.rw z0) := by rw [hH1]; simp
 have v1 : H1[vb]? = some (.rw vs) := by rw [hH1, List.getElem?_append_left ltv]; exact hv
 have b1 : H1[b]? = some (.rw cs) := by rw [hH1, List.getElem?_append_left ltb]; exact hk
 have c1 := copy_sl (d := ty 2 true 16 [.int .i64 0, .int .i64 0]) (h := H1) (b := h.length) (off := 0 + i * 2) (sz := 2) (len := n + 1 - i) (c := n + 1 - i) (b2 := vb) (off2 := 0) (m := 1) (c2 := 1) (ex := false) (ex2 := true) (cs := z0) (src := vs) rfl (by omega) k1 (by omega) (by rw [show min 1 (n + 1 - i) * 2 = 2 by omega, read_at v1 (by omega), List.drop_zero, ← lv, List.take_length]) (by omega) cv
 rw [show min 1 (n + 1 - i) = 1 by omega] at c1
 obtain ⟨z1, hz1⟩ : ∃ z1, z1 = splice z0 (0 + i * 2) vs := ⟨_, rfl⟩
 rw [← hz1] at c1
 have sv : splice z0 (0 + i * 2) vs = z0.take (0 + i * 2) ++ vs ++ z0.drop (0 + i * 2 + vs.length) := splice_long _ _ _ (by omega)
 have lz1 : z1.length = (n + 1) * 2 := by rw [hz1, sv]; simp [lz, lv]; omega
 obtain ⟨H2, hH2⟩ : ∃ H2, H2 = H1.set h.length (.rw z1) := ⟨_, rfl⟩
 rw [← hH2] at c1
 have k2 : H2[h.length]? = some (.rw z1) := by rw [hH2]; exact at_set _ _ _ (lt_of_at k1)
 have b2 : H2[b]? = some (.rw cs) := by rw [hH2, List.getElem?_set_ne (by omega)]; exact b1
 have w3 : IntKind.i64.wrap ((i : Int) + 1) = ((i + 1 : Nat) : Int) := by rw [wrap64 (by omega) (by omega)]; push_cast; rfl
 have tl : ((cs.drop (0 + i * 2)).take ((n - i) * 2)) = cs.drop (i * 2) := by rw [Nat.zero_add]; exact List.take_of_length_le (by rw [List.length_drop, lc]; omega)
 have ld : (cs.drop (i * 2)).length = (n - i) * 2 := by rw [List.length_drop, lc]; omega
 have c2 := copy_sl (d := ty 2 true 16 [.int .i64 0, .int .i64 0]) (h := H2) (b := h.length) (off := 0 + (i + 1) * 2) (sz := 2) (len := n + 1 - (i + 1)) (c := n + 1 - (i + 1)) (b2 := b) (off2 := 0 + i * 2) (m := n - i) (c2 := n - i) (ex := false) (ex2 := true) (cs := z1) (src := cs.drop (i * 2)) rfl (by omega) k2 (by omega) (by rw [show min (n - i) (n + 1 - (i + 1)) = n - i by omega, read_at b2 (by rw [lc]; omega), tl]) (by rw [ld, lz1]; omega) (all_drop cc _)
 have fin : splice z1 (0 + (i + 1) * 2) (cs.drop (i * 2)) = insC 2 i cs vs := by
  have e1 : z1.take (0 + (i + 1) * 2) = cs.take (i * 2) ++ vs := by
   rw [hz1, sv, List.take_append_of_le_length (by simp [lz, lv]; omega), List.take_of_length_le (by simp [lz, lv]; omega), hz0, List.take_append_of_le_length (by simp [lc]; omega), List.take_of_length_le (by simp; omega)]
  have ln : (cs.drop (i * 2)).length ≠ 1 := by rw [ld]; omega
  have dz : z1.drop (0 + (i + 1) * 2 + (cs.drop (i * 2)).length) = [] := List.drop_of_length_le (by rw [ld, lz1]; omega)
  rw [splice_long _ _ _ ln, e1, dz, List.append_nil]; rfl
 rw [fin] at c2
 have H3 : H2.set h.length (.rw (insC 2 i cs vs)) = h ++ [.rw (insC 2 i cs vs)] := by
  rw [hH2, List.set_set, hH1, List.set_append_right _ _ (Nat.le_refl _)]; simp
 rw [H3] at c2
 have u : (AV.sl h.length 0 2 (n + 1) (n + 1) false).under h.length = false := by simp [AV.under]
 rw [d52]
 unfold b52
 have cap : capSl (.sl b 0 2 n n true) = some (.int .i64 (n : Int)) := rfl
 have l1 : lenSl (.sl vb 0 2 1 1 true) = some (.int .i64 1) := rfl
 have l2 : lenSl (.sl b 0 2 n n true) = some (.int .i64 (n : Int)) := rfl
 simp only [Nat.zero_add] at c1 c2 s1 s3 s4
 simp -implicitDefEqProofs (maxSteps := 5000000) only [go_sem, Nat.reduceShiftRight, Nat.reduceAnd, Nat.reduceBNe, Int.reduceEq, Nat.reduceAdd, Nat.reduceSub, Nat.reduceMul, Nat.reduceLeDiff, reduceIte, reduceCtorEq, Nat.reduceBEq, Nat.reduceEqDiff, wrap64, runC_loop, runC_range, callF_fn, callV_fn, callV_yld, yield_eq, yieldBody, yieldRaw, roundMid, roundEnd, rangeEnd, Bool.not_not, put_cons, put_nil, trim_same, at_zero, at_add, set_zero, set_add, store_one, write_zero, write_add, write_head, write_succ, splice_one, splice_more, List.drop_nil, List.take_nil, cell_int, cell_bool, fillS, splice_one, idxA, Ex.isNormal, List.set_nil, List.length_set, List.all_cons, List.all_nil, Bool.and_self, and_self, true_and, and_true, List.getElem?_nil, Int.reduceLT, Int.reduceLE, Int.reduceToNat, Int.toNat_zero, Int.toNat_one, Int.reduceAdd, Int.reduceSub, Int.reduceMul, Int.reduceNeg, Int.reduceBEq, Int.reduceBNe, Int.reduceGE, Int.reduceGT, Nat.reduceLT, trim_keep, under_fn, under_ptr, under_sl, Nat.lt_irrefl, not_lt_add, trim_tail, keepOk, ABlk.vals, Int.cast_ofNat_Int, decide_true, decide_false, List.all_cons, List.all_nil, Nat.zero_mul, Nat.mul_one, Nat.one_mul, s1, s2, d1, w1, d2, w2, a1, cap, l1, l2, s3, s4, c1, w3, c2, trim_keep, u]
set_option maxHeartbeats 8000000 in
theorem insA (h : AHeap) (b vb n i cap : Nat) (cs vs rest : List AV) (hk : h[b]? = some (.rw (cs ++ rest))) (hv : h[vb]? = some (.rw vs)) (hne : vb ≠ b) (hi : i < n) (hcap : n + 1 ≤ cap) (lc : cs.length = n * 2) (lr : rest.length = (cap - n) * 2) (lv : vs.length = 2) (cc : cs.all AV.isCell = true) (cv : vs.all AV.isCell = true) (room : (n + 1) * 16 ≤ roomy) :
  ∃ K, callBody prog (envX prog X0) 52 [.sl b 0 2 n cap true, .int .i64 (i : Int), .sl vb 0 2 1 1 true] h = some (.sl b 0 2 (n + 1) cap true, h.set b (.rw K)) ∧ K.take ((n + 1) * 2) = insC 2 i cs vs := by
 have hr : (roomy : Nat) = 140737488355328 := rfl
 have ltb := lt_of_at hk
 have ltv := lt_of_at hv
 have s1 := sl_from (sz := 2) (b := b) (off := 0) (len := n) (cp := cap) (i := i) (ex := true) (by omega) (by omega)
 have s5 := sl_to (sz := 2) (b := b) (off := 0) (len := n) (cp := cap) (u := n + 1) (ex := true) (by omega)
 have d1 : ((i : Int) == (n : Int)) = false := by simp; omega
 have w1 : IntKind.i64.wrap ((n : Int) + 1) = ((n + 1 : Nat) : Int) := by rw [wrap64 (by omega) (by omega)]; push_cast; rfl
 have d2 : decide (((n + 1 : Nat) : Int) > (cap : Int)) = false := decide_eq_false (by omega)
 have w3 : IntKind.i64.wrap ((i : Int) + 1) = ((i + 1 : Nat) : Int) := by rw [wrap64 (by omega) (by omega)]; push_cast; rfl
 have s6 := sl_from (sz := 2) (b := b) (off := 0) (len := n + 1) (cp := cap) (i := i + 1) (ex := true) (by omega) (by omega)
 have s7 := sl_from (sz := 2) (b := b) (off := 0) (len := n + 1) (cp := cap) (i := i) (ex := true) (by omega) (by omega)
 have rb : isRw h b = true := by unfold isRw; rw [hk]
 have rv : isRw h vb = true := by unfold isRw; rw [hv]
 have ov := x0_ov [.sl vb 0 2 1 1 true, .sl b ((i + 1) * 2) 2 (n + 1 - (i + 1)) (cap - (i + 1)) true] h (.bool false, h) (by
  unfold ovR
  simp only
  rw [if_pos ⟨hne, by omega, by omega, by omega, rv, rb⟩])
 have ld : (cs.drop (i * 2)).length = (n - i) * 2 := by rw [List.length_drop, lc]; omega
 have tl : (((cs ++ rest).drop (i * 2)).take ((n - i) * 2)) = cs.drop (i * 2) := by
  rw [List.drop_append_of_le_length (by omega), List.take_append_of_le_length (by omega), List.take_of_length_le (by omega)]
 have c1 := copy_sl (d := ty 2 true 16 [.int .i64 0, .int .i64 0]) (h := h) (b := b) (off := (i + 1) * 2) (sz := 2) (len := n + 1 - (i + 1)) (c := cap - (i + 1)) (b2 := b) (off2 := i * 2) (m := n + 1 - i) (c2 := cap - i) (ex := true) (ex2 := true) (cs := cs ++ rest) (src := cs.drop (i * 2)) rfl (by omega) hk (by omega) (by rw [show min (n + 1 - i) (n + 1 - (i + 1)) = n - i by omega, read_at hk (by rw [List.length_append, lc]; omega), tl]) (by rw [ld, List.length_append, lc, lr]; omega) (all_drop cc _)
 have ln : (cs.drop (i * 2)).length ≠ 1 := by rw [ld]; omega
 obtain ⟨z1, hz1⟩ : ∃ z1, z1 = splice (cs ++ rest) ((i + 1) * 2) (cs.drop (i * 2)) := ⟨_, rfl⟩
 rw [← hz1] at c1
 rw [splice_long _ _ _ ln] at hz1
 have lz1 : z1.length = cs.length + rest.length := by rw [hz1]; simp only [List.length_append, List.length_take, List.length_drop, lc, lr]; omega
 obtain ⟨H1, hH1⟩ : ∃ H1, H1 = h.set b (.rw z1) := ⟨_, rfl⟩
 rw [← hH1] at c1
 have k1 : H1[b]? = some (.rw z1) := by rw [hH1]; exact at_set _ _ _ ltb
 have v1 : H1[vb]? = some (.rw vs) := by rw [hH1, List.getElem?_set_ne (fun q => hne q.symm)]; exact hv
 have c2 := copy_sl (d := ty 2 true 16 [.int .i64 0, .int .i64 0]) (h := H1) (b := b) (off := i * 2) (sz := 2) (len := n + 1 - i) (c := cap - i) (b2 := vb) (off2 := 0) (m := 1) (c2 := 1) (ex := true) (ex2 := true) (cs := z1) (src := vs) rfl (by omega) k1 (by omega) (by rw [show min 1 (n + 1 - i) * 2 = 2 by omega, read_at v1 (by omega), List.drop_zero, ← lv, List.take_length]) (by rw [lz1, lc, lr]; omega) cv
 rw [show min 1 (n + 1 - i) = 1 by omega] at c2
 obtain ⟨z2, hz2⟩ : ∃ z2, z2 = splice z1 (i * 2) vs := ⟨_, rfl⟩
 rw [← hz2] at c2
 rw [splice_long _ _ _ (by omega), lv] at hz2
 have H2 : H1.set b (.rw z2) = h.set b (.rw z2) := by rw [hH1, List.set_set]
 rw [H2] at c2
 have cap' : capSl (.sl b 0 2 n cap true) = some (.int .i64 (cap : Int)) := rfl
 have l1 : lenSl (.sl vb 0 2 1 1 true) = some (.int .i64 1) := rfl
 have l2 : lenSl (.sl b 0 2 n cap true) = some (.int .i64 (n : Int)) := rfl
 have ts : trim h (some (.sl b 0 2 (n + 1) cap true, h.set b (.rw z2))) = some (.sl b 0 2 (n + 1) cap true, h.set b (.rw z2)) := trim_same (by rw [List.length_set])
 simp only [Nat.zero_add] at s1 s6 s7
 refine ⟨z2, ?_, ?_⟩
 ·rw [d52]
  unfold b52
  simp -implicitDefEqProofs (maxSteps := 5000000) only [go_sem, Nat.reduceShiftRight, Nat.reduceAnd, Nat.reduceBNe, Int.reduceEq, Nat.reduceAdd, Nat.reduceSub, Nat.reduceMul, Nat.reduceLeDiff, reduceIte, reduceCtorEq, Nat.reduceBEq, Nat.reduceEqDiff, wrap64, runC_loop, runC_range, callF_fn, callV_fn, callV_yld, yield_eq, yieldBody, yieldRaw, roundMid, roundEnd, rangeEnd, Bool.not_not, put_cons, put_nil, trim_same, at_zero, at_add, set_zero, set_add, store_one, write_zero, write_add, write_head, write_succ, splice_one, splice_more, List.drop_nil, List.take_nil, cell_int, cell_bool, fillS, splice_one, idxA, Ex.isNormal, List.set_nil, List.length_set, List.all_cons, List.all_nil, Bool.and_self, and_self, true_and, and_true, List.getElem?_nil, Int.reduceLT, Int.reduceLE, Int.reduceToNat, Int.toNat_zero, Int.toNat_one, Int.reduceAdd, Int.reduceSub, Int.reduceMul, Int.reduceNeg, Int.reduceBEq, Int.reduceBNe, Int.reduceGE, Int.reduceGT, Nat.reduceLT, trim_keep, under_fn, under_ptr, under_sl, Nat.lt_irrefl, not_lt_add, trim_tail, keepOk, ABlk.vals, Int.cast_ofNat_Int, decide_true, decide_false, List.all_cons, List.all_nil, Nat.zero_mul, Nat.mul_one, Nat.one_mul, s1, s5, d1, w1, d2, w3, s6, s7, ov, c1, c2, cap', l1, l2, ts]
 ·have e0 : z1.take (i * 2) = cs.take (i * 2) := by
   rw [hz1, List.append_assoc, List.take_append_of_le_length (by simp [lc, lr]; omega), List.take_take, show min (i * 2) ((i + 1) * 2) = i * 2 by omega, List.take_append_of_le_length (by omega)]
  have e1 : z1.drop (i * 2 + 2) = cs.drop (i * 2) ++ (cs ++ rest).drop ((i + 1) * 2 + (cs.drop (i * 2)).length) := by
   rw [hz1, List.append_assoc, List.drop_append, List.drop_of_length_le (by simp [lc, lr]; omega), List.nil_append]
   have : i * 2 + 2 - ((cs ++ rest).take ((i + 1) * 2)).length = 0 := by simp [lc, lr]; omega
   rw [this, List.drop_zero]
  rw [hz2, e0, e1, ← List.append_assoc]
  unfold insC
  rw [List.take_append_of_le_length (by simp only [List.length_append, List.length_take, lv, ld, lc]; omega), List.take_of_length_le (by simp only [List.length_append, List.length_take, lv, ld, lc]; omega)]
noncomputable def X1 : Over := X0.with 52 (insR 2 16)
end Go.Proofs.Ytfioahnogphnfaa.G12
end
section
namespace Go.Proofs.Ytfioahnogphnfaa.G12
open Go Go.Proofs.Ytfioahnogphnfaa.Eng
theorem goodP : Go.Proofs.Ytfioahnogphnfaa.Eng.Good prog := good_of (by kernel_rfl) (by kernel_rfl)
theorem x0_ok : X0.Ok prog := with_ok (none_ok _) (ov_ok (fn := Go.Proofs.Try.f61) (tS := 24) (tR := 4) (e := 47) (d := ty 2 true 16 [.int .i64 0, .int .i64 0]) (by kernel_rfl) (by kernel_rfl) (by kernel_rfl) (by kernel_rfl) (by kernel_rfl) (by kernel_rfl) (by kernel_rfl))
theorem x1_ok : X1.Ok prog := with_ok x0_ok (ins_ok goodP x0_ok (by omega) insA insB)
end Go.Proofs.Ytfioahnogphnfaa.G12
end
section
namespace Go.Proofs.Ytfioahnogphnfaa.G12
open Go Go.Proofs.Ytfioahnogphnfaa.Eng
section
variable {H : AHeap} {v : AV} {l : List PrS} (g : IsP H v l) (hl : l.length ≤ 1000000)
include g hl
end
section
variable {H : AHeap} {v : AV} {l : List PrS} (g : IsP H v l) (hl : l.length ≤ 1000000) (b : Int) {q : Nat} (hq : cellsOf H q = some [.int .i64 b])
include g hl hq
end
section
variable {H : AHeap} {v : AV} {l : List PrS} (g : IsP H v l) (hl : l.length ≤ 1000000) (b : Int)
include g hl
end
end Go.Proofs.Ytfioahnogphnfaa.G12
end
section
namespace Go.Proofs.Ytfioahnogphnfaa.G12
open Go Go.Proofs.Ytfioahnogphnfaa.Eng
section
variable {H : AHeap} {v : AV} {l : List PrS} (g : IsP H v l) (hl : l.length ≤ 1000000) (b : Int)
include g hl
end
section
variable {H : AHeap} {v w : AV} {l m : List PrS} (g : IsP H v l) (f : IsP H w m) (hl : l.length ≤ 1000000)
include g f hl
end
end Go.Proofs.Ytfioahnogphnfaa.G12
end
section
namespace Go.Proofs.Ytfioahnogphnfaa.G12
open Go Go.Proofs.Ytfioahnogphnfaa.Eng
theorem x_miss {X : Over} {k f : Nat} {R : List AV → AHeap → Option (AV × AHeap)} (args : List AV) (h : AHeap) (e : (f == k) = false) : (envX prog (X.with k R)).call f args h = (envX prog X).call f args h := by
 have : ¬ f = k := by simpa using e
 unfold envX Over.with
 simp [this]
theorem x_none (f : Nat) (args : List AV) (h : AHeap) : (envX prog Over.none).call f args h = (envL prog).call f args h := rfl
theorem x_hit {X : Over} {k : Nat} {R : List AV → AHeap → Option (AV × AHeap)} {args : List AV} {h : AHeap} {r : AV × AHeap} (e : R args h = some r) : (envX prog (X.with k R)).call k args h = some r := by
 unfold envX Over.with
 simp [e]
theorem x1_call (f : Nat) (args : List AV) (h : AHeap) (e1 : (f == 52) = false) (e2 : (f == 61) = false) : (envX prog X1).call f args h = (envL prog).call f args h := by
 unfold X1 X0; rw [x_miss _ _ e1, x_miss _ _ e2, x_none]
section
variable {H0 : AHeap} {v : AV} {l : List PrS} (hl : l.length ≤ 1000000) (b a : Int) {pb : Nat} (hpb : pb < H0.length)
include hl hpb
end
end Go.Proofs.Ytfioahnogphnfaa.G12
end
section
namespace Go.Proofs.Ytfioahnogphnfaa.G12
open Go Go.Proofs.Ytfioahnogphnfaa.Eng
noncomputable def X2 : Over := X1.up prog 37
theorem x2_ok : X2.Ok prog := up_ok goodP x1_ok _
theorem x2_call (f : Nat) (args : List AV) (h : AHeap) (e0 : (f == 37) = false) (e1 : (f == 52) = false) (e2 : (f == 61) = false) : (envX prog X2).call f args h = (envL prog).call f args h := by
 unfold X2 Over.up; rw [x_miss _ _ e0, x1_call _ _ _ e1 e2]
theorem tins_len (b a : Int) : ∀ l : List PrS, (tins b a l).length = l.length + 1
 | [] => rfl
 | q :: l => by unfold tins; split <;> simp [tins_len b a l]
theorem tput_len (l : List PrS) (b a : Int) : (tput l b a).length ≤ l.length + 1 := by
 unfold tput; split
 ·rw [List.length_set]; omega
 ·rw [tins_len]; exact Nat.le_refl _
def FS (H : AHeap) (B : Nat) (v : AV) (zs : List Int) : Prop := GR 1 H B v (zs.map fun z => [AV.int .i64 z])
theorem FS.push {K : AHeap} {B s : Nat} {v : AV} {zs : List Int} {z : Int} (g : FS K B v zs) (hs : cellsOf K s = some [.int .i64 z]) (hn : zs.length ≤ 1000000) (hB : B ≤ K.length) : ∃ v' K', app (ty 1 false 8 [.int .i64 0]) v (.sl s 0 1 1 1 true) K = some (v', K') ∧ FS K' B v' (zs ++ [z]) ∧ Fr K K' (fun b => slb v = some b) ∧ slb v' = some K.length ∧ K'.length = K.length + 1 := by
 have hr : (roomy : Nat) = 140737488355328 := rfl
 obtain ⟨v', K', ea, g', fr, sv, kl, _⟩ := gr_push (k := 1) (by omega) (d := ty 1 false 8 [.int .i64 0]) rfl (by decide) g (fun x hx => by obtain ⟨y, _, rfl⟩ := List.mem_map.1 hx; rfl) hs rfl rfl (by rw [List.length_map]; show (zs.length + 1) * 8 ≤ _; omega) hB
 refine ⟨v', K', ea, ?_, fr, sv, kl⟩
 unfold FS; rw [List.map_append]; exact g'
section
variable {H : AHeap} {va : AV} {la : List PrS} (ga : IsP H va la) (hla : la.length ≤ 1000)
include ga hla
end
end Go.Proofs.Ytfioahnogphnfaa.G12
end
section
namespace Go.Proofs.Ytfioahnogphnfaa.G12
open Go Go.Proofs.Ytfioahnogphnfaa.Eng
section
variable {H : AHeap} {v : AV} {l : List PrS} (g : IsP H v l) (hl : l.length ≤ 1000000) (b : Int)
include g hl
end
end Go.Proofs.Ytfioahnogphnfaa.G12
end
section
namespace Go.Proofs.Ytfioahnogphnfaa.G12
open Go Go.Proofs.Ytfioahnogphnfaa.Eng
theorem FS.cell {K : AHeap} {B : Nat} {v : AV} {zs : List Int} (g : FS K B v zs) : cellsA v = some [v] ∧ v.isCell = true := GR.cells g
section
variable {H : AHeap} {va : AV} {la : List PrS} (ga : IsP H va la) (hla : la.length ≤ 1000)
include ga hla
end
end Go.Proofs.Ytfioahnogphnfaa.G12
end
section
namespace Go.Proofs.Ytfioahnogphnfaa.G12
open Go Go.Proofs.Ytfioahnogphnfaa.Eng
theorem FS.read {H : AHeap} {B : Nat} {v : AV} {zs : List Int} (g : FS H B v zs) {i : Nat} {z : Int} (hi : zs[i]? = some z) : ∃ b cs, slb v = some b ∧ idxAddrS 1 v (.int .i64 (i : Int)) = some (.ptr b i) ∧ cellsOf H b = some cs ∧ cs[i]? = some (.int .i64 z) ∧ i + 1 ≤ cs.length := by
 obtain ⟨b, cs, sb, ix, hc, hr, hle⟩ := GR.read (by omega) g (fun r hr => by obtain ⟨y, _, rfl⟩ := List.mem_map.1 hr; rfl) (get_map (fun z => [AV.int .i64 z]) hi)
 rw [Nat.mul_one] at ix hr hle
 refine ⟨b, cs, sb, ix, hc, ?_, hle⟩
 have := congrArg (fun q : List AV => q[0]?) hr
 rw [List.getElem?_take, if_pos (by omega), List.getElem?_drop, Nat.add_zero] at this
 exact this
theorem FS.len {H : AHeap} {B : Nat} {v : AV} {zs : List Int} (g : FS H B v zs) : lenSl v = some (.int .i64 zs.length) := by
 have := GR.len g
 rwa [List.length_map] at this
section
variable {H : AHeap} {B : Nat} {v : AV} {zs : List Int} (g : FS H B v zs) (hl : zs.length ≤ 1000000) (x : Int)
include g hl
end
section
variable {H : AHeap} {v : AV} {l : List PrS} (g : IsP H v l) (hl : l.length ≤ 1000000) (bl ar : Int)
include g hl
end
end Go.Proofs.Ytfioahnogphnfaa.G12
end
section
namespace Go.Proofs.Ytfioahnogphnfaa.G12
open Go Go.Proofs.Ytfioahnogphnfaa.Eng
section
variable {H : AHeap} {v : AV} {l : List PrS} (g : IsP H v l) (hl : l.length ≤ 9223372036854775807) (bl ar : Int)
include g hl
end
end Go.Proofs.Ytfioahnogphnfaa.G12
end
section
namespace Go.Proofs.Ytfioahnogphnfaa.G12
open Go Go.Proofs.Ytfioahnogphnfaa.Eng
def IsI (H : AHeap) (v : AV) (zs : List Int) : Prop := (v = .nilSl ∧ zs = []) ∨ ∃ b c ex, v = .sl b 0 1 zs.length c ex ∧ cellsOf H b = some (zs.map fun z => AV.int .i64 z)
theorem IsI.adds {H H' : AHeap} {v : AV} {zs : List Int} (g : IsI H v zs) (a : Adds H H') : IsI H' v zs := by
 rcases g with h | ⟨b, c, ex, rfl, hc⟩
 ·exact .inl h
 ·exact .inr ⟨b, c, ex, rfl, a.cells hc⟩
section
variable {H : AHeap} {v w : AV} {l m : List Int} (g : IsI H v l) (f : IsI H w m) (hl : l.length ≤ 1000000)
include g f hl
end
noncomputable def X3 : Over := X2.up prog 25
theorem x3_ok : X3.Ok prog := up_ok goodP x2_ok _
theorem x3_call (f : Nat) (args : List AV) (h : AHeap) (em : (f == 25) = false) (e0 : (f == 37) = false) (e1 : (f == 52) = false) (e2 : (f == 61) = false) : (envX prog X3).call f args h = (envL prog).call f args h := by
 unfold X3 Over.up; rw [x_miss _ _ em, x2_call _ _ _ e0 e1 e2]
end Go.Proofs.Ytfioahnogphnfaa.G12
end
section
namespace Go.Proofs.Ytfioahnogphnfaa.G12.Bt
open Go Go.Proofs.Ytfioahnogphnfaa.Eng
def bitB (z : Int) (r : Int) : Bool := (IntKind.u8.wrap ((BitVec.ofInt 8 (z.fdiv (2 ^ min r.toNat 8)) &&& BitVec.ofInt 8 1).toNat : Int) == 1)
def hasS (zs : List Int) (i : Int) : Bool := decide (i ≥ 0) && decide (i.tdiv 8 < zs.length) && bitB ((zs[(i.tdiv 8).toNat]?).getD 0) (i.tmod 8)
def orI (x y : Int) : Int := IntKind.u8.wrap ((BitVec.ofInt 8 x ||| BitVec.ofInt 8 y).toNat : Int)
end Go.Proofs.Ytfioahnogphnfaa.G12.Bt
end
section
namespace Go.Proofs.Ytfioahnogphnfaa.G12.Bt
open Go Go.Proofs.Ytfioahnogphnfaa.Eng
def Own (H : AHeap) (v : AV) (G : AHeap) (zs : List Int) : Prop :=
 (zs = [] ∧ ((v = .nilSl ∧ G = []) ∨ (v = .sl H.length 0 1 0 0 true ∧ G = [.rw []]))) ∨ (zs ≠ [] ∧ v = .sl (H.length + 1) 0 1 zs.length zs.length false ∧ G = [.rw [], .rw (u8s zs)])
theorem Own.bs {H : AHeap} {v : AV} {G : AHeap} {zs : List Int} (h : Own H v G zs) : BS (H ++ G) v zs := by
 rcases h with ⟨rfl, ⟨rfl, rfl⟩ | ⟨rfl, rfl⟩⟩ | ⟨_, rfl, rfl⟩
 ·exact BS.nil _
 ·exact BS.block (zs := []) (b := H.length) (by simp [u8s])
 ·exact BS.block (by simp)
theorem orI_u8 (x y : Int) : 0 ≤ orI x y ∧ orI x y ≤ 255 := by
 unfold orI IntKind.wrap
 simp only [show IntKind.u8.signed = false from rfl, show IntKind.u8.bits = 8 from rfl, Bool.false_and, Bool.false_eq_true, if_false]
 omega
end Go.Proofs.Ytfioahnogphnfaa.G12.Bt
end
section
namespace Go.Proofs.Ytfioahnogphnfaa.G12.Bt
open Go Go.Proofs.Ytfioahnogphnfaa.Eng
def orL : List Int → List Int → List Int
 | p, [] => p
 | [], _ => []
 | x :: p, y :: q => orI x y :: orL p q
theorem orL_len : ∀ (p q : List Int), (orL p q).length = p.length
 | p, [] => by cases p <;> rfl
 | [], _ :: _ => rfl
 | x :: p, y :: q => by simp [orL, orL_len p q]
theorem orL_nil (p : List Int) : orL p [] = p := by cases p <;> rfl
theorem orL_u8 : ∀ (p q : List Int), IsU8 p → IsU8 (orL p q)
 | p, [], h => by rw [orL_nil]; exact h
 | [], _ :: _, _ => fun z hz => by simp [orL] at hz
 | x :: p, y :: q, h => fun z hz => by
  rcases List.mem_cons.1 hz with rfl | hz
  ·exact orI_u8 _ _
  ·exact orL_u8 p q (fun z hz => h z (by simp [hz])) z hz
def orS (xs ys : List Int) : List Int := if xs.length < ys.length then orL ys xs else orL xs ys
theorem orS_u8 {xs ys : List Int} (hx : IsU8 xs) (hy : IsU8 ys) : IsU8 (orS xs ys) := by
 unfold orS; split
 ·exact orL_u8 _ _ hy
 ·exact orL_u8 _ _ hx
end Go.Proofs.Ytfioahnogphnfaa.G12.Bt
end
section
namespace Go.Proofs.Ytfioahnogphnfaa.G12.Bt
open Go Go.Proofs.Ytfioahnogphnfaa.Eng
def newN (k : Int) : Nat := if k < 1 ∨ k > 4096 then 0 else ((k + 7) / 8).toNat
def NewS (H : AHeap) (v : AV) (G : AHeap) (k : Int) : Prop := (v = .nilSl ∧ G = [] ∧ newN k = 0) ∨ (v = .sl H.length 0 1 (newN k) (newN k) true ∧ G = [.rw (u8s (List.replicate (newN k) 0))])
theorem NewS.bs {H : AHeap} {v : AV} {G : AHeap} {k : Int} (h : NewS H v G k) : BS (H ++ G) v (List.replicate (newN k) 0) := by
 rcases h with ⟨rfl, rfl, h0⟩ | ⟨rfl, rfl⟩
 ·rw [h0]; exact BS.nil _
 ·have := BS.block (H := H ++ [.rw (u8s (List.replicate (newN k) 0))]) (b := H.length) (zs := List.replicate (newN k) 0) (l := newN k) (e := true) (by simp)
  rwa [List.length_replicate] at this
end Go.Proofs.Ytfioahnogphnfaa.G12.Bt
end
section
namespace Go.Proofs.Ytfioahnogphnfaa.G12.Bt
open Go Go.Proofs.Ytfioahnogphnfaa.Eng
def Grown (B : Nat) (l : AV) (R : AHeap) (zs : List Int) : Prop :=
 (zs = [] ∧ l = .nilSl ∧ R = []) ∨ (zs ≠ [] ∧ ∃ J, R = J ++ [.rw (i64s zs)] ∧ l = .sl (B + J.length) 0 1 zs.length zs.length false)
theorem Grown.is {P : AHeap} {l : AV} {R : AHeap} {zs : List Int} (g : Grown P.length l R zs) : IS (P ++ R) l zs := by
 rcases g with ⟨rfl, rfl, rfl⟩ | ⟨_, J, rfl, rfl⟩
 ·exact IS.nil _
 ·exact IS.block (by
   rw [List.getElem?_append_right (by omega), show P.length + J.length - P.length = J.length by omega, List.getElem?_append_right (by omega), Nat.sub_self]; rfl)
theorem Grown.under {B : Nat} {l : AV} {R : AHeap} {zs : List Int} (g : Grown B l R zs) : l.under (B + R.length) = true := by
 rcases g with ⟨rfl, rfl, rfl⟩ | ⟨_, J, rfl, rfl⟩
 ·simp [AV.under]
 ·simp [AV.under]
end Go.Proofs.Ytfioahnogphnfaa.G12.Bt
end
section
namespace Go.Proofs.Ytfioahnogphnfaa.G12.Bt
open Go Go.Proofs.Ytfioahnogphnfaa.Eng
end Go.Proofs.Ytfioahnogphnfaa.G12.Bt
end
section
namespace Go.Proofs.Ytfioahnogphnfaa.G12.Bt
open Go Go.Proofs.Ytfioahnogphnfaa.Eng
def okF (zs : List Int) (k : Int) : Nat → Nat → Bool
 | 0, _ => true
 | m + 1, i => (!hasS zs i || decide ((i : Int) < k)) && okF zs k m (i + 1)
def goodS (zs : List Int) (k : Int) : Bool := decide (zs.length = newN k) && okF zs k (8 * zs.length) 0
end Go.Proofs.Ytfioahnogphnfaa.G12.Bt
end
section
namespace Go.Proofs.Ytfioahnogphnfaa.G12.Bt
open Go Go.Proofs.Ytfioahnogphnfaa.Eng
end Go.Proofs.Ytfioahnogphnfaa.G12.Bt
end
section
namespace Go.Proofs.Ytfioahnogphnfaa.G12.Bt
open Go Go.Proofs.Ytfioahnogphnfaa.Eng
set_option maxHeartbeats 4000000 in
theorem intsL {H : AHeap} {v w : AV} {zs : List Int} (b : IS H v zs) (c : IS H w zs) (hn : zs.length ≤ 1000000) (x2 x3 x6 x7 x8 x9 x10 : AV) : ∀ (m i : Nat) (j11 j12 j13 j14 j15 j16 j17 j18 j19 j20 j21 j22 j23 j24 j25 : AV), i + m = zs.length →
  ∃ (k5 k11 k12 k13 k14 k15 k16 k17 k18 k19 k20 k21 k22 k23 k24 k25 : AV), (envL prog).loop (runC (envL prog) (l14x0 (envL prog))) [v, w, x2, x3, .bool false, .int .i64 (i : Int), x6, x7, x8, x9, x10, j11, j12, j13, j14, j15, j16, j17, j18, j19, j20, j21, j22, j23, j24, j25] H =
   some (.exit 0, [v, w, x2, x3, .bool false, k5, x6, x7, x8, x9, x10, k11, k12, k13, k14, k15, k16, k17, k18, k19, k20, k21, k22, k23, k24, k25], H) := by
 intro m
 have hl := b.len
 induction m with
 | zero =>
  intro i j11 j12 j13 j14 j15 j16 j17 j18 j19 j20 j21 j22 j23 j24 j25 hi
  obtain rfl : i = zs.length := by omega
  have hd : decide ((zs.length : Int) < (zs.length : Int)) = false := by simp
  rw [loop_run]
  unfold l14x0
  simp -implicitDefEqProofs (maxSteps := 5000000) only [go_sem, Nat.reduceShiftRight, Nat.reduceAnd, Nat.reduceBNe, Int.reduceEq, Nat.reduceAdd, Nat.reduceSub, Nat.reduceMul, Nat.reduceLeDiff, reduceIte, reduceCtorEq, Nat.reduceBEq, Nat.reduceEqDiff, go_sem, hl, hd, seqR_exit']
  exact ⟨_, _, _, _, _, _, _, _, _, _, _, _, _, _, _, _, rfl⟩
 | succ m ih =>
  intro i j11 j12 j13 j14 j15 j16 j17 j18 j19 j20 j21 j22 j23 j24 j25 hi
  have hlt : i < zs.length := by omega
  have hd : decide ((i : Int) < (zs.length : Int)) = true := by simp; omega
  have h2 : IntKind.i64.wrap ((i : Int) + 1) = ((i + 1 : Nat) : Int) := by rw [wrap64 (by omega) (by omega)]; omega
  obtain ⟨a1, ha1, hl1⟩ := b.idx (List.getElem?_eq_getElem hlt) .i64
  obtain ⟨a2, ha2, hl2⟩ := c.idx (List.getElem?_eq_getElem hlt) .i64
  have hne : (zs[i]'hlt != zs[i]'hlt) = false := by simp
  obtain ⟨k5, k11, k12, k13, k14, k15, k16, k17, k18, k19, k20, k21, k22, k23, k24, k25, e⟩ := ih (i + 1) (.int .i64 i) v (.int .i64 zs.length) (.bool true) (.int .i64 i) (.int .i64 ((i + 1 : Nat) : Int)) v (.int .i64 i) a1 (.int .i64 (zs[i]'hlt)) w (.int .i64 i) a2 (.int .i64 (zs[i]'hlt)) (.bool false) (by omega)
  refine ⟨k5, k11, k12, k13, k14, k15, k16, k17, k18, k19, k20, k21, k22, k23, k24, k25, ?_⟩
  rw [← e, loop_run]
  conv => lhs; arg 1; unfold l14x0
  simp -implicitDefEqProofs (maxSteps := 5000000) only [go_sem, Nat.reduceShiftRight, Nat.reduceAnd, Nat.reduceBNe, Int.reduceEq, Nat.reduceAdd, Nat.reduceSub, Nat.reduceMul, Nat.reduceLeDiff, reduceIte, reduceCtorEq, Nat.reduceBEq, Nat.reduceEqDiff, go_sem, hl, hd, h2, ha1, hl1, ha2, hl2, hne]
theorem intsC {H : AHeap} {v w : AV} {zs : List Int} (b : IS H v zs) (c : IS H w zs) (hn : zs.length ≤ 1000000) : (envL prog).call 14 [v, w] H = some (.bool true, H) := by
 obtain ⟨k5, k11, k12, k13, k14, k15, k16, k17, k18, k19, k20, k21, k22, k23, k24, k25, e⟩ := intsL b c hn .undef .undef v (.int .i64 zs.length) w (.int .i64 zs.length) (.bool false) zs.length 0 .undef .undef .undef .undef .undef .undef .undef .undef .undef .undef .undef .undef .undef .undef .undef (by omega)
 have hl := b.len
 have hl2 := c.len
 have hne : ((zs.length : Int) != (zs.length : Int)) = false := by simp
 rw [show ((0 : Nat) : Int) = 0 from rfl] at e
 rw [c14]
 unfold b14
 simp -implicitDefEqProofs (maxSteps := 5000000) only [go_sem, Nat.reduceShiftRight, Nat.reduceAnd, Nat.reduceBNe, Int.reduceEq, Nat.reduceAdd, Nat.reduceSub, Nat.reduceMul, Nat.reduceLeDiff, reduceIte, reduceCtorEq, Nat.reduceBEq, Nat.reduceEqDiff, go_sem, runC_loop, hl, hl2, hne, e]
end Go.Proofs.Ytfioahnogphnfaa.G12.Bt
end
section
namespace Go.Proofs.Ytfioahnogphnfaa.G12.Bt
open Go Go.Proofs.Ytfioahnogphnfaa.Eng
theorem rep_u8 (n : Nat) : IsU8 (List.replicate n 0) := fun z hz => by rw [(List.mem_replicate.1 hz).2]; omega
end Go.Proofs.Ytfioahnogphnfaa.G12.Bt
end
section
namespace Go.Proofs.Ytfioahnogphnfaa.G12.Bt
open Go Go.Proofs.Ytfioahnogphnfaa.Eng
theorem orS_len (xs ys : List Int) : (orS xs ys).length = max xs.length ys.length := by
 unfold orS
 split <;> rw [orL_len] <;> omega
end Go.Proofs.Ytfioahnogphnfaa.G12.Bt
end
section
namespace Go.Proofs.Ytfioahnogphnfaa.G12
open Go Go.Proofs.Ytfioahnogphnfaa.Eng
theorem fits_get {L : List SnS} (f : Fits L) {i : Nat} {s : SnS} (h : L[i]? = some s) : s.Fit := f.2 s (List.mem_of_getElem? h)
section
variable {H : AHeap} {v : AV} {L : List SnS} (g : IsC H v L) (fi : Fits L)
include g fi
end
section
variable {H : AHeap} {v w : AV} {L M : List SnS} (g : IsC H v L) (f : IsC H w M) (fL : Fits L) (fM : Fits M)
include g f fL fM
end
end Go.Proofs.Ytfioahnogphnfaa.G12
end
section
namespace Go.Proofs.Ytfioahnogphnfaa.G12
open Go Go.Proofs.Ytfioahnogphnfaa.Eng
section
variable {H0 : AHeap} {v : AV} {L : List SnS} (g0 : IsC H0 v L) {p q y : Nat} {P : Nat → AHeap → Prop} {Q : AHeap → Prop} (fl : L.length ≤ 100)
 (hP : ∀ i K, P i K → K[p]? = some (.rw [.int .i64 (i : Int)]) ∧ cellsOf K q = some [v] ∧ Adds H0 K)
 (hy : ∀ i K s vc vt, P i K → L[i]? = some s → BS H0 vc s.ch → IsP H0 vt s.tb → ∃ K', ((envL prog).yield y [.int .i64 (i : Int), .agg [.int .i64 s.id, vc, vt]] K = some (.bool true, K') ∧ K'[p]? = some (.rw [.int .i64 (i : Int)]) ∧ P (i + 1) (K'.set p (.rw [.int .i64 ((i + 1 : Nat) : Int)]))) ∨ ((envL prog).yield y [.int .i64 (i : Int), .agg [.int .i64 s.id, vc, vt]] K = some (.bool false, K') ∧ Q K'))
include g0 fl hP hy
end
end Go.Proofs.Ytfioahnogphnfaa.G12
end
section
namespace Go.Proofs.Ytfioahnogphnfaa.G12
open Go Go.Proofs.Ytfioahnogphnfaa.Eng
section
variable {H : AHeap} {v : AV} {L : List SnS} (g : IsC H v L) (fi : Fits L) (b : Int)
include g fi
end
end Go.Proofs.Ytfioahnogphnfaa.G12
end
section
namespace Go.Proofs.Ytfioahnogphnfaa.G12
open Go Go.Proofs.Ytfioahnogphnfaa.Eng
section
variable {H : AHeap} {v : AV} {L : List SnS} (g : IsC H v L) (fi : Fits L) (j : Int)
include g fi
end
end Go.Proofs.Ytfioahnogphnfaa.G12
end
section
namespace Go.Proofs.Ytfioahnogphnfaa.G12
open Go Go.Proofs.Ytfioahnogphnfaa.Eng
structure Owned (H K : AHeap) (s : SnS) (vc vt : AV) : Prop where
 a : Adds H K
 bc : BS K vc s.ch
 pt : IsP K vt s.tb
 gc : ∀ b, slb vc = some b → H.length ≤ b
 gt : ∀ b, slb vt = some b → H.length ≤ b
theorem Owned.row {H K : AHeap} {s : SnS} {vc vt : AV} (o : Owned H K s vc vt) : SnR K [.int .i64 s.id, vc, vt] s := ⟨vc, vt, rfl, o.bc, o.pt⟩
theorem Owned.cells {H K : AHeap} {s : SnS} {vc vt : AV} (o : Owned H K s vc vt) : [AV.int .i64 s.id, vc, vt].all AV.isCell = true := o.row.cell
section
variable {H : AHeap} {s : SnS} {vc vt : AV} (bc : BS H vc s.ch) (pt : IsP H vt s.tb) (ft : s.Fit)
include bc pt ft
end
end Go.Proofs.Ytfioahnogphnfaa.G12
end
section
namespace Go.Proofs.Ytfioahnogphnfaa.G12
open Go Go.Proofs.Ytfioahnogphnfaa.Eng
section
variable {H : AHeap} {v : AV} {L : List SnS} (g : IsC H v L) (fi : Fits L)
include g fi
end
end Go.Proofs.Ytfioahnogphnfaa.G12
end
section
namespace Go.Proofs.Ytfioahnogphnfaa.G12
open Go Go.Proofs.Ytfioahnogphnfaa.Eng
def joinS (a b : SnS) : SnS := ⟨a.id, Bt.orS a.ch b.ch, (tmerge a.tb b.tb a.tb []).1⟩
def dropN (L : List SnS) : Nat → List SnS
 | 0 => L.drop 1
 | k + 1 => match L[k]?, L[k + 1]? with
  | some a, some b => L.take k ++ joinS a b :: L.drop (k + 2)
  | _, _ => L
def dropS (L : List SnS) (i : Int) : List SnS := if i < 0 ∨ (L.length : Int) ≤ i then L else dropN L i.toNat
def cutS (L : List SnS) (i : Int) : List SnS := if i < 0 ∨ (L.length : Int) ≤ i then L else
 match L[i.toNat]? with
 | some s => L.take i.toNat ++ [⟨s.id, List.replicate s.ch.length 0, []⟩]
 | none => L
end Go.Proofs.Ytfioahnogphnfaa.G12
end
section
namespace Go.Proofs.Ytfioahnogphnfaa.G12
open Go Go.Proofs.Ytfioahnogphnfaa.Eng
section
variable {H : AHeap} {v : AV} {L : List SnS} (g : IsC H v L) (fi : Fits L)
include g fi
end
end Go.Proofs.Ytfioahnogphnfaa.G12
end
section
namespace Go.Proofs.Ytfioahnogphnfaa.G12
open Go Go.Proofs.Ytfioahnogphnfaa.Eng
section
variable {H : AHeap} {v : AV} {L : List SnS} (g : IsC H v L) (fi : Fits L)
include g fi
end
end Go.Proofs.Ytfioahnogphnfaa.G12
end
section
namespace Go.Proofs.Ytfioahnogphnfaa.G12
open Go Go.Proofs.Ytfioahnogphnfaa.Eng
section
variable {H : AHeap} {v : AV} {L : List SnS} (g : IsC H v L) (fi : Fits L)
include g fi
end
end Go.Proofs.Ytfioahnogphnfaa.G12
end
section
namespace Go.Proofs.Ytfioahnogphnfaa.G12
open Go Go.Proofs.Ytfioahnogphnfaa.Eng
section
variable {H : AHeap} {s : SnS} {vc vt : AV} (bc : BS H vc s.ch) (pt : IsP H vt s.tb) (ft : s.Fit) {q : Nat} (hq : cellsOf H q = some [.int .i64 s.id, vc, vt]) (hp : ∀ p ∈ s.tb, p.1 ≤ 9223372036854775807)
include bc pt ft hq hp
end
section
variable {H : AHeap} {s : SnS} {vc vt : AV} (bc : BS H vc s.ch) (pt : IsP H vt s.tb) (ft : s.Fit) {bl : Int} (hbl : bl ≤ 9223372036854775807) (ar : Int)
include bc pt ft hbl
end
end Go.Proofs.Ytfioahnogphnfaa.G12
end
section
namespace Go.Proofs.Ytfioahnogphnfaa.G12
open Go Go.Proofs.Ytfioahnogphnfaa.Eng
theorem FS.out {K : AHeap} {B : Nat} {v : AV} {zs : List Int} (g : FS K B v zs) : ∀ b, slb v = some b → B ≤ b ∧ b < K.length := GR.out g
theorem FS.frT {K K' : AHeap} {F : Nat → Prop} {B : Nat} {v : AV} {zs : List Int} (g : FS K B v zs) (a : Fr K K' F) (n : ∀ b, slb v = some b → ¬ F b) : FS K' B v zs := GR.frS g a n
section
variable {H : AHeap} {v : AV} {bl ar : Int} {s : SnS} {vt : AV} (pt : IsP H vt s.tb) (ft : s.Fit)
include pt ft
end
section
variable {H : AHeap} {v : AV} {L : List SnS} (g : IsC H v L) (fi : Fits L) (h8 : L.length ≤ 8) {bl : Int} (hbl : bl ≤ 9223372036854775807) (ar : Int)
include g fi h8 hbl
end
end Go.Proofs.Ytfioahnogphnfaa.G12
end
section
namespace Go.Proofs.Ytfioahnogphnfaa.G12
open Go Go.Proofs.Ytfioahnogphnfaa.Eng
section
variable {H : AHeap} {v : AV} {L : List SnS} (g : IsC H v L) (fi : Fits L) {bl : Int} (hbl : bl ≤ 9223372036854775807) (ar : Int)
include g fi hbl
end
end Go.Proofs.Ytfioahnogphnfaa.G12
end
section
namespace Go.Proofs.Ytfioahnogphnfaa.G12
open Go Go.Proofs.Ytfioahnogphnfaa.Eng
section
variable {H : AHeap} {v : AV} {L : List SnS} (g : IsC H v L) (fi : Fits L)
include g fi
end
def fairS (L : List SnS) : Bool := L.all (fun s => decide (s.ch.length ≤ 40) && decide (s.tb.length ≤ 80)) && decide (L.length ≤ 12)
section
variable {H : AHeap} {v : AV} {L : List SnS} (g : IsC H v L) (fb : L.length ≤ 9223372036854775807 ∧ ∀ s ∈ L, s.ch.length ≤ 9223372036854775807 ∧ s.tb.length ≤ 9223372036854775807)
include g fb
end
end Go.Proofs.Ytfioahnogphnfaa.G12
end
section
namespace Go.Proofs.Ytfioahnogphnfaa.G12
open Go Go.Proofs.Ytfioahnogphnfaa.Eng
section
variable {H : AHeap} {v : AV} {L : List SnS} (g : IsC H v L) (fi : Fits L)
include g fi
end
end Go.Proofs.Ytfioahnogphnfaa.G12
end
section
namespace Go.Proofs.Ytfioahnogphnfaa.G12
open Go Go.Proofs.Ytfioahnogphnfaa.Eng
end Go.Proofs.Ytfioahnogphnfaa.G12
end
section
namespace Go.Proofs.Ytfioahnogphnfaa.G12
open Go Go.Proofs.Ytfioahnogphnfaa.Eng
section
variable {K : AHeap} {B : Nat} {w : AV} {ats : List Int} (fs : FS K B w ats) (al : ats.length ≤ 100000) {s : SnS} {q : Nat} {vc vt : AV} (hq : cellsOf K q = some [.int .i64 s.id, vc, vt]) (bc : BS K vc s.ch) (pt : IsP K vt s.tb) (ft : s.Fit)
include fs al hq pt ft
include bc
end
section
variable {H : AHeap} {s : SnS} {q : Nat} {vc vt : AV} (pt : IsP H vt s.tb) (ft : s.Fit)
include pt ft
end
section
variable {K : AHeap} {v : AV} {n i0 : Nat} (wv : lenSl v = some (.int .i64 (n : Int))) (hn : n ≤ 1000) (hi0 : i0 < n) {cl : AV} {cs : List Int} (hcl : IS K cl cs) (cn : cs.length ≤ 100000) {s : SnS} {q : Nat} {vc vt : AV} (hq : cellsOf K q = some [.int .i64 s.id, vc, vt]) (pt : IsP K vt s.tb) (ft : s.Fit)
include wv hn hi0 hcl cn hq pt ft
end
end Go.Proofs.Ytfioahnogphnfaa.G12
end
section
namespace Go.Proofs.Ytfioahnogphnfaa.G12
open Go Go.Proofs.Ytfioahnogphnfaa.Eng
section
variable {H : AHeap} {v : AV} {L : List SnS} (g : IsC H v L) {bl : Int} (ar : Int) (fi : ∀ s ∈ L, s.tb.length ≤ 9223372036854775807 ∧ (Bt.goodS s.ch bl = true → tgood s.tb bl ar = true → s.Fit)) (h8 : L.length ≤ 8) (hbl : bl ≤ 9223372036854775807)
include g fi h8 hbl
end
end Go.Proofs.Ytfioahnogphnfaa.G12
end
section
namespace Go.Proofs.Ytfioahnogphnfaa.G12
open Go Go.Proofs.Ytfioahnogphnfaa.Eng
noncomputable def XD : Over := X3.up prog 12
theorem xd_ok : XD.Ok prog := up_ok goodP x3_ok _
theorem xd_call (f : Nat) (args : List AV) (h : AHeap) (ed : (f == 12) = false) (em : (f == 25) = false) (e0 : (f == 37) = false) (e1 : (f == 52) = false) (e2 : (f == 61) = false) : (envX prog XD).call f args h = (envL prog).call f args h := by
 unfold XD Over.up; rw [x_miss _ _ ed, x3_call _ _ _ em e0 e1 e2]
structure Fair (L : List SnS) : Prop where
 n : L.length ≤ 12
 u8 : ∀ s ∈ L, IsU8 s.ch
 lc : ∀ s ∈ L, s.ch.length ≤ 40
 lt : ∀ s ∈ L, s.tb.length ≤ 80
theorem fairS_fair {L : List SnS} (h : fairS L = true) (hu : ∀ s ∈ L, IsU8 s.ch) : Fair L := by
 unfold fairS at h
 rw [Bool.and_eq_true, List.all_eq_true, decide_eq_true_eq] at h
 have q := fun s hs => by
  have := h.1 s hs
  rw [Bool.and_eq_true, decide_eq_true_eq, decide_eq_true_eq] at this
  exact this
 exact ⟨h.2, hu, fun s hs => (q s hs).1, fun s hs => (q s hs).2⟩
theorem Fair.fits {L : List SnS} (f : Fair L) : Fits L := ⟨by have := f.n; omega, fun s hs => ⟨f.u8 s hs, by have := f.lc s hs; omega, by have := f.lt s hs; omega⟩⟩
theorem tmerge_len (a : List PrS) : ∀ (b k : List PrS) (f : List Int), (tmerge a b k f).1.length ≤ k.length + b.length
 | [], k, f => by simp [tmerge]
 | p :: b, k, f => by
  rw [tmerge]
  split
  ·have := tmerge_len a b k (f ++ [p.2]); simp only [List.length_cons]; omega
  ·have := tmerge_len a b (tput k p.1 p.2) f
   have := tput_len k p.1 p.2
   simp only [List.length_cons]; omega
theorem join_fit {s u : SnS} (h1 : IsU8 s.ch) (h2 : IsU8 u.ch) (l1 : s.ch.length ≤ 40) (l2 : u.ch.length ≤ 40) (t1 : s.tb.length ≤ 80) (t2 : u.tb.length ≤ 80) : (joinS s u).Fit :=
 ⟨Bt.orS_u8 h1 h2, by show (Bt.orS s.ch u.ch).length ≤ 1000; rw [Bt.orS_len]; omega, by have := tmerge_len s.tb u.tb s.tb []; show (tmerge s.tb u.tb s.tb []).1.length ≤ 1000; omega⟩
theorem dropN_mem {L : List SnS} : ∀ {k : Nat} {x : SnS}, x ∈ dropN L k → x ∈ L ∨ ∃ s ∈ L, ∃ u ∈ L, x = joinS s u
 | 0, x, h => .inl (List.mem_of_mem_drop h)
 | k + 1, x, h => by
  simp only [dropN] at h
  split at h
  ·rename_i s u hs hu
   rcases List.mem_append.1 h with h | h
   ·exact .inl (List.mem_of_mem_take h)
   ·rcases List.mem_cons.1 h with h | h
    ·exact .inr ⟨s, List.mem_of_getElem? hs, u, List.mem_of_getElem? hu, h⟩
    ·exact .inl (List.mem_of_mem_drop h)
  ·exact .inl h
theorem dropN_len {L : List SnS} : ∀ k : Nat, (dropN L k).length ≤ L.length
 | 0 => by unfold dropN; rw [List.length_drop]; omega
 | k + 1 => by
  simp only [dropN]
  split
  ·rename_i s u hs hu
   have := (List.getElem?_eq_some_iff.1 hu).1
   rw [List.length_append, List.length_take, List.length_cons, List.length_drop]; omega
  ·exact Nat.le_refl _
theorem Fair.drop {L : List SnS} (f : Fair L) (i : Int) : Fits (dropS L i) := by
 unfold dropS
 split
 ·exact f.fits
 ·refine ⟨by have := dropN_len (L := L) i.toNat; have := f.n; omega, fun x hx => ?_⟩
  rcases dropN_mem hx with h | ⟨s, hs, u, hu, rfl⟩
  ·exact f.fits.2 x h
  ·exact join_fit (f.u8 s hs) (f.u8 u hu) (f.lc s hs) (f.lc u hu) (f.lt s hs) (f.lt u hu)
theorem Fair.cut {L : List SnS} (f : Fair L) (i : Int) : Fits (cutS L i) := by
 unfold cutS
 split
 ·exact f.fits
 ·split
  ·rename_i s hs
   refine ⟨by rw [List.length_append, List.length_take, List.length_singleton]; have := f.n; omega, fun x hx => ?_⟩
   rcases List.mem_append.1 hx with h | h
   ·exact f.fits.2 x (List.mem_of_mem_take h)
   ·rw [List.mem_singleton.1 h]
    exact ⟨Bt.rep_u8 _, by show (List.replicate s.ch.length (0 : Int)).length ≤ 1000; rw [List.length_replicate]; have := f.lc s (List.mem_of_getElem? hs); omega, by simp⟩
  ·exact f.fits
theorem tmod_nat {n m : Int} (h : 0 ≤ n) (hm : 0 < m) : 0 ≤ n.tmod m ∧ n.tmod m < m := by
 rw [Int.tmod_eq_emod_of_nonneg h]
 exact ⟨Int.emod_nonneg _ (by omega), Int.emod_lt_of_pos _ hm⟩
end Go.Proofs.Ytfioahnogphnfaa.G12
end
section
namespace Go.Proofs.Ytfioahnogphnfaa.G12
open Go Go.Proofs.Ytfioahnogphnfaa.Eng
end Go.Proofs.Ytfioahnogphnfaa.G12
end
section
namespace Go.Proofs.Ytfioahnogphnfaa.G12
open Go Go.Proofs.Ytfioahnogphnfaa.Eng
def ren189 : Go.Shelf.Ren := ⟨fun n => if n = 125 then 30 else if n = 128 then 49 else if n = 129 then 50 else if n = 189 then 15 else if n = 215 then 60 else if n = 216 then 46 else if n = 257 then 29 else if n = 294 then 40 else if n = 295 then 41 else if n = 296 then 42 else if n = 297 then 43 else if n = 298 then 44 else if n = 299 then 45 else if n = 300 then 47 else if n = 301 then 48 else if n = 328 then 55 else if n = 329 then 56 else if n = 330 then 57 else if n = 331 then 58 else if n = 332 then 59 else if n = 343 then 63 else 0, fun n => if n = 0 then 0 else if n = 3 then 3 else if n = 4 then 4 else if n = 5 then 5 else if n = 9 then 9 else if n = 28 then 22 else if n = 46 then 71 else if n = 51 then 89 else if n = 53 then 91 else if n = 131 then 44 else if n = 182 then 81 else if n = 183 then 82 else if n = 218 then 95 else if n = 222 then 99 else if n = 228 then 103 else if n = 229 then 104 else 0, fun _ => 0⟩
set_option maxRecDepth 100000 in
theorem lays189 : Go.Proofs.Lays.n189 prog ren189 where
 mixed := by kernel_rfl
 f125 := Go.Proofs.Try.func30.trans (congrArg some (by kernel_rfl))
 f128 := Go.Proofs.Try.func49.trans (congrArg some (by kernel_rfl))
 f129 := Go.Proofs.Try.func50.trans (congrArg some (by kernel_rfl))
 f189 := Go.Proofs.Try.func15.trans (congrArg some (by kernel_rfl))
 f215 := Go.Proofs.Try.func60.trans (congrArg some (by kernel_rfl))
 f216 := Go.Proofs.Try.func46.trans (congrArg some (by kernel_rfl))
 f257 := Go.Proofs.Try.func29.trans (congrArg some (by kernel_rfl))
 f294 := Go.Proofs.Try.func40.trans (congrArg some (by kernel_rfl))
 f295 := Go.Proofs.Try.func41.trans (congrArg some (by kernel_rfl))
 f296 := Go.Proofs.Try.func42.trans (congrArg some (by kernel_rfl))
 f297 := Go.Proofs.Try.func43.trans (congrArg some (by kernel_rfl))
 f298 := Go.Proofs.Try.func44.trans (congrArg some (by kernel_rfl))
 f299 := Go.Proofs.Try.func45.trans (congrArg some (by kernel_rfl))
 f300 := Go.Proofs.Try.func47.trans (congrArg some (by kernel_rfl))
 f301 := Go.Proofs.Try.func48.trans (congrArg some (by kernel_rfl))
 f328 := Go.Proofs.Try.func55.trans (congrArg some (by kernel_rfl))
 f329 := Go.Proofs.Try.func56.trans (congrArg some (by kernel_rfl))
 f330 := Go.Proofs.Try.func57.trans (congrArg some (by kernel_rfl))
 f331 := Go.Proofs.Try.func58.trans (congrArg some (by kernel_rfl))
 f332 := Go.Proofs.Try.func59.trans (congrArg some (by kernel_rfl))
 f343 := Go.Proofs.Try.func63.trans (congrArg some (by kernel_rfl))
 t0 := Go.Proofs.Try.underlying0
 a0 := Go.Proofs.Try.isAgg0
 z0 := Go.Proofs.Try.sizeOf0
 v0 := Go.Proofs.Try.zeroValue0
 t3 := Go.Proofs.Try.underlying3
 a3 := Go.Proofs.Try.isAgg3
 z3 := Go.Proofs.Try.sizeOf3
 v3 := Go.Proofs.Try.zeroValue3
 t4 := Go.Proofs.Try.underlying4
 a4 := Go.Proofs.Try.isAgg4
 z4 := Go.Proofs.Try.sizeOf4
 v4 := Go.Proofs.Try.zeroValue4
 t5 := Go.Proofs.Try.underlying5
 a5 := Go.Proofs.Try.isAgg5
 z5 := Go.Proofs.Try.sizeOf5
 v5 := Go.Proofs.Try.zeroValue5
 t9 := Go.Proofs.Try.underlying9
 a9 := Go.Proofs.Try.isAgg9
 z9 := Go.Proofs.Try.sizeOf9
 v9 := Go.Proofs.Try.zeroValue9
 t28 := Go.Proofs.Try.underlying22
 a28 := Go.Proofs.Try.isAgg22
 z28 := Go.Proofs.Try.sizeOf22
 v28 := Go.Proofs.Try.zeroValue22
 t46 := Go.Proofs.Try.underlying71
 a46 := Go.Proofs.Try.isAgg71
 z46 := Go.Proofs.Try.sizeOf71
 v46 := Go.Proofs.Try.zeroValue71
 t51 := Go.Proofs.Try.underlying89
 a51 := Go.Proofs.Try.isAgg89
 z51 := Go.Proofs.Try.sizeOf89
 v51 := Go.Proofs.Try.zeroValue89
 t53 := Go.Proofs.Try.underlying91
 a53 := Go.Proofs.Try.isAgg91
 z53 := Go.Proofs.Try.sizeOf91
 v53 := Go.Proofs.Try.zeroValue91
 t131 := Go.Proofs.Try.underlying44
 a131 := Go.Proofs.Try.isAgg44
 z131 := Go.Proofs.Try.sizeOf44
 v131 := Go.Proofs.Try.zeroValue44
 t182 := Go.Proofs.Try.underlying81
 a182 := Go.Proofs.Try.isAgg81
 z182 := Go.Proofs.Try.sizeOf81
 v182 := Go.Proofs.Try.zeroValue81
 t183 := Go.Proofs.Try.underlying82
 a183 := Go.Proofs.Try.isAgg82
 z183 := Go.Proofs.Try.sizeOf82
 v183 := Go.Proofs.Try.zeroValue82
 t218 := Go.Proofs.Try.underlying95
 a218 := Go.Proofs.Try.isAgg95
 z218 := Go.Proofs.Try.sizeOf95
 v218 := Go.Proofs.Try.zeroValue95
 t222 := Go.Proofs.Try.underlying99
 a222 := Go.Proofs.Try.isAgg99
 z222 := Go.Proofs.Try.sizeOf99
 v222 := Go.Proofs.Try.zeroValue99
 t228 := Go.Proofs.Try.underlying103
 a228 := Go.Proofs.Try.isAgg103
 z228 := Go.Proofs.Try.sizeOf103
 v228 := Go.Proofs.Try.zeroValue103
 t229 := Go.Proofs.Try.underlying104
 a229 := Go.Proofs.Try.isAgg104
 z229 := Go.Proofs.Try.sizeOf104
 v229 := Go.Proofs.Try.zeroValue104
theorem sortOk : ∀ args h v h', sortR args h = some (v, h') → Told1 prog 15 args h v h' :=
 sort_told ⟨_, Go.Proofs.Try.func15, by kernel_rfl⟩ (fun blk off cap zs w h1 h2 h3 => Go.Proofs.Any.slices_Sort_int lays189 blk off cap zs w h1 h2 h3) (fun p cap w => Go.Proofs.Any.slices_Sort_int_none lays189 p cap w)
noncomputable def XS : Over := XD.with 15 sortR
theorem xs_ok : XS.Ok prog := with_ok xd_ok sortOk
theorem xs_call (f : Nat) (args : List AV) (h : AHeap) (es : (f == 15) = false) (ed : (f == 12) = false) (em : (f == 25) = false) (e0 : (f == 37) = false) (e1 : (f == 52) = false) (e2 : (f == 61) = false) : (envX prog XS).call f args h = (envL prog).call f args h := by
 unfold XS; rw [x_miss _ _ es, xd_call _ _ _ ed em e0 e1 e2]
theorem map_take_flat (zs : List Int) : (zs.map fun z => [AV.int .i64 z]).flatten = zs.map fun z => AV.int .i64 z := by
 induction zs with
 | nil => rfl
 | cons z zs ih => rw [List.map_cons, List.flatten_cons, ih]; rfl
theorem xs_sort {K : AHeap} {B : Nat} {v : AV} {zs : List Int} (g : FS K B v zs) (hn : zs.length ≤ 1000000) : ∃ K', (envX prog XS).call 15 [v] K = some (.tup [], K') ∧ FS K' B v (srt zs) ∧ Fr K K' (fun b => slb v = some b) ∧ K'.length = K.length := by
 rcases g with ⟨h, rfl⟩ | ⟨h, b, hb, rfl, hK⟩
 ·obtain rfl := List.map_eq_nil_iff.1 h
  exact ⟨K, x_hit rfl, .inl ⟨by rw [show srt [] = [] from List.mergeSort_nil]; rfl, rfl⟩, ⟨Nat.le_refl _, fun _ _ _ => rfl⟩, rfl⟩
 ·have hl : (zs.map fun z => [AV.int .i64 z]).length = zs.length := List.length_map _
  have hz : zs.length ≠ 0 := fun e => h (by rw [List.map_eq_nil_iff]; exact List.length_eq_zero_iff.1 e)
  rw [map_take_flat] at hK
  rw [hl]
  have e : sortR [.sl b 0 1 zs.length zs.length false] K = some (.tup [], K.set b (.rw ((srt zs).map fun z => AV.int .i64 z))) := by
   unfold sortR
   simp only
   rw [if_neg hz, hK]
   simp only
   rw [if_pos ⟨by rw [List.length_map]; omega, by omega⟩, List.drop_zero, List.take_of_length_le (by rw [List.length_map]; exact Nat.le_refl _), intsOf_of]
   simp only [List.take_zero, List.nil_append, Nat.zero_add]
   rw [List.drop_eq_nil_of_le (by rw [List.length_map]; exact Nat.le_refl _), List.append_nil]
  refine ⟨_, x_hit e, .inr ⟨fun q => ?_, b, hb, by rw [List.length_map, srt_len], ?_⟩, Fr.set _ _ (F := fun x => slb (AV.sl b 0 1 zs.length zs.length false) = some x) rfl, by rw [List.length_set]⟩
  ·rw [List.map_eq_nil_iff] at q
   have := srt_len zs
   rw [q] at this; simp at this; omega
  ·rw [map_take_flat, at_set _ _ _ (lt_of_at hK)]
theorem lessC (x y : Int) (H : AHeap) : (envL prog).call 46 [.int .i64 x, .int .i64 y] H = some (.bool (decide (x < y)), H) := by
 have nn : ∀ z : Int, (z != z) = false := fun z => by simp
 rw [c46]
 unfold b46
 simp -implicitDefEqProofs (maxSteps := 5000000) only [go_sem, Nat.reduceShiftRight, Nat.reduceAnd, Nat.reduceBNe, Int.reduceEq, Nat.reduceAdd, Nat.reduceSub, Nat.reduceMul, Nat.reduceLeDiff, reduceIte, reduceCtorEq, Nat.reduceBEq, Nat.reduceEqDiff, wrap64, runC_loop, runC_range, callF_fn, callV_fn, callV_yld, yield_eq, yieldBody, yieldRaw, roundMid, roundEnd, rangeEnd, Bool.not_not, put_cons, put_nil, trim_same, at_zero, at_add, set_zero, set_add, store_one, write_zero, write_add, write_head, write_succ, splice_one, splice_more, List.drop_nil, List.take_nil, cell_int, cell_bool, fillS, splice_one, idxA, Ex.isNormal, List.set_nil, List.length_set, List.all_cons, List.all_nil, Bool.and_self, and_self, true_and, and_true, List.getElem?_nil, Int.reduceLT, Int.reduceLE, Int.reduceToNat, Int.toNat_zero, Int.toNat_one, Int.reduceAdd, Int.reduceSub, Int.reduceMul, Int.reduceNeg, Int.reduceBEq, Int.reduceBNe, Int.reduceGE, Int.reduceGT, Nat.reduceLT, trim_keep, under_fn, under_ptr, under_sl, Nat.lt_irrefl, not_lt_add, trim_tail, keepOk, ABlk.vals, Int.cast_ofNat_Int, decide_true, decide_false, List.all_cons, List.all_nil, Nat.zero_mul, Nat.mul_one, Nat.one_mul, c60, b60, nn]
theorem nanC (x : Int) (H : AHeap) : (envL prog).call 51 [.int .i64 x] H = some (.bool false, H) := by
 have nn : (x != x) = false := by simp
 rw [c51]
 unfold b51
 simp -implicitDefEqProofs (maxSteps := 5000000) only [go_sem, Nat.reduceShiftRight, Nat.reduceAnd, Nat.reduceBNe, Int.reduceEq, Nat.reduceAdd, Nat.reduceSub, Nat.reduceMul, Nat.reduceLeDiff, reduceIte, reduceCtorEq, Nat.reduceBEq, Nat.reduceEqDiff, wrap64, runC_loop, runC_range, callF_fn, callV_fn, callV_yld, yield_eq, yieldBody, yieldRaw, roundMid, roundEnd, rangeEnd, Bool.not_not, put_cons, put_nil, trim_same, at_zero, at_add, set_zero, set_add, store_one, write_zero, write_add, write_head, write_succ, splice_one, splice_more, List.drop_nil, List.take_nil, cell_int, cell_bool, fillS, splice_one, idxA, Ex.isNormal, List.set_nil, List.length_set, List.all_cons, List.all_nil, Bool.and_self, and_self, true_and, and_true, List.getElem?_nil, Int.reduceLT, Int.reduceLE, Int.reduceToNat, Int.toNat_zero, Int.toNat_one, Int.reduceAdd, Int.reduceSub, Int.reduceMul, Int.reduceNeg, Int.reduceBEq, Int.reduceBNe, Int.reduceGE, Int.reduceGT, Nat.reduceLT, trim_keep, under_fn, under_ptr, under_sl, Nat.lt_irrefl, not_lt_add, trim_tail, keepOk, ABlk.vals, Int.cast_ofNat_Int, decide_true, decide_false, List.all_cons, List.all_nil, Nat.zero_mul, Nat.mul_one, Nat.one_mul, nn]
theorem shr1 (a : Int) : binV .shr .none (.int .u64 a) (.int .u64 1) = some (.int .u64 (a.fdiv 2)) := rfl
section
variable {H : AHeap} {v : AV} {u : List Int} (g : IS H v u) (up : u.Pairwise (· < ·)) (hn : u.length ≤ 1000000) (x : Int)
include g up hn
set_option maxHeartbeats 4000000 in
theorem bsL (x2 x3 x4 x5 x6 x10 x11 x12 x31 x32 x33 x34 x35 x36 x37 x38 x39 x40 x41 x42 x43 x44 x45 x46 x47 x48 x49 x50 x51 x52 x53 : AV) : ∀ (k i j : Nat) (j9 j13 j14 j15 j16 j17 j18 j19 j20 j21 j22 j23 j24 j25 j26 j27 j28 j29 j30 : AV), j - i ≤ k → i ≤ j → j ≤ u.length → (∀ y ∈ u.take i, y < x) → (∀ y ∈ u.drop j, x ≤ y) →
  Outs (LP1 l32x0 [v, .int .i64 x, x2, x3, x4, x5, x6, .int .i64 (i : Int), .int .i64 (j : Int), j9, x10, x11, x12, j13, j14, j15, j16, j17, j18, j19, j20, j21, j22, j23, j24, j25, j26, j27, j28, j29, j30, x31, x32, x33, x34, x35, x36, x37, x38, x39, x40, x41, x42, x43, x44, x45, x46, x47, x48, x49, x50, x51, x52, x53] H) fun e t K => e = .exit 0 ∧ K = H ∧ ∃ fv : Nat → AV, t = [v, .int .i64 x, x2, x3, x4, x5, x6, (fv 7), (fv 8), (fv 9), x10, x11, x12, (fv 13), (fv 14), (fv 15), (fv 16), (fv 17), (fv 18), (fv 19), (fv 20), (fv 21), (fv 22), (fv 23), (fv 24), (fv 25), (fv 26), (fv 27), (fv 28), (fv 29), (fv 30), x31, x32, x33, x34, x35, x36, x37, x38, x39, x40, x41, x42, x43, x44, x45, x46, x47, x48, x49, x50, x51, x52, x53] ∧ ∃ q : Nat, fv 7 = .int .i64 (q : Int) ∧ q ≤ u.length ∧ (∀ y ∈ u.take q, y < x) ∧ ∀ y ∈ u.drop q, x ≤ y := by
 intro k
 obtain ⟨L0, hL0⟩ : ∃ L, L = LP1 l32x0 := ⟨_, rfl⟩
 have lo := loop_open hL0
 rw [← hL0]
 induction k with
 | zero =>
  intro i j j9 j13 j14 j15 j16 j17 j18 j19 j20 j21 j22 j23 j24 j25 j26 j27 j28 j29 j30 hk hij hj h1 h2
  obtain rfl : i = j := by omega
  have hd : decide ((i : Int) < (i : Int)) = false := by simp
  rw [lo]
  unfold l32x0
  simp -implicitDefEqProofs (maxSteps := 5000000) only [go_sem, Nat.reduceShiftRight, Nat.reduceAnd, Nat.reduceBNe, Int.reduceEq, Nat.reduceAdd, Nat.reduceSub, Nat.reduceMul, Nat.reduceLeDiff, reduceIte, reduceCtorEq, Nat.reduceBEq, Nat.reduceEqDiff, hd, seqR_exit', outs_normal]
  exact exF2 rfl ⟨i, rfl, hj, h1, h2⟩
 | succ k ih =>
  intro i j j9 j13 j14 j15 j16 j17 j18 j19 j20 j21 j22 j23 j24 j25 j26 j27 j28 j29 j30 hk hij hj h1 h2
  by_cases hlt : i < j
  ·have hd : decide ((i : Int) < (j : Int)) = true := decide_eq_true (by omega)
   obtain ⟨m, hm⟩ : ∃ m, m = (i + j) / 2 := ⟨_, rfl⟩
   have s1 : IntKind.i64.wrap ((i : Int) + (j : Int)) = (i : Int) + (j : Int) := wrap64 (by omega) (by omega)
   have s2 : IntKind.u64.wrap ((i : Int) + (j : Int)) = (i : Int) + (j : Int) := wrapu64_id (by omega) (by omega)
   have s3 : ((i : Int) + (j : Int)).fdiv 2 = (m : Int) := by rw [Int.fdiv_eq_ediv_of_nonneg _ (by omega)]; omega
   have s4 : IntKind.i64.wrap (m : Int) = (m : Int) := wrap64 (by omega) (by omega)
   have s5 : IntKind.i64.wrap ((m : Int) + 1) = ((m + 1 : Nat) : Int) := by rw [wrap64 (by omega) (by omega)]; omega
   have ml : m < u.length := by omega
   have hx := List.getElem?_eq_getElem ml
   have ev : u = u.take m ++ u[m] :: u.drop (m + 1) := by rw [← List.drop_eq_getElem_cons ml, List.take_append_drop]
   have up2 := up
   rw [ev] at up2
   obtain ⟨p1, p2, p3⟩ := List.pairwise_append.1 up2
   obtain ⟨p4, p5⟩ := List.pairwise_cons.1 p2
   have tk : u.take (m + 1) = u.take m ++ [u[m]] := by rw [List.take_add_one, hx]; rfl
   have dr : u.drop m = u[m] :: u.drop (m + 1) := List.drop_eq_getElem_cons ml
   generalize u[m] = y at *
   obtain ⟨a, ix, ld⟩ := g.idx hx .i64
   have el := lessC y x H
   rw [lo]
   unfold l32x0
   by_cases h : y < x
   ·rw [decide_eq_true h] at el
    simp -implicitDefEqProofs (maxSteps := 5000000) only [go_sem, Nat.reduceShiftRight, Nat.reduceAnd, Nat.reduceBNe, Int.reduceEq, Nat.reduceAdd, Nat.reduceSub, Nat.reduceMul, Nat.reduceLeDiff, reduceIte, reduceCtorEq, Nat.reduceBEq, Nat.reduceEqDiff, wrap64, runC_loop, runC_range, callF_fn, callV_fn, callV_yld, yield_eq, yieldBody, yieldRaw, roundMid, roundEnd, rangeEnd, Bool.not_not, put_cons, put_nil, trim_same, at_zero, at_add, set_zero, set_add, store_one, write_zero, write_add, write_head, write_succ, splice_one, splice_more, List.drop_nil, List.take_nil, cell_int, cell_bool, fillS, splice_one, idxA, Ex.isNormal, List.set_nil, List.length_set, List.all_cons, List.all_nil, Bool.and_self, and_self, true_and, and_true, List.getElem?_nil, Int.reduceLT, Int.reduceLE, Int.reduceToNat, Int.toNat_zero, Int.toNat_one, Int.reduceAdd, Int.reduceSub, Int.reduceMul, Int.reduceNeg, Int.reduceBEq, Int.reduceBNe, Int.reduceGE, Int.reduceGT, Nat.reduceLT, trim_keep, under_fn, under_ptr, under_sl, Nat.lt_irrefl, not_lt_add, trim_tail, keepOk, ABlk.vals, Int.cast_ofNat_Int, decide_true, decide_false, List.all_cons, List.all_nil, Nat.zero_mul, Nat.mul_one, Nat.one_mul, hd, s1, s2, shr1, s3, s4, ix, ld, el, s5]
    refine ih (m + 1) j _ _ _ _ _ _ _ _ _ _ _ _ _ _ _ _ _ _ _ (by omega) (by omega) hj (fun z hz => ?_) h2
    rw [tk] at hz
    rcases List.mem_append.1 hz with q | q
    ·have := p3 z q y (by simp); omega
    ·rw [List.mem_singleton.1 q]; exact h
   ·rw [decide_eq_false h] at el
    simp -implicitDefEqProofs (maxSteps := 5000000) only [go_sem, Nat.reduceShiftRight, Nat.reduceAnd, Nat.reduceBNe, Int.reduceEq, Nat.reduceAdd, Nat.reduceSub, Nat.reduceMul, Nat.reduceLeDiff, reduceIte, reduceCtorEq, Nat.reduceBEq, Nat.reduceEqDiff, wrap64, runC_loop, runC_range, callF_fn, callV_fn, callV_yld, yield_eq, yieldBody, yieldRaw, roundMid, roundEnd, rangeEnd, Bool.not_not, put_cons, put_nil, trim_same, at_zero, at_add, set_zero, set_add, store_one, write_zero, write_add, write_head, write_succ, splice_one, splice_more, List.drop_nil, List.take_nil, cell_int, cell_bool, fillS, splice_one, idxA, Ex.isNormal, List.set_nil, List.length_set, List.all_cons, List.all_nil, Bool.and_self, and_self, true_and, and_true, List.getElem?_nil, Int.reduceLT, Int.reduceLE, Int.reduceToNat, Int.toNat_zero, Int.toNat_one, Int.reduceAdd, Int.reduceSub, Int.reduceMul, Int.reduceNeg, Int.reduceBEq, Int.reduceBNe, Int.reduceGE, Int.reduceGT, Nat.reduceLT, trim_keep, under_fn, under_ptr, under_sl, Nat.lt_irrefl, not_lt_add, trim_tail, keepOk, ABlk.vals, Int.cast_ofNat_Int, decide_true, decide_false, List.all_cons, List.all_nil, Nat.zero_mul, Nat.mul_one, Nat.one_mul, hd, s1, s2, shr1, s3, s4, ix, ld, el]
    refine ih i m _ _ _ _ _ _ _ _ _ _ _ _ _ _ _ _ _ _ _ (by omega) (by omega) (by omega) h1 (fun z hz => ?_)
    rw [dr] at hz
    rcases List.mem_cons.1 hz with rfl | q
    ·omega
    ·have := p4 z q; omega
  ·obtain rfl : i = j := by omega
   have hd : decide ((i : Int) < (i : Int)) = false := by simp
   rw [lo]
   unfold l32x0
   simp -implicitDefEqProofs (maxSteps := 5000000) only [go_sem, Nat.reduceShiftRight, Nat.reduceAnd, Nat.reduceBNe, Int.reduceEq, Nat.reduceAdd, Nat.reduceSub, Nat.reduceMul, Nat.reduceLeDiff, reduceIte, reduceCtorEq, Nat.reduceBEq, Nat.reduceEqDiff, hd, seqR_exit', outs_normal]
   exact exF2 rfl ⟨i, rfl, hj, h1, h2⟩
theorem searchC : ∃ q : Int, (envL prog).call 32 [v, .int .i64 x] H = some (.tup [.int .i64 q, .bool (decide (x ∈ u))], H) := by
 have wl := g.len
 have l0 := bsL g up hn x (k := u.length) (i := 0) (j := u.length)
 rw [show ((0 : Nat) : Int) = 0 from rfl] at l0
 have key : Outs (runC (envL prog) (b32 (envL prog)) ([v, .int .i64 x] ++ List.replicate (54 - [v, AV.int .i64 x].length) .undef) H) fun e' t K => K = H ∧ ∃ q : Int, fin [.tmp 4, .tmp 5] (some (e', t, K)) = some (.tup [.int .i64 q, .bool (decide (x ∈ u))], K) := by
  unfold b32
  generalize hQ : (fun (e' : Ex) (t : T) (K : AHeap) => K = H ∧ ∃ q : Int, fin [.tmp 4, .tmp 5] (some (e', t, K)) = some (AV.tup [.int .i64 q, .bool (decide (x ∈ u))], K)) = Q
  simp -implicitDefEqProofs (maxSteps := 5000000) only [go_sem, Nat.reduceShiftRight, Nat.reduceAnd, Nat.reduceBNe, Int.reduceEq, Nat.reduceAdd, Nat.reduceSub, Nat.reduceMul, Nat.reduceLeDiff, reduceIte, reduceCtorEq, Nat.reduceBEq, Nat.reduceEqDiff, wrap64, runC_loop, runC_range, callF_fn, callV_fn, callV_yld, yield_eq, yieldBody, yieldRaw, roundMid, roundEnd, rangeEnd, Bool.not_not, put_cons, put_nil, trim_same, at_zero, at_add, set_zero, set_add, store_one, write_zero, write_add, write_head, write_succ, splice_one, splice_more, List.drop_nil, List.take_nil, cell_int, cell_bool, fillS, splice_one, idxA, Ex.isNormal, List.set_nil, List.length_set, List.all_cons, List.all_nil, Bool.and_self, and_self, true_and, and_true, List.getElem?_nil, Int.reduceLT, Int.reduceLE, Int.reduceToNat, Int.toNat_zero, Int.toNat_one, Int.reduceAdd, Int.reduceSub, Int.reduceMul, Int.reduceNeg, Int.reduceBEq, Int.reduceBNe, Int.reduceGE, Int.reduceGT, Nat.reduceLT, trim_keep, under_fn, under_ptr, under_sl, Nat.lt_irrefl, not_lt_add, trim_tail, keepOk, ABlk.vals, Int.cast_ofNat_Int, decide_true, decide_false, List.all_cons, List.all_nil, Nat.zero_mul, Nat.mul_one, Nat.one_mul, runC_loop, wl]
  unfold LP1 at l0
  generalize (envL prog).loop (runC (envL prog) (l32x0 (envL prog))) = L0 at l0 ⊢
  refine outs_ctx (fun r => seqR (blockR 0 r) _) (l0 _ _ _ _ _ _ _ _ _ _ _ _ _ _ _ _ _ _ _ _ _ _ _ _ _ _ _ _ _ _ _ _ _ _ _ _ _ _ _ _ _ _ _ _ _ _ _ _ _ _ (by omega) (by omega) (by omega) (by simp) (by simp)) ?_
  rintro e t K ⟨rfl, rfl, fv, rfl, q, f7, ql, h1, h2⟩
  have nan := fun y => nanC y K
  by_cases hq : q < u.length
  ·have dq : decide ((q : Int) < (u.length : Int)) = true := decide_eq_true (by omega)
   have hx := List.getElem?_eq_getElem hq
   have ev : u = u.take q ++ u[q] :: u.drop (q + 1) := by rw [← List.drop_eq_getElem_cons hq, List.take_append_drop]
   have dr : u.drop q = u[q] :: u.drop (q + 1) := List.drop_eq_getElem_cons hq
   have up2 := up
   rw [ev] at up2
   obtain ⟨p1, p2, p3⟩ := List.pairwise_append.1 up2
   obtain ⟨p4, p5⟩ := List.pairwise_cons.1 p2
   generalize u[q] = y at *
   obtain ⟨a, ix, ld⟩ := g.idx hx .i64
   by_cases hy : y = x
   ·subst hy
    have hm : decide (y ∈ u) = true := decide_eq_true (List.mem_of_getElem? hx)
    have b2 : (y == y) = true := by simp
    simp -implicitDefEqProofs (maxSteps := 5000000) only [go_sem, Nat.reduceShiftRight, Nat.reduceAnd, Nat.reduceBNe, Int.reduceEq, Nat.reduceAdd, Nat.reduceSub, Nat.reduceMul, Nat.reduceLeDiff, reduceIte, reduceCtorEq, Nat.reduceBEq, Nat.reduceEqDiff, wrap64, runC_loop, runC_range, callF_fn, callV_fn, callV_yld, yield_eq, yieldBody, yieldRaw, roundMid, roundEnd, rangeEnd, Bool.not_not, put_cons, put_nil, trim_same, at_zero, at_add, set_zero, set_add, store_one, write_zero, write_add, write_head, write_succ, splice_one, splice_more, List.drop_nil, List.take_nil, cell_int, cell_bool, fillS, splice_one, idxA, Ex.isNormal, List.set_nil, List.length_set, List.all_cons, List.all_nil, Bool.and_self, and_self, true_and, and_true, List.getElem?_nil, Int.reduceLT, Int.reduceLE, Int.reduceToNat, Int.toNat_zero, Int.toNat_one, Int.reduceAdd, Int.reduceSub, Int.reduceMul, Int.reduceNeg, Int.reduceBEq, Int.reduceBNe, Int.reduceGE, Int.reduceGT, Nat.reduceLT, trim_keep, under_fn, under_ptr, under_sl, Nat.lt_irrefl, not_lt_add, trim_tail, keepOk, ABlk.vals, Int.cast_ofNat_Int, decide_true, decide_false, List.all_cons, List.all_nil, Nat.zero_mul, Nat.mul_one, Nat.one_mul, f7, wl, dq, ix, ld, b2, outs_normal]
    subst hQ
    rw [hm]
    refine ⟨rfl, q, ?_⟩
    simp -implicitDefEqProofs (maxSteps := 5000000) only [go_sem, Nat.reduceShiftRight, Nat.reduceAnd, Nat.reduceBNe, Int.reduceEq, Nat.reduceAdd, Nat.reduceSub, Nat.reduceMul, Nat.reduceLeDiff, reduceIte, reduceCtorEq, Nat.reduceBEq, Nat.reduceEqDiff, wrap64, runC_loop, runC_range, callF_fn, callV_fn, callV_yld, yield_eq, yieldBody, yieldRaw, roundMid, roundEnd, rangeEnd, Bool.not_not, put_cons, put_nil, trim_same, at_zero, at_add, set_zero, set_add, store_one, write_zero, write_add, write_head, write_succ, splice_one, splice_more, List.drop_nil, List.take_nil, cell_int, cell_bool, fillS, splice_one, idxA, Ex.isNormal, List.set_nil, List.length_set, List.all_cons, List.all_nil, Bool.and_self, and_self, true_and, and_true, List.getElem?_nil, Int.reduceLT, Int.reduceLE, Int.reduceToNat, Int.toNat_zero, Int.toNat_one, Int.reduceAdd, Int.reduceSub, Int.reduceMul, Int.reduceNeg, Int.reduceBEq, Int.reduceBNe, Int.reduceGE, Int.reduceGT, Nat.reduceLT, trim_keep, under_fn, under_ptr, under_sl, Nat.lt_irrefl, not_lt_add, trim_tail, keepOk, ABlk.vals, Int.cast_ofNat_Int, decide_true, decide_false, List.all_cons, List.all_nil, Nat.zero_mul, Nat.mul_one, Nat.one_mul]
   ·have hm : decide (x ∈ u) = false := decide_eq_false fun hm => by
     rw [ev] at hm
     rcases List.mem_append.1 hm with m | m
     ·have := h1 x m; omega
     ·rcases List.mem_cons.1 m with m | m
      ·exact hy m.symm
      ·have := p4 x m
       have := h2 y (by rw [dr]; simp); omega
    have b2 : (y == x) = false := by simp [hy]
    simp -implicitDefEqProofs (maxSteps := 5000000) only [go_sem, Nat.reduceShiftRight, Nat.reduceAnd, Nat.reduceBNe, Int.reduceEq, Nat.reduceAdd, Nat.reduceSub, Nat.reduceMul, Nat.reduceLeDiff, reduceIte, reduceCtorEq, Nat.reduceBEq, Nat.reduceEqDiff, wrap64, runC_loop, runC_range, callF_fn, callV_fn, callV_yld, yield_eq, yieldBody, yieldRaw, roundMid, roundEnd, rangeEnd, Bool.not_not, put_cons, put_nil, trim_same, at_zero, at_add, set_zero, set_add, store_one, write_zero, write_add, write_head, write_succ, splice_one, splice_more, List.drop_nil, List.take_nil, cell_int, cell_bool, fillS, splice_one, idxA, Ex.isNormal, List.set_nil, List.length_set, List.all_cons, List.all_nil, Bool.and_self, and_self, true_and, and_true, List.getElem?_nil, Int.reduceLT, Int.reduceLE, Int.reduceToNat, Int.toNat_zero, Int.toNat_one, Int.reduceAdd, Int.reduceSub, Int.reduceMul, Int.reduceNeg, Int.reduceBEq, Int.reduceBNe, Int.reduceGE, Int.reduceGT, Nat.reduceLT, trim_keep, under_fn, under_ptr, under_sl, Nat.lt_irrefl, not_lt_add, trim_tail, keepOk, ABlk.vals, Int.cast_ofNat_Int, decide_true, decide_false, List.all_cons, List.all_nil, Nat.zero_mul, Nat.mul_one, Nat.one_mul, f7, wl, dq, ix, ld, b2, nan, outs_normal]
    subst hQ
    rw [hm]
    refine ⟨rfl, q, ?_⟩
    simp -implicitDefEqProofs (maxSteps := 5000000) only [go_sem, Nat.reduceShiftRight, Nat.reduceAnd, Nat.reduceBNe, Int.reduceEq, Nat.reduceAdd, Nat.reduceSub, Nat.reduceMul, Nat.reduceLeDiff, reduceIte, reduceCtorEq, Nat.reduceBEq, Nat.reduceEqDiff, wrap64, runC_loop, runC_range, callF_fn, callV_fn, callV_yld, yield_eq, yieldBody, yieldRaw, roundMid, roundEnd, rangeEnd, Bool.not_not, put_cons, put_nil, trim_same, at_zero, at_add, set_zero, set_add, store_one, write_zero, write_add, write_head, write_succ, splice_one, splice_more, List.drop_nil, List.take_nil, cell_int, cell_bool, fillS, splice_one, idxA, Ex.isNormal, List.set_nil, List.length_set, List.all_cons, List.all_nil, Bool.and_self, and_self, true_and, and_true, List.getElem?_nil, Int.reduceLT, Int.reduceLE, Int.reduceToNat, Int.toNat_zero, Int.toNat_one, Int.reduceAdd, Int.reduceSub, Int.reduceMul, Int.reduceNeg, Int.reduceBEq, Int.reduceBNe, Int.reduceGE, Int.reduceGT, Nat.reduceLT, trim_keep, under_fn, under_ptr, under_sl, Nat.lt_irrefl, not_lt_add, trim_tail, keepOk, ABlk.vals, Int.cast_ofNat_Int, decide_true, decide_false, List.all_cons, List.all_nil, Nat.zero_mul, Nat.mul_one, Nat.one_mul]
  ·have dq : decide ((q : Int) < (u.length : Int)) = false := decide_eq_false (by omega)
   have hm : decide (x ∈ u) = false := decide_eq_false fun hm => by
    have := h1 x (by rw [List.take_of_length_le (by omega)]; exact hm); omega
   simp -implicitDefEqProofs (maxSteps := 5000000) only [go_sem, Nat.reduceShiftRight, Nat.reduceAnd, Nat.reduceBNe, Int.reduceEq, Nat.reduceAdd, Nat.reduceSub, Nat.reduceMul, Nat.reduceLeDiff, reduceIte, reduceCtorEq, Nat.reduceBEq, Nat.reduceEqDiff, wrap64, runC_loop, runC_range, callF_fn, callV_fn, callV_yld, yield_eq, yieldBody, yieldRaw, roundMid, roundEnd, rangeEnd, Bool.not_not, put_cons, put_nil, trim_same, at_zero, at_add, set_zero, set_add, store_one, write_zero, write_add, write_head, write_succ, splice_one, splice_more, List.drop_nil, List.take_nil, cell_int, cell_bool, fillS, splice_one, idxA, Ex.isNormal, List.set_nil, List.length_set, List.all_cons, List.all_nil, Bool.and_self, and_self, true_and, and_true, List.getElem?_nil, Int.reduceLT, Int.reduceLE, Int.reduceToNat, Int.toNat_zero, Int.toNat_one, Int.reduceAdd, Int.reduceSub, Int.reduceMul, Int.reduceNeg, Int.reduceBEq, Int.reduceBNe, Int.reduceGE, Int.reduceGT, Nat.reduceLT, trim_keep, under_fn, under_ptr, under_sl, Nat.lt_irrefl, not_lt_add, trim_tail, keepOk, ABlk.vals, Int.cast_ofNat_Int, decide_true, decide_false, List.all_cons, List.all_nil, Nat.zero_mul, Nat.mul_one, Nat.one_mul, f7, wl, dq, outs_normal]
   subst hQ
   rw [hm]
   refine ⟨rfl, q, ?_⟩
   simp -implicitDefEqProofs (maxSteps := 5000000) only [go_sem, Nat.reduceShiftRight, Nat.reduceAnd, Nat.reduceBNe, Int.reduceEq, Nat.reduceAdd, Nat.reduceSub, Nat.reduceMul, Nat.reduceLeDiff, reduceIte, reduceCtorEq, Nat.reduceBEq, Nat.reduceEqDiff, wrap64, runC_loop, runC_range, callF_fn, callV_fn, callV_yld, yield_eq, yieldBody, yieldRaw, roundMid, roundEnd, rangeEnd, Bool.not_not, put_cons, put_nil, trim_same, at_zero, at_add, set_zero, set_add, store_one, write_zero, write_add, write_head, write_succ, splice_one, splice_more, List.drop_nil, List.take_nil, cell_int, cell_bool, fillS, splice_one, idxA, Ex.isNormal, List.set_nil, List.length_set, List.all_cons, List.all_nil, Bool.and_self, and_self, true_and, and_true, List.getElem?_nil, Int.reduceLT, Int.reduceLE, Int.reduceToNat, Int.toNat_zero, Int.toNat_one, Int.reduceAdd, Int.reduceSub, Int.reduceMul, Int.reduceNeg, Int.reduceBEq, Int.reduceBNe, Int.reduceGE, Int.reduceGT, Nat.reduceLT, trim_keep, under_fn, under_ptr, under_sl, Nat.lt_irrefl, not_lt_add, trim_tail, keepOk, ABlk.vals, Int.cast_ofNat_Int, decide_true, decide_false, List.all_cons, List.all_nil, Nat.zero_mul, Nat.mul_one, Nat.one_mul]
 obtain ⟨e', t, K, hr, rfl, q, hf⟩ := key
 exact ⟨q, by rw [c32, hr, hf]; exact trim_same rfl⟩
end
end Go.Proofs.Ytfioahnogphnfaa.G12
end
section
namespace Go.Proofs.Ytfioahnogphnfaa.G12
open Go Go.Proofs.Ytfioahnogphnfaa.Eng
abbrev intsA (l : List Int) : List AV := l.map fun z => AV.int .i64 z
theorem ddF_snoc : ∀ (l : List Int) (pv : Option Int) (x : Int), ddF pv (l ++ [x]) = if (l.getLast?.or pv) = some x then ddF pv l else ddF pv l ++ [x]
 | [], pv, x => by
  show (if pv = some x then ([] : List Int) else [x]) = if (none.or pv) = some x then [] else [] ++ [x]
  rw [Option.none_or]
  split <;> rfl
 | y :: l, pv, x => by
  have hg : ((y :: l).getLast?.or pv) = (l.getLast?.or (some y)) := by
   cases l with
   | nil => rfl
   | cons z l => rw [List.getLast?_cons_cons]; cases h : (z :: l).getLast? with
    | none => simp at h
    | some q => rfl
  rw [List.cons_append, ddF, ddF, ddF_snoc l (some y) x, hg]
  split <;> split <;> rfl
theorem ddS_snoc (l : List Int) (x : Int) : ddS (l ++ [x]) = if l.getLast? = some x then ddS l else ddS l ++ [x] := by
 unfold ddS
 rw [ddF_snoc]
 cases l.getLast? <;> rfl
theorem take_last {l : List Int} {k : Nat} {x : Int} (h : l[k]? = some x) : (l.take (k + 1)).getLast? = some x := by
 rw [List.take_add_one, h]; exact List.getLast?_concat
section
variable {b n : Nat} {zs : List Int} (hn : zs.length = n) (h6 : n ≤ 1000000) {k0 : Nat} (k1 : 1 ≤ k0) (kn : k0 < n)
include hn h6 k1 kn
set_option maxHeartbeats 8000000 in
theorem cmpL0 (x1 x2 x6 x7 x8 x9 x10 x11 x12 x13 x14 x15 x16 x17 x18 x19 x20 x21 x22 x23 x24 x25 x26 x27 x28 x54 x55 x56 x57 x58 x59 x60 : AV) : ∀ (m j kk : Nat) (K : AHeap) (ys : List Int) (j29 j30 j31 j32 j33 j34 j35 j36 j37 j38 j39 j40 j41 j42 j43 j44 j45 j46 j47 j48 j49 j50 j51 j52 j53 : AV), k0 + j + m = n → 1 ≤ j → kk < k0 + j → K[b]? = some (.rw (intsA ys)) → ys.length = n → ys.take kk = ddS (zs.take (k0 + j)) → ys.drop (k0 + j - 1) = zs.drop (k0 + j - 1) →
  Outs (LP1 l16x0 [.sl b 0 1 n n false, x1, x2, .int .i64 (kk : Int), .sl b k0 1 (n - k0) (n - k0) false, .int .i64 (j : Int), x6, x7, x8, x9, x10, x11, x12, x13, x14, x15, x16, x17, x18, x19, x20, x21, x22, x23, x24, x25, x26, x27, x28, j29, j30, j31, j32, j33, j34, j35, j36, j37, j38, j39, j40, j41, j42, j43, j44, j45, j46, j47, j48, j49, j50, j51, j52, j53, x54, x55, x56, x57, x58, x59, x60] K) fun e t K' => e = .exit 2 ∧ ∃ fv : Nat → AV, t = [.sl b 0 1 n n false, x1, x2, (fv 3), .sl b k0 1 (n - k0) (n - k0) false, (fv 5), x6, x7, x8, x9, x10, x11, x12, x13, x14, x15, x16, x17, x18, x19, x20, x21, x22, x23, x24, x25, x26, x27, x28, (fv 29), (fv 30), (fv 31), (fv 32), (fv 33), (fv 34), (fv 35), (fv 36), (fv 37), (fv 38), (fv 39), (fv 40), (fv 41), (fv 42), (fv 43), (fv 44), (fv 45), (fv 46), (fv 47), (fv 48), (fv 49), (fv 50), (fv 51), (fv 52), (fv 53), x54, x55, x56, x57, x58, x59, x60] ∧ ∃ (q : Nat) (ys' : List Int), fv 3 = .int .i64 (q : Int) ∧ K' = K.set b (.rw (intsA ys')) ∧ ys'.length = n ∧ q < n ∧ ys'.take q = ddS zs := by
 intro m
 obtain ⟨L0, hL0⟩ : ∃ L, L = LP1 l16x0 := ⟨_, rfl⟩
 have lo := loop_open hL0
 rw [← hL0]
 have self : ∀ {K : AHeap} {ys : List Int}, K[b]? = some (.rw (intsA ys)) → K.set b (.rw (intsA ys)) = K := fun h => by
  apply List.ext_getElem?
  intro i
  by_cases e : i = b
  ·subst e; rw [at_set _ _ _ (lt_of_at h)]; exact h.symm
  ·rw [at_set_ne _ _ _ _ e]
 induction m with
 | zero =>
  intro j kk K ys j29 j30 j31 j32 j33 j34 j35 j36 j37 j38 j39 j40 j41 j42 j43 j44 j45 j46 j47 j48 j49 j50 j51 j52 j53 hm hj hk hK hl ht hdr
  have hd : decide ((j : Int) < ((n - k0 : Nat) : Int)) = false := decide_eq_false (by omega)
  rw [show k0 + j = zs.length by omega, List.take_length] at ht
  rw [lo]
  unfold l16x0
  simp -implicitDefEqProofs (maxSteps := 5000000) only [go_sem, Nat.reduceShiftRight, Nat.reduceAnd, Nat.reduceBNe, Int.reduceEq, Nat.reduceAdd, Nat.reduceSub, Nat.reduceMul, Nat.reduceLeDiff, reduceIte, reduceCtorEq, Nat.reduceBEq, Nat.reduceEqDiff, wrap64, runC_loop, runC_range, callF_fn, callV_fn, callV_yld, yield_eq, yieldBody, yieldRaw, roundMid, roundEnd, rangeEnd, Bool.not_not, put_cons, put_nil, trim_same, at_zero, at_add, set_zero, set_add, store_one, write_zero, write_add, write_head, write_succ, splice_one, splice_more, List.drop_nil, List.take_nil, cell_int, cell_bool, fillS, splice_one, idxA, Ex.isNormal, List.set_nil, List.length_set, List.all_cons, List.all_nil, Bool.and_self, and_self, true_and, and_true, List.getElem?_nil, Int.reduceLT, Int.reduceLE, Int.reduceToNat, Int.toNat_zero, Int.toNat_one, Int.reduceAdd, Int.reduceSub, Int.reduceMul, Int.reduceNeg, Int.reduceBEq, Int.reduceBNe, Int.reduceGE, Int.reduceGT, Nat.reduceLT, trim_keep, under_fn, under_ptr, under_sl, Nat.lt_irrefl, not_lt_add, trim_tail, keepOk, ABlk.vals, Int.cast_ofNat_Int, decide_true, decide_false, List.all_cons, List.all_nil, Nat.zero_mul, Nat.mul_one, Nat.one_mul, hd, seqR_exit', outs_normal]
  exact exF2 rfl ⟨kk, ys, rfl, (self hK).symm, hl, by omega, ht⟩
 | succ m ih =>
  intro j kk K ys j29 j30 j31 j32 j33 j34 j35 j36 j37 j38 j39 j40 j41 j42 j43 j44 j45 j46 j47 j48 j49 j50 j51 j52 j53 hm hj hk hK hl ht hdr
  have hd : decide ((j : Int) < ((n - k0 : Nat) : Int)) = true := decide_eq_true (by omega)
  have e2 : IntKind.i64.wrap ((j : Int) + 1) = ((j + 1 : Nat) : Int) := by rw [wrap64 (by omega) (by omega)]; omega
  have e1 : IntKind.i64.wrap ((j : Int) - 1) = ((j - 1 : Nat) : Int) := by rw [wrap64 (by omega) (by omega)]; omega
  have e3 : IntKind.i64.wrap ((kk : Int) + 1) = ((kk + 1 : Nat) : Int) := by rw [wrap64 (by omega) (by omega)]; omega
  have hc := cells_rw hK
  have hx := List.getElem?_eq_getElem (show k0 + j < zs.length by omega)
  have hp := List.getElem?_eq_getElem (show k0 + j - 1 < zs.length by omega)
  have gy : ∀ i, k0 + j - 1 ≤ i → ys[i]? = zs[i]? := fun i hi => by
   have := congrArg (fun l : List Int => l[i - (k0 + j - 1)]?) hdr
   simp only [List.getElem?_drop] at this
   rwa [show k0 + j - 1 + (i - (k0 + j - 1)) = i by omega] at this
  have yx := (gy (k0 + j) (by omega)).trans hx
  have yp := (gy (k0 + j - 1) (by omega)).trans hp
  have tk : zs.take (k0 + j + 1) = zs.take (k0 + j) ++ [zs[k0 + j]] := by rw [List.take_add_one, hx]; rfl
  have tl : (zs.take (k0 + j)).getLast? = some zs[k0 + j - 1] := by
   have := take_last hp
   rwa [show k0 + j - 1 + 1 = k0 + j by omega] at this
  have ds := ddS_snoc (zs.take (k0 + j)) zs[k0 + j]
  rw [← tk, tl] at ds
  generalize zs[k0 + j] = x at *
  generalize zs[k0 + j - 1] = p at *
  have ix1 : idxAddrS 1 (.sl b k0 1 (n - k0) (n - k0) false) (.int .i64 (j : Int)) = some (.ptr b (k0 + j)) := by
   rw [idx_sl, if_pos ⟨by omega, by omega, by omega⟩]; simp
  have ix2 : idxAddrS 1 (.sl b k0 1 (n - k0) (n - k0) false) (.int .i64 ((j - 1 : Nat) : Int)) = some (.ptr b (k0 + j - 1)) := by
   rw [idx_sl, if_pos ⟨by omega, by omega, by omega⟩]; simp; omega
  have cx : (intsA ys)[k0 + j]? = some (.int .i64 x) := by rw [List.getElem?_map, yx]; rfl
  have cp : (intsA ys)[k0 + j - 1]? = some (.int .i64 p) := by rw [List.getElem?_map, yp]; rfl
  rw [lo]
  unfold l16x0
  by_cases h : x = p
  ·have hb : (x != p) = false := by simp [h]
   rw [if_pos (by rw [h])] at ds
   simp -implicitDefEqProofs (maxSteps := 5000000) only [go_sem, Nat.reduceShiftRight, Nat.reduceAnd, Nat.reduceBNe, Int.reduceEq, Nat.reduceAdd, Nat.reduceSub, Nat.reduceMul, Nat.reduceLeDiff, reduceIte, reduceCtorEq, Nat.reduceBEq, Nat.reduceEqDiff, wrap64, runC_loop, runC_range, callF_fn, callV_fn, callV_yld, yield_eq, yieldBody, yieldRaw, roundMid, roundEnd, rangeEnd, Bool.not_not, put_cons, put_nil, trim_same, at_zero, at_add, set_zero, set_add, store_one, write_zero, write_add, write_head, write_succ, splice_one, splice_more, List.drop_nil, List.take_nil, cell_int, cell_bool, fillS, splice_one, idxA, Ex.isNormal, List.set_nil, List.length_set, List.all_cons, List.all_nil, Bool.and_self, and_self, true_and, and_true, List.getElem?_nil, Int.reduceLT, Int.reduceLE, Int.reduceToNat, Int.toNat_zero, Int.toNat_one, Int.reduceAdd, Int.reduceSub, Int.reduceMul, Int.reduceNeg, Int.reduceBEq, Int.reduceBNe, Int.reduceGE, Int.reduceGT, Nat.reduceLT, trim_keep, under_fn, under_ptr, under_sl, Nat.lt_irrefl, not_lt_add, trim_tail, keepOk, ABlk.vals, Int.cast_ofNat_Int, decide_true, decide_false, List.all_cons, List.all_nil, Nat.zero_mul, Nat.mul_one, Nat.one_mul, hd, ix1, hc, cx, e1, ix2, cp, hb, e2]
   exact ih (j + 1) kk K ys _ _ _ _ _ _ _ _ _ _ _ _ _ _ _ _ _ _ _ _ _ _ _ _ _ (by omega) (by omega) (by omega) hK hl (by rw [ht, ← ds]; rfl) (by
    have := congrArg (List.drop 1) hdr
    rw [List.drop_drop, List.drop_drop, show k0 + j - 1 + 1 = k0 + (j + 1) - 1 by omega] at this
    exact this)
  ·have hb : (x != p) = true := by simp [h]
   rw [if_neg (by intro q; injection q with q; exact h q.symm)] at ds
   have kl : kk < n := by omega
   have ix3 := idx_nat b 1 n n kk false .i64 (by omega) kl
   rw [Nat.mul_one] at ix3
   have lk := lt_of_at hK
   have wr : writeN K b kk [.int .i64 x] = some (K.set b (.rw (intsA (ys.set kk x)))) := by
    rw [write_of hK, if_pos ⟨by show kk + 1 ≤ _; rw [List.length_map]; omega, rfl⟩, splice_one, ← List.map_set]
   have key := ih (j + 1) (kk + 1) (K.set b (.rw (intsA (ys.set kk x)))) (ys.set kk x)
   simp -implicitDefEqProofs (maxSteps := 5000000) only [go_sem, Nat.reduceShiftRight, Nat.reduceAnd, Nat.reduceBNe, Int.reduceEq, Nat.reduceAdd, Nat.reduceSub, Nat.reduceMul, Nat.reduceLeDiff, reduceIte, reduceCtorEq, Nat.reduceBEq, Nat.reduceEqDiff, wrap64, runC_loop, runC_range, callF_fn, callV_fn, callV_yld, yield_eq, yieldBody, yieldRaw, roundMid, roundEnd, rangeEnd, Bool.not_not, put_cons, put_nil, trim_same, at_zero, at_add, set_zero, set_add, store_one, write_zero, write_add, write_head, write_succ, splice_one, splice_more, List.drop_nil, List.take_nil, cell_int, cell_bool, fillS, splice_one, idxA, Ex.isNormal, List.set_nil, List.length_set, List.all_cons, List.all_nil, Bool.and_self, and_self, true_and, and_true, List.getElem?_nil, Int.reduceLT, Int.reduceLE, Int.reduceToNat, Int.toNat_zero, Int.toNat_one, Int.reduceAdd, Int.reduceSub, Int.reduceMul, Int.reduceNeg, Int.reduceBEq, Int.reduceBNe, Int.reduceGE, Int.reduceGT, Nat.reduceLT, trim_keep, under_fn, under_ptr, under_sl, Nat.lt_irrefl, not_lt_add, trim_tail, keepOk, ABlk.vals, Int.cast_ofNat_Int, decide_true, decide_false, List.all_cons, List.all_nil, Nat.zero_mul, Nat.mul_one, Nat.one_mul, hd, ix1, hc, cx, e1, ix2, cp, hb, ix3, wr, e2, e3]
   refine (key _ _ _ _ _ _ _ _ _ _ _ _ _ _ _ _ _ _ _ _ _ _ _ _ _ (by omega) (by omega) (by omega) (at_set _ _ _ lk) (by simp [hl]) ?_ ?_).mono fun e t K' ⟨h1, fv, h2, q, ys', h3, h4, h5⟩ => ⟨h1, fv, h2, q, ys', h3, by rw [h4, List.set_set], h5⟩
   ·rw [show k0 + (j + 1) = k0 + j + 1 by omega, ds, ← ht]
    rw [List.take_add_one, List.getElem?_set_self (by omega), List.take_set_of_le (by omega)]
    rfl
   ·rw [List.drop_set_of_lt (by omega)]
    have := congrArg (List.drop 1) hdr
    rw [List.drop_drop, List.drop_drop, show k0 + j - 1 + 1 = k0 + (j + 1) - 1 by omega] at this
    exact this
end
section
variable {K : AHeap} {b n : Nat} {zs : List Int} (hK : K[b]? = some (.rw (intsA zs))) (hn : zs.length = n) (h6 : n ≤ 1000000)
include hK hn h6
set_option maxHeartbeats 8000000 in
theorem cmpL1 (x1 x6 x7 x8 x9 x60 : AV) : ∀ (m k : Nat) (j4 j5 j10 j11 j12 j13 j14 j15 j16 j17 j18 j19 j20 j21 j22 j23 j24 j25 j26 j27 j28 j29 j30 j31 j32 j33 j34 j35 j36 j37 j38 j39 j40 j41 j42 j43 j44 j45 j46 j47 j48 j49 j50 j51 j52 j53 j54 j55 j56 j57 j58 j59 : AV), k + m = n → 1 ≤ k → ddS (zs.take k) = zs.take k →
  Outs (LP1 l16x1 [.sl b 0 1 n n false, x1, .nilSl, .int .i64 (k : Int), j4, j5, x6, x7, x8, x9, j10, j11, j12, j13, j14, j15, j16, j17, j18, j19, j20, j21, j22, j23, j24, j25, j26, j27, j28, j29, j30, j31, j32, j33, j34, j35, j36, j37, j38, j39, j40, j41, j42, j43, j44, j45, j46, j47, j48, j49, j50, j51, j52, j53, j54, j55, j56, j57, j58, j59, x60] K) fun e t K' => ∃ fv : Nat → AV, t = [.sl b 0 1 n n false, x1, (fv 2), (fv 3), (fv 4), (fv 5), x6, x7, x8, x9, (fv 10), (fv 11), (fv 12), (fv 13), (fv 14), (fv 15), (fv 16), (fv 17), (fv 18), (fv 19), (fv 20), (fv 21), (fv 22), (fv 23), (fv 24), (fv 25), (fv 26), (fv 27), (fv 28), (fv 29), (fv 30), (fv 31), (fv 32), (fv 33), (fv 34), (fv 35), (fv 36), (fv 37), (fv 38), (fv 39), (fv 40), (fv 41), (fv 42), (fv 43), (fv 44), (fv 45), (fv 46), (fv 47), (fv 48), (fv 49), (fv 50), (fv 51), (fv 52), (fv 53), (fv 54), (fv 55), (fv 56), (fv 57), (fv 58), (fv 59), x60] ∧ ((e = .exit 0 ∧ K' = K ∧ ddS zs = zs) ∨ (e = .ret ∧ ∃ (q : Nat) (ys : List Int), q < n ∧ ys.length = n ∧ K' = K.set b (.rw (intsA ys)) ∧ ys.take q = ddS zs ∧ fv 2 = .sl b 0 1 q n false)) := by
 intro m
 obtain ⟨L0, hL0⟩ : ∃ L, L = LP1 l16x1 := ⟨_, rfl⟩
 have lo := loop_open hL0
 rw [← hL0]
 have hc := cells_rw hK
 induction m with
 | zero =>
  intro k j4 j5 j10 j11 j12 j13 j14 j15 j16 j17 j18 j19 j20 j21 j22 j23 j24 j25 j26 j27 j28 j29 j30 j31 j32 j33 j34 j35 j36 j37 j38 j39 j40 j41 j42 j43 j44 j45 j46 j47 j48 j49 j50 j51 j52 j53 j54 j55 j56 j57 j58 j59 hk k1 hd0
  obtain rfl : k = n := by omega
  have hd : decide ((k : Int) < (k : Int)) = false := by simp
  rw [← hn, List.take_length] at hd0
  rw [lo]
  unfold l16x1
  simp -implicitDefEqProofs (maxSteps := 5000000) only [go_sem, Nat.reduceShiftRight, Nat.reduceAnd, Nat.reduceBNe, Int.reduceEq, Nat.reduceAdd, Nat.reduceSub, Nat.reduceMul, Nat.reduceLeDiff, reduceIte, reduceCtorEq, Nat.reduceBEq, Nat.reduceEqDiff, wrap64, runC_loop, runC_range, callF_fn, callV_fn, callV_yld, yield_eq, yieldBody, yieldRaw, roundMid, roundEnd, rangeEnd, Bool.not_not, put_cons, put_nil, trim_same, at_zero, at_add, set_zero, set_add, store_one, write_zero, write_add, write_head, write_succ, splice_one, splice_more, List.drop_nil, List.take_nil, cell_int, cell_bool, fillS, splice_one, idxA, Ex.isNormal, List.set_nil, List.length_set, List.all_cons, List.all_nil, Bool.and_self, and_self, true_and, and_true, List.getElem?_nil, Int.reduceLT, Int.reduceLE, Int.reduceToNat, Int.toNat_zero, Int.toNat_one, Int.reduceAdd, Int.reduceSub, Int.reduceMul, Int.reduceNeg, Int.reduceBEq, Int.reduceBNe, Int.reduceGE, Int.reduceGT, Nat.reduceLT, trim_keep, under_fn, under_ptr, under_sl, Nat.lt_irrefl, not_lt_add, trim_tail, keepOk, ABlk.vals, Int.cast_ofNat_Int, decide_true, decide_false, List.all_cons, List.all_nil, Nat.zero_mul, Nat.mul_one, Nat.one_mul, hd, seqR_exit', outs_normal]
  exact exF2 rfl (.inl hd0)
 | succ m ih =>
  intro k j4 j5 j10 j11 j12 j13 j14 j15 j16 j17 j18 j19 j20 j21 j22 j23 j24 j25 j26 j27 j28 j29 j30 j31 j32 j33 j34 j35 j36 j37 j38 j39 j40 j41 j42 j43 j44 j45 j46 j47 j48 j49 j50 j51 j52 j53 j54 j55 j56 j57 j58 j59 hk k1 hd0
  have kn : k < n := by omega
  have hd : decide ((k : Int) < (n : Int)) = true := decide_eq_true (by omega)
  have e2 : IntKind.i64.wrap ((k : Int) + 1) = ((k + 1 : Nat) : Int) := by rw [wrap64 (by omega) (by omega)]; omega
  have e1 : IntKind.i64.wrap ((k : Int) - 1) = ((k - 1 : Nat) : Int) := by rw [wrap64 (by omega) (by omega)]; omega
  have hx := List.getElem?_eq_getElem (show k < zs.length by omega)
  have hp := List.getElem?_eq_getElem (show k - 1 < zs.length by omega)
  have tk : zs.take (k + 1) = zs.take k ++ [zs[k]] := by rw [List.take_add_one, hx]; rfl
  have tl : (zs.take k).getLast? = some zs[k - 1] := by
   have := take_last hp
   rwa [show k - 1 + 1 = k by omega] at this
  have ds := ddS_snoc (zs.take k) zs[k]
  rw [← tk, tl] at ds
  have ix1 := idx_nat b 1 n n k false .i64 (by omega) kn
  have ix2 := idx_nat b 1 n n (k - 1) false .i64 (by omega) (show k - 1 < n by omega)
  rw [Nat.mul_one] at ix1 ix2
  have cx : (intsA zs)[k]? = some (.int .i64 zs[k]) := by rw [List.getElem?_map, hx]; rfl
  have cp : (intsA zs)[k - 1]? = some (.int .i64 zs[k - 1]) := by rw [List.getElem?_map, hp]; rfl
  by_cases h : zs[k] = zs[k - 1]
  ·have hb : (zs[k] == zs[k - 1]) = true := by simp [h]
   rw [if_pos (by rw [h])] at ds
   have sl := sl_from (sz := 1) (b := b) (off := 0) (len := n) (cp := n) (i := k) (ex := false) (by omega) (by omega)
   rw [Nat.zero_add, Nat.mul_one] at sl
   have l0 := cmpL0 (b := b) hn h6 k1 kn (m := n - (k + 1)) (j := 1) (kk := k) (K := K) (ys := zs)
   rw [show ((1 : Nat) : Int) = 1 from rfl] at l0
   rw [lo]
   unfold l16x1
   simp -implicitDefEqProofs (maxSteps := 5000000) only [go_sem, Nat.reduceShiftRight, Nat.reduceAnd, Nat.reduceBNe, Int.reduceEq, Nat.reduceAdd, Nat.reduceSub, Nat.reduceMul, Nat.reduceLeDiff, reduceIte, reduceCtorEq, Nat.reduceBEq, Nat.reduceEqDiff, wrap64, runC_loop, runC_range, callF_fn, callV_fn, callV_yld, yield_eq, yieldBody, yieldRaw, roundMid, roundEnd, rangeEnd, Bool.not_not, put_cons, put_nil, trim_same, at_zero, at_add, set_zero, set_add, store_one, write_zero, write_add, write_head, write_succ, splice_one, splice_more, List.drop_nil, List.take_nil, cell_int, cell_bool, fillS, splice_one, idxA, Ex.isNormal, List.set_nil, List.length_set, List.all_cons, List.all_nil, Bool.and_self, and_self, true_and, and_true, List.getElem?_nil, Int.reduceLT, Int.reduceLE, Int.reduceToNat, Int.toNat_zero, Int.toNat_one, Int.reduceAdd, Int.reduceSub, Int.reduceMul, Int.reduceNeg, Int.reduceBEq, Int.reduceBNe, Int.reduceGE, Int.reduceGT, Nat.reduceLT, trim_keep, under_fn, under_ptr, under_sl, Nat.lt_irrefl, not_lt_add, trim_tail, keepOk, ABlk.vals, Int.cast_ofNat_Int, decide_true, decide_false, List.all_cons, List.all_nil, Nat.zero_mul, Nat.mul_one, Nat.one_mul, runC_loop, hd, ix1, hc, cx, e1, ix2, cp, hb, sl]
   unfold LP1 at l0
   generalize (envL prog).loop (runC (envL prog) (l16x0 (envL prog))) = LL at l0 ⊢
   refine outs_ctx (fun r => seqR (seqR (blockR 1 (seqR (blockR 2 r) _)) _) _) (l0 _ _ _ _ _ _ _ _ _ _ _ _ _ _ _ _ _ _ _ _ _ _ _ _ _ _ _ _ _ _ _ _ _ _ _ _ _ _ _ _ _ _ _ _ _ _ _ _ _ _ _ _ _ _ _ _ _ (by omega) (by omega) (by omega) hK hn (by rw [show k + 1 = k + 1 from rfl, ds, hd0]) rfl) ?_
   rintro e t K' ⟨rfl, fv, rfl, q, ys, f3, rfl, hl, ql, ht⟩
   have hK' : (K.set b (.rw (intsA ys)))[b]? = some (.rw (intsA ys)) := at_set _ _ _ (lt_of_at hK)
   have s2 := sl_from (sz := 1) (b := b) (off := 0) (len := n) (cp := n) (i := q) (ex := false) (by omega) (by omega)
   have s3 := sl_to (sz := 1) (b := b) (off := 0) (len := n) (cp := n) (u := q) (ex := false) (by omega)
   rw [Nat.zero_add, Nat.mul_one] at s2
   have ec : clearV (ty 1 false 8 [.int .i64 0]) (.sl b q 1 (n - q) (n - q) false) (K.set b (.rw (intsA ys))) = some (.tup [], K.set b (.rw (intsA (ys.take q ++ List.replicate (n - q) 0)))) := by
    unfold clearV
    simp only [show (ty 1 false 8 [AV.int .i64 0]).size = 1 from rfl]
    have er : (List.replicate (n - q) (ty 1 false 8 [AV.int .i64 0]).zero).flatten = intsA (List.replicate (n - q) 0) := by
     show (List.replicate (n - q) [AV.int .i64 0]).flatten = _
     unfold intsA
     rw [List.map_replicate]
     generalize n - q = w
     induction w with
     | zero => rfl
     | succ w ih => rw [List.replicate_succ, List.flatten_cons, ih]; rfl
    rw [if_neg (by omega), if_neg (by simp), er, write_of hK', if_pos ⟨by rw [List.length_map, List.length_map, List.length_replicate]; omega, by rw [List.all_map]; simp [AV.isCell]⟩]
    have sp : splice (intsA ys) q (intsA (List.replicate (n - q) 0)) = intsA (ys.take q ++ List.replicate (n - q) 0) := by
     by_cases h1 : n - q = 1
     ·rw [h1]
      show splice _ q [AV.int .i64 0] = _
      rw [splice_one]
      unfold intsA
      rw [List.map_append, List.map_take]
      rw [List.set_eq_take_append_cons_drop, if_pos (by rw [List.length_map]; omega), List.drop_eq_nil_of_le (by rw [List.length_map]; omega)]
      rfl
     ·rw [splice_long _ _ _ (by rw [List.length_map, List.length_replicate]; exact h1), List.length_map, List.length_replicate, List.drop_eq_nil_of_le (by rw [List.length_map]; omega), List.append_nil]
      unfold intsA
      rw [List.map_append, List.map_take]
    rw [sp]
    show some (AV.tup [], (K.set b _).set b _) = _
    rw [List.set_set]
   simp -implicitDefEqProofs (maxSteps := 5000000) only [go_sem, Nat.reduceShiftRight, Nat.reduceAnd, Nat.reduceBNe, Int.reduceEq, Nat.reduceAdd, Nat.reduceSub, Nat.reduceMul, Nat.reduceLeDiff, reduceIte, reduceCtorEq, Nat.reduceBEq, Nat.reduceEqDiff, wrap64, runC_loop, runC_range, callF_fn, callV_fn, callV_yld, yield_eq, yieldBody, yieldRaw, roundMid, roundEnd, rangeEnd, Bool.not_not, put_cons, put_nil, trim_same, at_zero, at_add, set_zero, set_add, store_one, write_zero, write_add, write_head, write_succ, splice_one, splice_more, List.drop_nil, List.take_nil, cell_int, cell_bool, fillS, splice_one, idxA, Ex.isNormal, List.set_nil, List.length_set, List.all_cons, List.all_nil, Bool.and_self, and_self, true_and, and_true, List.getElem?_nil, Int.reduceLT, Int.reduceLE, Int.reduceToNat, Int.toNat_zero, Int.toNat_one, Int.reduceAdd, Int.reduceSub, Int.reduceMul, Int.reduceNeg, Int.reduceBEq, Int.reduceBNe, Int.reduceGE, Int.reduceGT, Nat.reduceLT, trim_keep, under_fn, under_ptr, under_sl, Nat.lt_irrefl, not_lt_add, trim_tail, keepOk, ABlk.vals, Int.cast_ofNat_Int, decide_true, decide_false, List.all_cons, List.all_nil, Nat.zero_mul, Nat.mul_one, Nat.one_mul, f3, s2, ec, s3, seqR_ret, outs_normal]
   exact exF2 rfl (.inr ⟨q, ys.take q ++ List.replicate (n - q) 0, ql, by rw [List.length_append, List.length_take, List.length_replicate]; omega, rfl, by rw [List.take_append_of_le_length (by rw [List.length_take]; omega), List.take_take, Nat.min_self]; exact ht, rfl⟩)
  ·have hb : (zs[k] == zs[k - 1]) = false := by simp [h]
   rw [if_neg (by intro q; injection q with q; exact h q.symm)] at ds
   rw [lo]
   unfold l16x1
   simp -implicitDefEqProofs (maxSteps := 5000000) only [go_sem, Nat.reduceShiftRight, Nat.reduceAnd, Nat.reduceBNe, Int.reduceEq, Nat.reduceAdd, Nat.reduceSub, Nat.reduceMul, Nat.reduceLeDiff, reduceIte, reduceCtorEq, Nat.reduceBEq, Nat.reduceEqDiff, wrap64, runC_loop, runC_range, callF_fn, callV_fn, callV_yld, yield_eq, yieldBody, yieldRaw, roundMid, roundEnd, rangeEnd, Bool.not_not, put_cons, put_nil, trim_same, at_zero, at_add, set_zero, set_add, store_one, write_zero, write_add, write_head, write_succ, splice_one, splice_more, List.drop_nil, List.take_nil, cell_int, cell_bool, fillS, splice_one, idxA, Ex.isNormal, List.set_nil, List.length_set, List.all_cons, List.all_nil, Bool.and_self, and_self, true_and, and_true, List.getElem?_nil, Int.reduceLT, Int.reduceLE, Int.reduceToNat, Int.toNat_zero, Int.toNat_one, Int.reduceAdd, Int.reduceSub, Int.reduceMul, Int.reduceNeg, Int.reduceBEq, Int.reduceBNe, Int.reduceGE, Int.reduceGT, Nat.reduceLT, trim_keep, under_fn, under_ptr, under_sl, Nat.lt_irrefl, not_lt_add, trim_tail, keepOk, ABlk.vals, Int.cast_ofNat_Int, decide_true, decide_false, List.all_cons, List.all_nil, Nat.zero_mul, Nat.mul_one, Nat.one_mul, hd, ix1, hc, cx, e1, ix2, cp, hb, e2]
   exact ih (k + 1) _ _ _ _ _ _ _ _ _ _ _ _ _ _ _ _ _ _ _ _ _ _ _ _ _ _ _ _ _ _ _ _ _ _ _ _ _ _ _ _ _ _ _ _ _ _ _ _ _ _ _ _ (by omega) (by omega) (by rw [ds, hd0, tk])
end
theorem compactC {K : AHeap} {B : Nat} {v : AV} {zs : List Int} (g : FS K B v zs) (h6 : zs.length ≤ 1000000) : ∃ v' K', (envL prog).call 16 [v] K = some (v', K') ∧ IS K' v' (ddS zs) ∧ (∀ b, slb v' = some b → slb v = some b) ∧ Fr K K' (fun b => slb v = some b) ∧ K'.length = K.length := by
 have wl := g.len
 rcases g with ⟨h, rfl⟩ | ⟨h, b, hb, rfl, hK⟩
 ·obtain rfl := List.map_eq_nil_iff.1 h
  refine ⟨.nilSl, K, ?_, .inl ⟨rfl, rfl⟩, fun b h => h, ⟨Nat.le_refl _, fun _ _ _ => rfl⟩, rfl⟩
  rw [c16]
  unfold b16
  simp -implicitDefEqProofs (maxSteps := 5000000) only [go_sem, Nat.reduceShiftRight, Nat.reduceAnd, Nat.reduceBNe, Int.reduceEq, Nat.reduceAdd, Nat.reduceSub, Nat.reduceMul, Nat.reduceLeDiff, reduceIte, reduceCtorEq, Nat.reduceBEq, Nat.reduceEqDiff, wrap64, runC_loop, runC_range, callF_fn, callV_fn, callV_yld, yield_eq, yieldBody, yieldRaw, roundMid, roundEnd, rangeEnd, Bool.not_not, put_cons, put_nil, trim_same, at_zero, at_add, set_zero, set_add, store_one, write_zero, write_add, write_head, write_succ, splice_one, splice_more, List.drop_nil, List.take_nil, cell_int, cell_bool, fillS, splice_one, idxA, Ex.isNormal, List.set_nil, List.length_set, List.all_cons, List.all_nil, Bool.and_self, and_self, true_and, and_true, List.getElem?_nil, Int.reduceLT, Int.reduceLE, Int.reduceToNat, Int.toNat_zero, Int.toNat_one, Int.reduceAdd, Int.reduceSub, Int.reduceMul, Int.reduceNeg, Int.reduceBEq, Int.reduceBNe, Int.reduceGE, Int.reduceGT, Nat.reduceLT, trim_keep, under_fn, under_ptr, under_sl, Nat.lt_irrefl, not_lt_add, trim_tail, keepOk, ABlk.vals, Int.cast_ofNat_Int, decide_true, decide_false, List.all_cons, List.all_nil, Nat.zero_mul, Nat.mul_one, Nat.one_mul]
 ·rw [map_take_flat] at hK
  rw [List.length_map] at wl ⊢
  by_cases h2 : (zs.length : Int) < 2
  ·have d2 := decide_eq_true h2
   have hd : ddS zs = zs := by
    match zs, h2 with
    | [], _ => rfl
    | [x], _ => rfl
    | x :: y :: l, h => simp at h; omega
   refine ⟨_, K, ?_, ?_, fun b h => h, ⟨Nat.le_refl _, fun _ _ _ => rfl⟩, rfl⟩
   ·rw [c16]
    unfold b16
    simp -implicitDefEqProofs (maxSteps := 5000000) only [go_sem, Nat.reduceShiftRight, Nat.reduceAnd, Nat.reduceBNe, Int.reduceEq, Nat.reduceAdd, Nat.reduceSub, Nat.reduceMul, Nat.reduceLeDiff, reduceIte, reduceCtorEq, Nat.reduceBEq, Nat.reduceEqDiff, wrap64, runC_loop, runC_range, callF_fn, callV_fn, callV_yld, yield_eq, yieldBody, yieldRaw, roundMid, roundEnd, rangeEnd, Bool.not_not, put_cons, put_nil, trim_same, at_zero, at_add, set_zero, set_add, store_one, write_zero, write_add, write_head, write_succ, splice_one, splice_more, List.drop_nil, List.take_nil, cell_int, cell_bool, fillS, splice_one, idxA, Ex.isNormal, List.set_nil, List.length_set, List.all_cons, List.all_nil, Bool.and_self, and_self, true_and, and_true, List.getElem?_nil, Int.reduceLT, Int.reduceLE, Int.reduceToNat, Int.toNat_zero, Int.toNat_one, Int.reduceAdd, Int.reduceSub, Int.reduceMul, Int.reduceNeg, Int.reduceBEq, Int.reduceBNe, Int.reduceGE, Int.reduceGT, Nat.reduceLT, trim_keep, under_fn, under_ptr, under_sl, Nat.lt_irrefl, not_lt_add, trim_tail, keepOk, ABlk.vals, Int.cast_ofNat_Int, decide_true, decide_false, List.all_cons, List.all_nil, Nat.zero_mul, Nat.mul_one, Nat.one_mul, d2]
   ·rw [hd]; exact IS.block hK
  ·have d2 := decide_eq_false h2
   obtain ⟨n, hn⟩ : ∃ n, zs.length = n := ⟨_, rfl⟩
   have hd1 : ddS (zs.take 1) = zs.take 1 := by
    match zs with
    | [] => rfl
    | x :: l => rfl
   have l0 := cmpL1 hK hn (by omega) (m := n - 1) (k := 1)
   rw [show ((1 : Nat) : Int) = 1 from rfl] at l0
   rw [hn] at d2 ⊢
   have key : Outs (runC (envL prog) (b16 (envL prog)) ([AV.sl b 0 1 n n false] ++ List.replicate (61 - [AV.sl b 0 1 n n false].length) .undef) K) fun e' t K' => ∃ (q : Nat) (ys : List Int), q ≤ n ∧ ys.length = n ∧ K' = K.set b (.rw (intsA ys)) ∧ ys.take q = ddS zs ∧ fin [.tmp 2] (some (e', t, K')) = some (.sl b 0 1 q n false, K') := by
    unfold b16
    generalize hQ : (fun (e' : Ex) (t : T) (K' : AHeap) => ∃ (q : Nat) (ys : List Int), q ≤ n ∧ ys.length = n ∧ K' = K.set b (.rw (intsA ys)) ∧ ys.take q = ddS zs ∧ fin [.tmp 2] (some (e', t, K')) = some (AV.sl b 0 1 q n false, K')) = Q
    simp -implicitDefEqProofs (maxSteps := 5000000) only [go_sem, Nat.reduceShiftRight, Nat.reduceAnd, Nat.reduceBNe, Int.reduceEq, Nat.reduceAdd, Nat.reduceSub, Nat.reduceMul, Nat.reduceLeDiff, reduceIte, reduceCtorEq, Nat.reduceBEq, Nat.reduceEqDiff, wrap64, runC_loop, runC_range, callF_fn, callV_fn, callV_yld, yield_eq, yieldBody, yieldRaw, roundMid, roundEnd, rangeEnd, Bool.not_not, put_cons, put_nil, trim_same, at_zero, at_add, set_zero, set_add, store_one, write_zero, write_add, write_head, write_succ, splice_one, splice_more, List.drop_nil, List.take_nil, cell_int, cell_bool, fillS, splice_one, idxA, Ex.isNormal, List.set_nil, List.length_set, List.all_cons, List.all_nil, Bool.and_self, and_self, true_and, and_true, List.getElem?_nil, Int.reduceLT, Int.reduceLE, Int.reduceToNat, Int.toNat_zero, Int.toNat_one, Int.reduceAdd, Int.reduceSub, Int.reduceMul, Int.reduceNeg, Int.reduceBEq, Int.reduceBNe, Int.reduceGE, Int.reduceGT, Nat.reduceLT, trim_keep, under_fn, under_ptr, under_sl, Nat.lt_irrefl, not_lt_add, trim_tail, keepOk, ABlk.vals, Int.cast_ofNat_Int, decide_true, decide_false, List.all_cons, List.all_nil, Nat.zero_mul, Nat.mul_one, Nat.one_mul, runC_loop, d2]
    unfold LP1 at l0
    generalize (envL prog).loop (runC (envL prog) (l16x1 (envL prog))) = L0 at l0 ⊢
    refine outs_ctx (fun r => seqR (blockR 0 r) _) (l0 _ _ _ _ _ _ _ _ _ _ _ _ _ _ _ _ _ _ _ _ _ _ _ _ _ _ _ _ _ _ _ _ _ _ _ _ _ _ _ _ _ _ _ _ _ _ _ _ _ _ _ _ _ _ _ _ _ _ (by omega) (by omega) hd1) ?_
    rintro e t K' ⟨fv, rfl, ⟨rfl, rfl, ho⟩ | ⟨rfl, q, ys, ql, yl, rfl, ht, f2⟩⟩
    ·simp -implicitDefEqProofs (maxSteps := 5000000) only [go_sem, Nat.reduceShiftRight, Nat.reduceAnd, Nat.reduceBNe, Int.reduceEq, Nat.reduceAdd, Nat.reduceSub, Nat.reduceMul, Nat.reduceLeDiff, reduceIte, reduceCtorEq, Nat.reduceBEq, Nat.reduceEqDiff, wrap64, runC_loop, runC_range, callF_fn, callV_fn, callV_yld, yield_eq, yieldBody, yieldRaw, roundMid, roundEnd, rangeEnd, Bool.not_not, put_cons, put_nil, trim_same, at_zero, at_add, set_zero, set_add, store_one, write_zero, write_add, write_head, write_succ, splice_one, splice_more, List.drop_nil, List.take_nil, cell_int, cell_bool, fillS, splice_one, idxA, Ex.isNormal, List.set_nil, List.length_set, List.all_cons, List.all_nil, Bool.and_self, and_self, true_and, and_true, List.getElem?_nil, Int.reduceLT, Int.reduceLE, Int.reduceToNat, Int.toNat_zero, Int.toNat_one, Int.reduceAdd, Int.reduceSub, Int.reduceMul, Int.reduceNeg, Int.reduceBEq, Int.reduceBNe, Int.reduceGE, Int.reduceGT, Nat.reduceLT, trim_keep, under_fn, under_ptr, under_sl, Nat.lt_irrefl, not_lt_add, trim_tail, keepOk, ABlk.vals, Int.cast_ofNat_Int, decide_true, decide_false, List.all_cons, List.all_nil, Nat.zero_mul, Nat.mul_one, Nat.one_mul, outs_normal]
     subst hQ
     refine ⟨n, zs, Nat.le_refl _, hn, ?_, by rw [ho, ← hn, List.take_length], ?_⟩
     ·apply List.ext_getElem?
      intro i
      by_cases e : i = b
      ·subst e; rw [at_set _ _ _ (lt_of_at hK)]; exact hK
      ·rw [at_set_ne _ _ _ _ e]
     ·simp -implicitDefEqProofs (maxSteps := 5000000) only [go_sem, Nat.reduceShiftRight, Nat.reduceAnd, Nat.reduceBNe, Int.reduceEq, Nat.reduceAdd, Nat.reduceSub, Nat.reduceMul, Nat.reduceLeDiff, reduceIte, reduceCtorEq, Nat.reduceBEq, Nat.reduceEqDiff, wrap64, runC_loop, runC_range, callF_fn, callV_fn, callV_yld, yield_eq, yieldBody, yieldRaw, roundMid, roundEnd, rangeEnd, Bool.not_not, put_cons, put_nil, trim_same, at_zero, at_add, set_zero, set_add, store_one, write_zero, write_add, write_head, write_succ, splice_one, splice_more, List.drop_nil, List.take_nil, cell_int, cell_bool, fillS, splice_one, idxA, Ex.isNormal, List.set_nil, List.length_set, List.all_cons, List.all_nil, Bool.and_self, and_self, true_and, and_true, List.getElem?_nil, Int.reduceLT, Int.reduceLE, Int.reduceToNat, Int.toNat_zero, Int.toNat_one, Int.reduceAdd, Int.reduceSub, Int.reduceMul, Int.reduceNeg, Int.reduceBEq, Int.reduceBNe, Int.reduceGE, Int.reduceGT, Nat.reduceLT, trim_keep, under_fn, under_ptr, under_sl, Nat.lt_irrefl, not_lt_add, trim_tail, keepOk, ABlk.vals, Int.cast_ofNat_Int, decide_true, decide_false, List.all_cons, List.all_nil, Nat.zero_mul, Nat.mul_one, Nat.one_mul]
    ·simp -implicitDefEqProofs (maxSteps := 5000000) only [go_sem, Nat.reduceShiftRight, Nat.reduceAnd, Nat.reduceBNe, Int.reduceEq, Nat.reduceAdd, Nat.reduceSub, Nat.reduceMul, Nat.reduceLeDiff, reduceIte, reduceCtorEq, Nat.reduceBEq, Nat.reduceEqDiff, wrap64, runC_loop, runC_range, callF_fn, callV_fn, callV_yld, yield_eq, yieldBody, yieldRaw, roundMid, roundEnd, rangeEnd, Bool.not_not, put_cons, put_nil, trim_same, at_zero, at_add, set_zero, set_add, store_one, write_zero, write_add, write_head, write_succ, splice_one, splice_more, List.drop_nil, List.take_nil, cell_int, cell_bool, fillS, splice_one, idxA, Ex.isNormal, List.set_nil, List.length_set, List.all_cons, List.all_nil, Bool.and_self, and_self, true_and, and_true, List.getElem?_nil, Int.reduceLT, Int.reduceLE, Int.reduceToNat, Int.toNat_zero, Int.toNat_one, Int.reduceAdd, Int.reduceSub, Int.reduceMul, Int.reduceNeg, Int.reduceBEq, Int.reduceBNe, Int.reduceGE, Int.reduceGT, Nat.reduceLT, trim_keep, under_fn, under_ptr, under_sl, Nat.lt_irrefl, not_lt_add, trim_tail, keepOk, ABlk.vals, Int.cast_ofNat_Int, decide_true, decide_false, List.all_cons, List.all_nil, Nat.zero_mul, Nat.mul_one, Nat.one_mul, outs_normal]
     subst hQ
     refine ⟨q, ys, by omega, yl, rfl, ht, ?_⟩
     simp -implicitDefEqProofs (maxSteps := 5000000) only [go_sem, Nat.reduceShiftRight, Nat.reduceAnd, Nat.reduceBNe, Int.reduceEq, Nat.reduceAdd, Nat.reduceSub, Nat.reduceMul, Nat.reduceLeDiff, reduceIte, reduceCtorEq, Nat.reduceBEq, Nat.reduceEqDiff, wrap64, runC_loop, runC_range, callF_fn, callV_fn, callV_yld, yield_eq, yieldBody, yieldRaw, roundMid, roundEnd, rangeEnd, Bool.not_not, put_cons, put_nil, trim_same, at_zero, at_add, set_zero, set_add, store_one, write_zero, write_add, write_head, write_succ, splice_one, splice_more, List.drop_nil, List.take_nil, cell_int, cell_bool, fillS, splice_one, idxA, Ex.isNormal, List.set_nil, List.length_set, List.all_cons, List.all_nil, Bool.and_self, and_self, true_and, and_true, List.getElem?_nil, Int.reduceLT, Int.reduceLE, Int.reduceToNat, Int.toNat_zero, Int.toNat_one, Int.reduceAdd, Int.reduceSub, Int.reduceMul, Int.reduceNeg, Int.reduceBEq, Int.reduceBNe, Int.reduceGE, Int.reduceGT, Nat.reduceLT, trim_keep, under_fn, under_ptr, under_sl, Nat.lt_irrefl, not_lt_add, trim_tail, keepOk, ABlk.vals, Int.cast_ofNat_Int, decide_true, decide_false, List.all_cons, List.all_nil, Nat.zero_mul, Nat.mul_one, Nat.one_mul, f2]
   obtain ⟨e', t, K', hr, q, ys, ql, yl, rfl, ht, hf⟩ := key
   have hK' : (K.set b (.rw (intsA ys)))[b]? = some (.rw (intsA ys)) := at_set _ _ _ (lt_of_at hK)
   have lq : (ddS zs).length = q := by rw [← ht, List.length_take]; omega
   refine ⟨.sl b 0 1 q n false, K.set b (.rw (intsA ys)), by rw [c16, hr, hf]; exact trim_same (by rw [List.length_set]), ?_, fun x h => h, Fr.set _ _ (F := fun x => slb (AV.sl b 0 1 n n false) = some x) rfl, by rw [List.length_set]⟩
   refine .inr ⟨b, 0, n, false, intsA ys, by rw [lq], cells_rw hK', fun i z hz => ?_, by rw [List.length_map, Nat.zero_add, lq]; omega⟩
   rw [Nat.zero_add, List.getElem?_map]
   rw [← ht, List.getElem?_take] at hz
   split at hz
   ·rw [hz]; rfl
   ·cases hz
end Go.Proofs.Ytfioahnogphnfaa.G12
end
section
namespace Go.Proofs.Ytfioahnogphnfaa.G12
open Go Go.Proofs.Ytfioahnogphnfaa.Eng
noncomputable abbrev LS (l : Env → CT) := (envL prog).loop (runC (envX prog XS) (l (envX prog XS)))
def atsL (L : List SnS) : List Int := (L.map fun s => s.tb.map (·.2)).flatten
def planL (P : List PrS) : List Int := (P.filter fun p => p.2 != 255).map (·.2)
theorem atsL_cons (s : SnS) (L : List SnS) : atsL (s :: L) = s.tb.map (·.2) ++ atsL L := rfl
theorem planL_len (P : List PrS) : (planL P).length ≤ P.length := by
 unfold planL; rw [List.length_map]; exact List.length_filter_le _ _
theorem atsL_len : ∀ {L : List SnS}, (∀ s ∈ L, s.tb.length ≤ 1000) → (atsL L).length ≤ 1000 * L.length
 | [], _ => by simp [atsL]
 | s :: L, h => by
  have := atsL_len (L := L) fun x hx => h x (by simp [hx])
  have := h s (by simp)
  rw [atsL_cons, List.length_append, List.length_map, List.length_cons]; omega
theorem is_end {H K : AHeap} {w : AV} {zs : List Int} (a : Adds H K) (g : IS K w zs) (wb : ∀ b, slb w = some b → H.length ≤ b) : ∃ K', trim H (some (w, K)) = some (w, K') ∧ Adds H K' ∧ IS K' w zs := by
 rcases trim_adds (v := w) a with e | ⟨u, e⟩
 ·exact ⟨K, e, a, g⟩
 ·refine ⟨H, e, Adds.refl H, ?_⟩
  rcases g with g | ⟨b, o, l, ex, cs, rfl, _⟩
  ·exact .inl g
  ·have := wb b rfl
   have := slb_under u rfl
   omega
section
variable {H : AHeap} {s : SnS} {vt : AV} (pt : IsP H vt s.tb) (lt : s.tb.length ≤ 1000)
include pt lt
set_option maxHeartbeats 4000000 in
theorem usedL0 (x0 x1 x2 x4 x5 x6 x8 x9 x10 x11 x12 x13 x14 x15 x16 x17 x30 x31 x32 x33 x34 x35 x36 x37 x38 x39 x40 x41 x42 x43 x44 x45 x46 x47 x48 x49 x50 x51 : AV) : ∀ (m j : Nat) (K : AHeap) (w : AV) (acc : List Int) (j7 j21 j22 j23 j24 j25 j26 j27 j28 j29 : AV), Adds H K → FS K H.length w acc → acc.length + m ≤ 1000000 → j + m = s.tb.length →
  Outs (LS l8x0 [x0, x1, x2, w, x4, x5, x6, j7, x8, x9, x10, x11, x12, x13, x14, x15, x16, x17, vt, .int .i64 (s.tb.length : Int), .int .i64 (j : Int), j21, j22, j23, j24, j25, j26, j27, j28, j29, x30, x31, x32, x33, x34, x35, x36, x37, x38, x39, x40, x41, x42, x43, x44, x45, x46, x47, x48, x49, x50, x51] K) fun e t K' => e = .exit 2 ∧ Adds H K' ∧ ∃ fv : Nat → AV, t = [x0, x1, x2, (fv 3), x4, x5, x6, (fv 7), x8, x9, x10, x11, x12, x13, x14, x15, x16, x17, vt, .int .i64 (s.tb.length : Int), (fv 20), (fv 21), (fv 22), (fv 23), (fv 24), (fv 25), (fv 26), (fv 27), (fv 28), (fv 29), x30, x31, x32, x33, x34, x35, x36, x37, x38, x39, x40, x41, x42, x43, x44, x45, x46, x47, x48, x49, x50, x51] ∧ FS K' H.length (fv 3) (acc ++ (s.tb.drop j).map (·.2)) := by
 intro m
 obtain ⟨L0, hL0⟩ : ∃ L, L = LS l8x0 := ⟨_, rfl⟩
 have lo := loop_open hL0
 rw [← hL0]
 induction m with
 | zero =>
  intro j K w acc j7 j21 j22 j23 j24 j25 j26 j27 j28 j29 aK g al hj
  obtain rfl : j = s.tb.length := by omega
  have hd : decide ((s.tb.length : Int) < (s.tb.length : Int)) = false := by simp
  rw [List.drop_length, List.map_nil, List.append_nil, lo]
  unfold l8x0
  simp -implicitDefEqProofs (maxSteps := 5000000) only [go_sem, Nat.reduceShiftRight, Nat.reduceAnd, Nat.reduceBNe, Int.reduceEq, Nat.reduceAdd, Nat.reduceSub, Nat.reduceMul, Nat.reduceLeDiff, reduceIte, reduceCtorEq, Nat.reduceBEq, Nat.reduceEqDiff, hd, seqR_exit', outs_normal]
  exact ⟨aK, exF2 rfl g⟩
 | succ m ih =>
  intro j K w acc j7 j21 j22 j23 j24 j25 j26 j27 j28 j29 aK g al hj
  have hlt : j < s.tb.length := by omega
  have hd : decide ((j : Int) < (s.tb.length : Int)) = true := decide_eq_true (by omega)
  have e2 : IntKind.i64.wrap ((j : Int) + 1) = ((j + 1 : Nat) : Int) := by rw [wrap64 (by omega) (by omega)]; omega
  have hx := List.getElem?_eq_getElem hlt
  rw [List.drop_eq_getElem_cons hlt, List.map_cons]
  generalize s.tb[j] = p at *
  obtain ⟨b2, c2, _, ix2, hc0, r1, r2, rt, rle⟩ := pt.idx hx
  have hc2 := aK.cells hc0
  unfold prC at rt
  obtain ⟨K1, hK1⟩ : ∃ K1, K1 = K ++ [ABlk.rw [.int .i64 p.1, .int .i64 p.2]] := ⟨_, rfl⟩
  have A1 : Adds K K1 := ⟨_, hK1⟩
  have cq : cellsOf K1 K.length = some [.int .i64 p.1, .int .i64 p.2] := by rw [hK1]; unfold cellsOf; simp
  obtain ⟨K2, hK2⟩ : ∃ K2, K2 = K1 ++ [ABlk.rw [.int .i64 p.2]] := ⟨_, rfl⟩
  have A2 : Adds K1 K2 := ⟨_, hK2⟩
  have cs2 : cellsOf K2 K1.length = some [.int .i64 p.2] := by rw [hK2]; unfold cellsOf; simp
  obtain ⟨w', K3, ep, f3, fr3, sb3, l3⟩ := FS.push (g.frT (Fr.adds (A1.trans A2) (fun _ => False)) fun _ _ h => h) cs2 (by omega) (by have := aK.len; have := (A1.trans A2).len; omega)
  have a3 : Adds H K3 := fr3.old (aK.trans (A1.trans A2)) fun b hb h => by have := (FS.out g b h).1; omega
  have hK1 := hK1.symm
  have hK2 := hK2.symm
  have key := ih (j + 1) K3 w' (acc ++ [p.2])
  rw [List.append_assoc, List.singleton_append] at key
  rw [lo]
  unfold l8x0
  simp -implicitDefEqProofs (maxSteps := 5000000) only [go_sem, Nat.reduceShiftRight, Nat.reduceAnd, Nat.reduceBNe, Int.reduceEq, Nat.reduceAdd, Nat.reduceSub, Nat.reduceMul, Nat.reduceLeDiff, reduceIte, reduceCtorEq, Nat.reduceBEq, Nat.reduceEqDiff, wrap64, runC_loop, runC_range, callF_fn, callV_fn, callV_yld, yield_eq, yieldBody, yieldRaw, roundMid, roundEnd, rangeEnd, Bool.not_not, put_cons, put_nil, trim_same, at_zero, at_add, set_zero, set_add, store_one, write_zero, write_add, write_head, write_succ, splice_one, splice_more, List.drop_nil, List.take_nil, cell_int, cell_bool, fillS, splice_one, idxA, Ex.isNormal, List.set_nil, List.length_set, List.all_cons, List.all_nil, Bool.and_self, and_self, true_and, and_true, List.getElem?_nil, Int.reduceLT, Int.reduceLE, Int.reduceToNat, Int.toNat_zero, Int.toNat_one, Int.reduceAdd, Int.reduceSub, Int.reduceMul, Int.reduceNeg, Int.reduceBEq, Int.reduceBNe, Int.reduceGE, Int.reduceGT, Nat.reduceLT, trim_keep, under_fn, under_ptr, under_sl, Nat.lt_irrefl, not_lt_add, trim_tail, keepOk, ABlk.vals, Int.cast_ofNat_Int, decide_true, decide_false, List.all_cons, List.all_nil, Nat.zero_mul, Nat.mul_one, Nat.one_mul, hd, ix2, hc2, rt, rle, cellsA_agg, hK1, cq, hK2, ep, e2]
  exact key _ _ _ _ _ _ _ _ _ _ a3 f3 (by rw [List.length_append, List.length_singleton]; omega) (by omega)
end
section
variable {H : AHeap} {v : AV} {L : List SnS} (g : IsC H v L) (fi : Fits L)
include g fi
set_option maxHeartbeats 4000000 in
theorem usedL1 (x0 x1 x2 x4 x6 x8 x9 x10 x31 x32 x33 x34 x35 x36 x37 x38 x39 x40 x41 x42 x43 x44 x45 x46 x47 x48 x49 x50 x51 : AV) : ∀ (m i : Nat) (K : AHeap) (w : AV) (acc : List Int) (j5 j7 j14 j15 j16 j17 j18 j19 j20 j21 j22 j23 j24 j25 j26 j27 j28 j29 j30 : AV), Adds H K → FS K H.length w acc → acc.length ≤ 1000 * i → i + m = L.length →
  Outs (LS l8x1 [x0, x1, x2, w, x4, j5, x6, j7, x8, x9, x10, v, .int .i64 (L.length : Int), .int .i64 (i : Int), j14, j15, j16, j17, j18, j19, j20, j21, j22, j23, j24, j25, j26, j27, j28, j29, j30, x31, x32, x33, x34, x35, x36, x37, x38, x39, x40, x41, x42, x43, x44, x45, x46, x47, x48, x49, x50, x51] K) fun e t K' => e = .exit 0 ∧ Adds H K' ∧ ∃ fv : Nat → AV, t = [x0, x1, x2, (fv 3), x4, (fv 5), x6, (fv 7), x8, x9, x10, v, .int .i64 (L.length : Int), (fv 13), (fv 14), (fv 15), (fv 16), (fv 17), (fv 18), (fv 19), (fv 20), (fv 21), (fv 22), (fv 23), (fv 24), (fv 25), (fv 26), (fv 27), (fv 28), (fv 29), (fv 30), x31, x32, x33, x34, x35, x36, x37, x38, x39, x40, x41, x42, x43, x44, x45, x46, x47, x48, x49, x50, x51] ∧ FS K' H.length (fv 3) (acc ++ atsL (L.drop i)) := by
 intro m
 obtain ⟨L0, hL0⟩ : ∃ L, L = LS l8x1 := ⟨_, rfl⟩
 have lo := loop_open hL0
 have fl := fi.1
 rw [← hL0]
 induction m with
 | zero =>
  intro i K w acc j5 j7 j14 j15 j16 j17 j18 j19 j20 j21 j22 j23 j24 j25 j26 j27 j28 j29 j30 aK gw al hi
  obtain rfl : i = L.length := by omega
  have hd : decide ((L.length : Int) < (L.length : Int)) = false := by simp
  rw [List.drop_length, show atsL [] = [] from rfl, List.append_nil, lo]
  unfold l8x1
  simp -implicitDefEqProofs (maxSteps := 5000000) only [go_sem, Nat.reduceShiftRight, Nat.reduceAnd, Nat.reduceBNe, Int.reduceEq, Nat.reduceAdd, Nat.reduceSub, Nat.reduceMul, Nat.reduceLeDiff, reduceIte, reduceCtorEq, Nat.reduceBEq, Nat.reduceEqDiff, hd, seqR_exit', outs_normal]
  exact ⟨aK, exF2 rfl gw⟩
 | succ m ih =>
  intro i K w acc j5 j7 j14 j15 j16 j17 j18 j19 j20 j21 j22 j23 j24 j25 j26 j27 j28 j29 j30 aK gw al hi
  have hlt : i < L.length := by omega
  have hd : decide ((i : Int) < (L.length : Int)) = true := decide_eq_true (by omega)
  have e2 : IntKind.i64.wrap ((i : Int) + 1) = ((i + 1 : Nat) : Int) := by rw [wrap64 (by omega) (by omega)]; omega
  have hx := List.getElem?_eq_getElem hlt
  have ft := fits_get fi hx
  have lt := ft.lt
  rw [List.drop_eq_getElem_cons hlt, atsL_cons]
  generalize L[i] = s at *
  obtain ⟨bb, cs, vc, vt, sb, ix, hc0, h1, h2, h3, ht, hle, hbs, hip⟩ := g.idx hx
  have hc := aK.cells hc0
  have cc := hbs.cell
  have ct := hip.cell
  have wt := hip.len
  obtain ⟨K1, hK1⟩ : ∃ K1, K1 = K ++ [ABlk.rw [.int .i64 s.id, vc, vt]] := ⟨_, rfl⟩
  have A1 : Adds K K1 := ⟨_, hK1⟩
  have cq : cellsOf K1 K.length = some [.int .i64 s.id, vc, vt] := by rw [hK1]; unfold cellsOf; simp
  have hK1 := hK1.symm
  have l0 := usedL0 (H := H) hip lt (m := s.tb.length) (j := 0) (K := K1) (w := w) (acc := acc)
  rw [show ((0 : Nat) : Int) = 0 from rfl, List.drop_zero] at l0
  rw [lo]
  unfold l8x1
  simp -implicitDefEqProofs (maxSteps := 5000000) only [go_sem, Nat.reduceShiftRight, Nat.reduceAnd, Nat.reduceBNe, Int.reduceEq, Nat.reduceAdd, Nat.reduceSub, Nat.reduceMul, Nat.reduceLeDiff, reduceIte, reduceCtorEq, Nat.reduceBEq, Nat.reduceEqDiff, wrap64, runC_loop, runC_range, callF_fn, callV_fn, callV_yld, yield_eq, yieldBody, yieldRaw, roundMid, roundEnd, rangeEnd, Bool.not_not, put_cons, put_nil, trim_same, at_zero, at_add, set_zero, set_add, store_one, write_zero, write_add, write_head, write_succ, splice_one, splice_more, List.drop_nil, List.take_nil, cell_int, cell_bool, fillS, splice_one, idxA, Ex.isNormal, List.set_nil, List.length_set, List.all_cons, List.all_nil, Bool.and_self, and_self, true_and, and_true, List.getElem?_nil, Int.reduceLT, Int.reduceLE, Int.reduceToNat, Int.toNat_zero, Int.toNat_one, Int.reduceAdd, Int.reduceSub, Int.reduceMul, Int.reduceNeg, Int.reduceBEq, Int.reduceBNe, Int.reduceGE, Int.reduceGT, Nat.reduceLT, trim_keep, under_fn, under_ptr, under_sl, Nat.lt_irrefl, not_lt_add, trim_tail, keepOk, ABlk.vals, Int.cast_ofNat_Int, decide_true, decide_false, List.all_cons, List.all_nil, Nat.zero_mul, Nat.mul_one, Nat.one_mul, runC_loop, x_loop, hd, ix, hc, ht, hle, cellsA_agg, cc.2, ct.2, hK1, cq, wt]
  unfold LS at l0
  generalize (envL prog).loop (runC (envX prog XS) (l8x0 (envX prog XS))) = LL at l0 ⊢
  refine outs_ctx (fun r => seqR (seqR (blockR 1 (blockR 2 r)) _) _) (l0 _ _ _ _ _ _ _ _ _ _ _ _ _ _ _ _ _ _ _ _ _ _ _ _ _ _ _ _ _ _ _ _ _ _ _ _ _ _ _ _ _ _ _ _ _ _ _ _ (aK.trans A1) (gw.frT (Fr.adds A1 (fun _ => False)) fun _ _ h => h) (by omega) (by omega)) ?_
  rintro e t K' ⟨rfl, a1, fv, rfl, g1⟩
  have key := ih (i + 1) K' (fv 3) (acc ++ s.tb.map (·.2))
  rw [List.append_assoc] at key
  simp -implicitDefEqProofs (maxSteps := 5000000) only [go_sem, Nat.reduceShiftRight, Nat.reduceAnd, Nat.reduceBNe, Int.reduceEq, Nat.reduceAdd, Nat.reduceSub, Nat.reduceMul, Nat.reduceLeDiff, reduceIte, reduceCtorEq, Nat.reduceBEq, Nat.reduceEqDiff, wrap64, runC_loop, runC_range, callF_fn, callV_fn, callV_yld, yield_eq, yieldBody, yieldRaw, roundMid, roundEnd, rangeEnd, Bool.not_not, put_cons, put_nil, trim_same, at_zero, at_add, set_zero, set_add, store_one, write_zero, write_add, write_head, write_succ, splice_one, splice_more, List.drop_nil, List.take_nil, cell_int, cell_bool, fillS, splice_one, idxA, Ex.isNormal, List.set_nil, List.length_set, List.all_cons, List.all_nil, Bool.and_self, and_self, true_and, and_true, List.getElem?_nil, Int.reduceLT, Int.reduceLE, Int.reduceToNat, Int.toNat_zero, Int.toNat_one, Int.reduceAdd, Int.reduceSub, Int.reduceMul, Int.reduceNeg, Int.reduceBEq, Int.reduceBNe, Int.reduceGE, Int.reduceGT, Nat.reduceLT, trim_keep, under_fn, under_ptr, under_sl, Nat.lt_irrefl, not_lt_add, trim_tail, keepOk, ABlk.vals, Int.cast_ofNat_Int, decide_true, decide_false, List.all_cons, List.all_nil, Nat.zero_mul, Nat.mul_one, Nat.one_mul, e2]
  exact key _ _ _ _ _ _ _ _ _ _ _ _ _ _ _ _ _ _ _ a1 g1 (by rw [List.length_append, List.length_map]; omega) (by omega)
end
section
variable {H : AHeap} {v : AV} {P : List PrS} (g : IsP H v P) (lp : P.length ≤ 1000)
include g lp
set_option maxHeartbeats 4000000 in
theorem usedL2 (x0 x1 x2 x4 x5 x6 x7 x8 x10 x11 x12 x13 x14 x15 x16 x17 x18 x19 x20 x21 x22 x23 x24 x25 x26 x27 x28 x29 x30 x31 x32 x48 x49 x50 x51 : AV) : ∀ (m i : Nat) (K : AHeap) (w : AV) (acc : List Int) (j9 j36 j37 j38 j39 j40 j41 j42 j43 j44 j45 j46 j47 : AV), Adds H K → FS K H.length w acc → acc.length + m ≤ 1000000 → i + m = P.length →
  Outs (LS l8x2 [x0, x1, x2, w, x4, x5, x6, x7, x8, j9, x10, x11, x12, x13, x14, x15, x16, x17, x18, x19, x20, x21, x22, x23, x24, x25, x26, x27, x28, x29, x30, x31, x32, v, .int .i64 (P.length : Int), .int .i64 (i : Int), j36, j37, j38, j39, j40, j41, j42, j43, j44, j45, j46, j47, x48, x49, x50, x51] K) fun e t K' => e = .exit 4 ∧ Adds H K' ∧ ∃ fv : Nat → AV, t = [x0, x1, x2, (fv 3), x4, x5, x6, x7, x8, (fv 9), x10, x11, x12, x13, x14, x15, x16, x17, x18, x19, x20, x21, x22, x23, x24, x25, x26, x27, x28, x29, x30, x31, x32, v, .int .i64 (P.length : Int), (fv 35), (fv 36), (fv 37), (fv 38), (fv 39), (fv 40), (fv 41), (fv 42), (fv 43), (fv 44), (fv 45), (fv 46), (fv 47), x48, x49, x50, x51] ∧ FS K' H.length (fv 3) (acc ++ planL (P.drop i)) := by
 intro m
 obtain ⟨L0, hL0⟩ : ∃ L, L = LS l8x2 := ⟨_, rfl⟩
 have lo := loop_open hL0
 rw [← hL0]
 induction m with
 | zero =>
  intro i K w acc j9 j36 j37 j38 j39 j40 j41 j42 j43 j44 j45 j46 j47 aK gw al hi
  obtain rfl : i = P.length := by omega
  have hd : decide ((P.length : Int) < (P.length : Int)) = false := by simp
  rw [List.drop_length, show planL [] = [] from rfl, List.append_nil, lo]
  unfold l8x2
  simp -implicitDefEqProofs (maxSteps := 5000000) only [go_sem, Nat.reduceShiftRight, Nat.reduceAnd, Nat.reduceBNe, Int.reduceEq, Nat.reduceAdd, Nat.reduceSub, Nat.reduceMul, Nat.reduceLeDiff, reduceIte, reduceCtorEq, Nat.reduceBEq, Nat.reduceEqDiff, hd, seqR_exit', outs_normal]
  exact ⟨aK, exF2 rfl gw⟩
 | succ m ih =>
  intro i K w acc j9 j36 j37 j38 j39 j40 j41 j42 j43 j44 j45 j46 j47 aK gw al hi
  have hlt : i < P.length := by omega
  have hd : decide ((i : Int) < (P.length : Int)) = true := decide_eq_true (by omega)
  have e2 : IntKind.i64.wrap ((i : Int) + 1) = ((i + 1 : Nat) : Int) := by rw [wrap64 (by omega) (by omega)]; omega
  have hx := List.getElem?_eq_getElem hlt
  rw [List.drop_eq_getElem_cons hlt]
  generalize P[i] = p at *
  have hpl : planL (p :: P.drop (i + 1)) = (if p.2 = 255 then [] else [p.2]) ++ planL (P.drop (i + 1)) := by
   unfold planL
   rw [List.filter_cons]
   by_cases h : p.2 = 255
   ·rw [if_neg (by simp [h]), if_pos h]; rfl
   ·rw [if_pos (by simp [h]), if_neg h]; rfl
  rw [hpl]
  obtain ⟨b2, c2, _, ix2, hc0, r1, r2, rt, rle⟩ := g.idx hx
  have hc2 := aK.cells hc0
  unfold prC at rt
  obtain ⟨K1, hK1⟩ : ∃ K1, K1 = K ++ [ABlk.rw [.int .i64 p.1, .int .i64 p.2]] := ⟨_, rfl⟩
  have A1 : Adds K K1 := ⟨_, hK1⟩
  have cq : cellsOf K1 K.length = some [.int .i64 p.1, .int .i64 p.2] := by rw [hK1]; unfold cellsOf; simp
  have gw1 : FS K1 H.length w acc := gw.frT (Fr.adds A1 (fun _ => False)) fun _ _ h => h
  have hK1' := hK1.symm
  by_cases h : p.2 = 255
  ·have nn : (p.2 != 255) = false := by simp [h]
   rw [if_pos h, List.nil_append]
   rw [lo]
   unfold l8x2
   simp -implicitDefEqProofs (maxSteps := 5000000) only [go_sem, Nat.reduceShiftRight, Nat.reduceAnd, Nat.reduceBNe, Int.reduceEq, Nat.reduceAdd, Nat.reduceSub, Nat.reduceMul, Nat.reduceLeDiff, reduceIte, reduceCtorEq, Nat.reduceBEq, Nat.reduceEqDiff, wrap64, runC_loop, runC_range, callF_fn, callV_fn, callV_yld, yield_eq, yieldBody, yieldRaw, roundMid, roundEnd, rangeEnd, Bool.not_not, put_cons, put_nil, trim_same, at_zero, at_add, set_zero, set_add, store_one, write_zero, write_add, write_head, write_succ, splice_one, splice_more, List.drop_nil, List.take_nil, cell_int, cell_bool, fillS, splice_one, idxA, Ex.isNormal, List.set_nil, List.length_set, List.all_cons, List.all_nil, Bool.and_self, and_self, true_and, and_true, List.getElem?_nil, Int.reduceLT, Int.reduceLE, Int.reduceToNat, Int.toNat_zero, Int.toNat_one, Int.reduceAdd, Int.reduceSub, Int.reduceMul, Int.reduceNeg, Int.reduceBEq, Int.reduceBNe, Int.reduceGE, Int.reduceGT, Nat.reduceLT, trim_keep, under_fn, under_ptr, under_sl, Nat.lt_irrefl, not_lt_add, trim_tail, keepOk, ABlk.vals, Int.cast_ofNat_Int, decide_true, decide_false, List.all_cons, List.all_nil, Nat.zero_mul, Nat.mul_one, Nat.one_mul, hd, ix2, hc2, rt, rle, cellsA_agg, hK1', cq, nn, e2]
   exact ih (i + 1) K1 w acc _ _ _ _ _ _ _ _ _ _ _ _ _ (aK.trans A1) gw1 (by omega) (by omega)
  ·have nn : (p.2 != 255) = true := by simp [h]
   rw [if_neg h]
   obtain ⟨K2, hK2⟩ : ∃ K2, K2 = K1 ++ [ABlk.rw [.int .i64 p.2]] := ⟨_, rfl⟩
   have A2 : Adds K1 K2 := ⟨_, hK2⟩
   have cs2 : cellsOf K2 K1.length = some [.int .i64 p.2] := by rw [hK2]; unfold cellsOf; simp
   obtain ⟨w', K3, ep, f3, fr3, sb3, l3⟩ := FS.push (gw.frT (Fr.adds (A1.trans A2) (fun _ => False)) fun _ _ h => h) cs2 (by omega) (by have := aK.len; have := (A1.trans A2).len; omega)
   have a3 : Adds H K3 := fr3.old (aK.trans (A1.trans A2)) fun b hb h => by have := (FS.out gw b h).1; omega
   have hK2 := hK2.symm
   rw [lo]
   unfold l8x2
   simp -implicitDefEqProofs (maxSteps := 5000000) only [go_sem, Nat.reduceShiftRight, Nat.reduceAnd, Nat.reduceBNe, Int.reduceEq, Nat.reduceAdd, Nat.reduceSub, Nat.reduceMul, Nat.reduceLeDiff, reduceIte, reduceCtorEq, Nat.reduceBEq, Nat.reduceEqDiff, wrap64, runC_loop, runC_range, callF_fn, callV_fn, callV_yld, yield_eq, yieldBody, yieldRaw, roundMid, roundEnd, rangeEnd, Bool.not_not, put_cons, put_nil, trim_same, at_zero, at_add, set_zero, set_add, store_one, write_zero, write_add, write_head, write_succ, splice_one, splice_more, List.drop_nil, List.take_nil, cell_int, cell_bool, fillS, splice_one, idxA, Ex.isNormal, List.set_nil, List.length_set, List.all_cons, List.all_nil, Bool.and_self, and_self, true_and, and_true, List.getElem?_nil, Int.reduceLT, Int.reduceLE, Int.reduceToNat, Int.toNat_zero, Int.toNat_one, Int.reduceAdd, Int.reduceSub, Int.reduceMul, Int.reduceNeg, Int.reduceBEq, Int.reduceBNe, Int.reduceGE, Int.reduceGT, Nat.reduceLT, trim_keep, under_fn, under_ptr, under_sl, Nat.lt_irrefl, not_lt_add, trim_tail, keepOk, ABlk.vals, Int.cast_ofNat_Int, decide_true, decide_false, List.all_cons, List.all_nil, Nat.zero_mul, Nat.mul_one, Nat.one_mul, hd, ix2, hc2, rt, rle, cellsA_agg, hK1', cq, nn, hK2, ep, e2]
   have key := ih (i + 1) K3 w' (acc ++ [p.2])
   rw [List.append_assoc, List.singleton_append] at key
   exact key _ _ _ _ _ _ _ _ _ _ _ _ _ a3 f3 (by rw [List.length_append, List.length_singleton]; omega) (by omega)
end
structure SA (H : AHeap) (cs : List AV) (L : List SnS) (P : List PrS) : Prop where
 ex : ∃ vd vs nx kd pd vp, cs = [vd, vs, .int .i64 nx, .int .i64 kd, .int .i64 pd, vp] ∧ IsC H vs L ∧ IsP H vp P ∧ cellsA vd = some [vd] ∧ vd.isCell = true
 fi : Fits L
 lp : P.length ≤ 1000
theorem SA.adds {H H' : AHeap} {cs : List AV} {L : List SnS} {P : List PrS} (s : SA H cs L P) (a : Adds H H') : SA H' cs L P := by
 obtain ⟨⟨vd, vs, nx, kd, pd, vp, e, h1, h2, h3⟩, h4, h5⟩ := s
 exact ⟨⟨vd, vs, nx, kd, pd, vp, e, h1.adds a, h2.adds a, h3⟩, h4, h5⟩
def usedS (L : List SnS) (P : List PrS) : List Int := usd (atsL L ++ planL P)
set_option maxHeartbeats 8000000 in
theorem usedC {H : AHeap} {cs : List AV} {L : List SnS} {P : List PrS} (s : SA H cs L P) : ∃ v' K, callBody prog (envX prog XS) 8 [.agg cs] H = some (v', K) ∧ Adds H K ∧ IS K v' (usedS L P) ∧ ∀ b, slb v' = some b → H.length ≤ b := by
 obtain ⟨⟨vd, vs, nx, kd, pd, vp, rfl, gs, gp, cd⟩, fi, lp⟩ := s
 obtain ⟨H1, hH1⟩ : ∃ K, K = H ++ [ABlk.rw [vd, vs, .int .i64 nx, .int .i64 kd, .int .i64 pd, vp]] := ⟨_, rfl⟩
 have A1 : Adds H H1 := ⟨_, hH1⟩
 have c1 : cellsOf H1 H.length = some [vd, vs, .int .i64 nx, .int .i64 kd, .int .i64 pd, vp] := by rw [hH1]; unfold cellsOf; simp
 have g1 := gs.adds A1
 have p1 := gp.adds A1
 have ws := g1.len
 have wp := p1.len
 have cs1 := gs.cell
 have cp1 := gp.cell
 have fl := fi.1
 have al := atsL_len (L := L) fun x hx => (fi.2 x hx).lt
 have l1 := usedL1 g1 fi (m := L.length) (i := 0) (K := H1) (w := .nilSl) (acc := [])
 rw [show ((0 : Nat) : Int) = 0 from rfl, List.drop_zero, List.nil_append] at l1
 have hH1' := hH1.symm
 have key : Outs (runC (envX prog XS) (b8 (envX prog XS)) ([.agg [vd, vs, .int .i64 nx, .int .i64 kd, .int .i64 pd, vp]] ++ List.replicate (52 - [AV.agg [vd, vs, .int .i64 nx, .int .i64 kd, .int .i64 pd, vp]].length) .undef) H) fun e' t K => ∃ w, Adds H K ∧ IS K w (usedS L P) ∧ (∀ b, slb w = some b → H.length ≤ b) ∧ fin [.tmp 2] (some (e', t, K)) = some (w, K) := by
  unfold b8
  generalize hQ : (fun (e' : Ex) (t : T) (K : AHeap) => ∃ w, Adds H K ∧ IS K w (usedS L P) ∧ (∀ b, slb w = some b → H.length ≤ b) ∧ fin [.tmp 2] (some (e', t, K)) = some (w, K)) = Q
  simp -implicitDefEqProofs (maxSteps := 5000000) only [go_sem, Nat.reduceShiftRight, Nat.reduceAnd, Nat.reduceBNe, Int.reduceEq, Nat.reduceAdd, Nat.reduceSub, Nat.reduceMul, Nat.reduceLeDiff, reduceIte, reduceCtorEq, Nat.reduceBEq, Nat.reduceEqDiff, wrap64, runC_loop, runC_range, callF_fn, callV_fn, callV_yld, yield_eq, yieldBody, yieldRaw, roundMid, roundEnd, rangeEnd, Bool.not_not, put_cons, put_nil, trim_same, at_zero, at_add, set_zero, set_add, store_one, write_zero, write_add, write_head, write_succ, splice_one, splice_more, List.drop_nil, List.take_nil, cell_int, cell_bool, fillS, splice_one, idxA, Ex.isNormal, List.set_nil, List.length_set, List.all_cons, List.all_nil, Bool.and_self, and_self, true_and, and_true, List.getElem?_nil, Int.reduceLT, Int.reduceLE, Int.reduceToNat, Int.toNat_zero, Int.toNat_one, Int.reduceAdd, Int.reduceSub, Int.reduceMul, Int.reduceNeg, Int.reduceBEq, Int.reduceBNe, Int.reduceGE, Int.reduceGT, Nat.reduceLT, trim_keep, under_fn, under_ptr, under_sl, Nat.lt_irrefl, not_lt_add, trim_tail, keepOk, ABlk.vals, Int.cast_ofNat_Int, decide_true, decide_false, List.all_cons, List.all_nil, Nat.zero_mul, Nat.mul_one, Nat.one_mul, runC_loop, x_loop, cellsA_agg, cd.2, cs1.2, cp1.2, hH1', c1, ws]
  unfold LS at l1
  generalize (envL prog).loop (runC (envX prog XS) (l8x1 (envX prog XS))) = LL at l1 ⊢
  refine outs_ctx (fun r => seqR (blockR 0 r) _) (l1 _ _ _ _ _ _ _ _ _ _ _ _ _ _ _ _ _ _ _ _ _ _ _ _ _ _ _ _ _ _ _ _ _ _ _ _ _ _ _ _ _ _ _ _ _ _ _ _ (Adds.refl H1) (.inl ⟨rfl, rfl⟩) (by simp) (by omega)) ?_
  rintro e t K2 ⟨rfl, A2, fv, rfl, f2⟩
  have c2 := A2.cells c1
  have l2 := usedL2 (H := H1) p1 lp (m := P.length) (i := 0) (K := K2) (w := fv 3) (acc := atsL L)
  rw [show ((0 : Nat) : Int) = 0 from rfl, List.drop_zero] at l2
  simp -implicitDefEqProofs (maxSteps := 5000000) only [go_sem, Nat.reduceShiftRight, Nat.reduceAnd, Nat.reduceBNe, Int.reduceEq, Nat.reduceAdd, Nat.reduceSub, Nat.reduceMul, Nat.reduceLeDiff, reduceIte, reduceCtorEq, Nat.reduceBEq, Nat.reduceEqDiff, wrap64, runC_loop, runC_range, callF_fn, callV_fn, callV_yld, yield_eq, yieldBody, yieldRaw, roundMid, roundEnd, rangeEnd, Bool.not_not, put_cons, put_nil, trim_same, at_zero, at_add, set_zero, set_add, store_one, write_zero, write_add, write_head, write_succ, splice_one, splice_more, List.drop_nil, List.take_nil, cell_int, cell_bool, fillS, splice_one, idxA, Ex.isNormal, List.set_nil, List.length_set, List.all_cons, List.all_nil, Bool.and_self, and_self, true_and, and_true, List.getElem?_nil, Int.reduceLT, Int.reduceLE, Int.reduceToNat, Int.toNat_zero, Int.toNat_one, Int.reduceAdd, Int.reduceSub, Int.reduceMul, Int.reduceNeg, Int.reduceBEq, Int.reduceBNe, Int.reduceGE, Int.reduceGT, Nat.reduceLT, trim_keep, under_fn, under_ptr, under_sl, Nat.lt_irrefl, not_lt_add, trim_tail, keepOk, ABlk.vals, Int.cast_ofNat_Int, decide_true, decide_false, List.all_cons, List.all_nil, Nat.zero_mul, Nat.mul_one, Nat.one_mul, runC_loop, x_loop, c2, wp]
  unfold LS at l2
  generalize (envL prog).loop (runC (envX prog XS) (l8x2 (envX prog XS))) = LL at l2 ⊢
  refine outs_ctx (fun r => seqR (blockR 4 r) _) (l2 _ _ _ _ _ _ _ _ _ _ _ _ _ _ _ _ _ _ _ _ _ _ _ _ _ _ _ _ _ _ _ _ _ _ _ _ _ _ _ _ _ _ _ _ _ _ _ _ A2 f2 (by omega) (by omega)) ?_
  rintro e t K3 ⟨rfl, A3, fw, rfl, f3⟩
  have pl := planL_len P
  obtain ⟨K4, es, f4, fr4, l4⟩ := xs_sort f3 (by rw [List.length_append]; omega)
  obtain ⟨v', K5, ec, i5, sb5, fr5, l5⟩ := compactC f4 (by rw [srt_len, List.length_append]; omega)
  have o3 := FS.out f3
  have A5 : Adds H1 K5 := (fr4.trans fr5 (fun _ _ h => h)).old A3 fun b hb h => by have := (o3 b h).1; omega
  simp -implicitDefEqProofs (maxSteps := 5000000) only [go_sem, Nat.reduceShiftRight, Nat.reduceAnd, Nat.reduceBNe, Int.reduceEq, Nat.reduceAdd, Nat.reduceSub, Nat.reduceMul, Nat.reduceLeDiff, reduceIte, reduceCtorEq, Nat.reduceBEq, Nat.reduceEqDiff, wrap64, runC_loop, runC_range, callF_fn, callV_fn, callV_yld, yield_eq, yieldBody, yieldRaw, roundMid, roundEnd, rangeEnd, Bool.not_not, put_cons, put_nil, trim_same, at_zero, at_add, set_zero, set_add, store_one, write_zero, write_add, write_head, write_succ, splice_one, splice_more, List.drop_nil, List.take_nil, cell_int, cell_bool, fillS, splice_one, idxA, Ex.isNormal, List.set_nil, List.length_set, List.all_cons, List.all_nil, Bool.and_self, and_self, true_and, and_true, List.getElem?_nil, Int.reduceLT, Int.reduceLE, Int.reduceToNat, Int.toNat_zero, Int.toNat_one, Int.reduceAdd, Int.reduceSub, Int.reduceMul, Int.reduceNeg, Int.reduceBEq, Int.reduceBNe, Int.reduceGE, Int.reduceGT, Nat.reduceLT, trim_keep, under_fn, under_ptr, under_sl, Nat.lt_irrefl, not_lt_add, trim_tail, keepOk, ABlk.vals, Int.cast_ofNat_Int, decide_true, decide_false, List.all_cons, List.all_nil, Nat.zero_mul, Nat.mul_one, Nat.one_mul, es, xs_call, ec, outs_normal]
  subst hQ
  refine ⟨v', A1.trans A5, i5, fun b hb => by have := (o3 b (sb5 b hb)).1; have := A1.len; omega, ?_⟩
  simp -implicitDefEqProofs (maxSteps := 5000000) only [go_sem, Nat.reduceShiftRight, Nat.reduceAnd, Nat.reduceBNe, Int.reduceEq, Nat.reduceAdd, Nat.reduceSub, Nat.reduceMul, Nat.reduceLeDiff, reduceIte, reduceCtorEq, Nat.reduceBEq, Nat.reduceEqDiff, wrap64, runC_loop, runC_range, callF_fn, callV_fn, callV_yld, yield_eq, yieldBody, yieldRaw, roundMid, roundEnd, rangeEnd, Bool.not_not, put_cons, put_nil, trim_same, at_zero, at_add, set_zero, set_add, store_one, write_zero, write_add, write_head, write_succ, splice_one, splice_more, List.drop_nil, List.take_nil, cell_int, cell_bool, fillS, splice_one, idxA, Ex.isNormal, List.set_nil, List.length_set, List.all_cons, List.all_nil, Bool.and_self, and_self, true_and, and_true, List.getElem?_nil, Int.reduceLT, Int.reduceLE, Int.reduceToNat, Int.toNat_zero, Int.toNat_one, Int.reduceAdd, Int.reduceSub, Int.reduceMul, Int.reduceNeg, Int.reduceBEq, Int.reduceBNe, Int.reduceGE, Int.reduceGT, Nat.reduceLT, trim_keep, under_fn, under_ptr, under_sl, Nat.lt_irrefl, not_lt_add, trim_tail, keepOk, ABlk.vals, Int.cast_ofNat_Int, decide_true, decide_false, List.all_cons, List.all_nil, Nat.zero_mul, Nat.mul_one, Nat.one_mul]
 obtain ⟨e', t, K, hr, w, aK, bs, wb, hf⟩ := key
 obtain ⟨K', e, a, b⟩ := is_end aK bs wb
 exact ⟨w, K', by rw [d8, hr, hf]; exact e, a, b, wb⟩
end Go.Proofs.Ytfioahnogphnfaa.G12
end
section
namespace Go.Proofs.Ytfioahnogphnfaa.G12
open Go Go.Proofs.Ytfioahnogphnfaa.Eng
noncomputable def XU : Over := XS.up prog 8
theorem xu_ok : XU.Ok prog := up_ok goodP xs_ok _
theorem xu_call (f : Nat) (args : List AV) (h : AHeap) (eu : (f == 8) = false) (es : (f == 15) = false) (ed : (f == 12) = false) (em : (f == 25) = false) (e0 : (f == 37) = false) (e1 : (f == 52) = false) (e2 : (f == 61) = false) : (envX prog XU).call f args h = (envL prog).call f args h := by
 unfold XU Over.up; rw [x_miss _ _ eu, xs_call _ _ _ es ed em e0 e1 e2]
theorem xu_used {args : List AV} {h : AHeap} {r : AV × AHeap} (e : callBody prog (envX prog XS) 8 args h = some r) : (envX prog XU).call 8 args h = some r := x_hit e
noncomputable abbrev LU (l : Env → CT) := (envL prog).loop (runC (envX prog XU) (l (envX prog XU)))
def freeN (u : List Int) (a : Int) : Int := if a < 1 then 0 else a - (wth a u : Int)
theorem wth_le (a : Int) (u : List Int) : wth a u ≤ u.length := List.length_filter_le _ _
section
variable {K : AHeap} {v : AV} {u : List Int} (g : IS K v u) (lu : u.length ≤ 1000000) (a : Int) (ha : a ≤ 9223372036854775807) (h1 : 1 ≤ a)
include g lu ha h1
set_option maxHeartbeats 4000000 in
theorem freeL (x0 x2 x3 x4 x6 x8 x9 x10 x11 x28 : AV) : ∀ (m i : Nat) (j7 j15 j16 j17 j18 j19 j20 j21 j22 j23 j24 j25 j26 j27 : AV), i + m = u.length →
  Outs (LU l9x0 [x0, .int .i64 a, x2, x3, x4, .int .i64 (a - (wth a (u.take i) : Int)), x6, j7, x8, x9, x10, x11, v, .int .i64 (u.length : Int), .int .i64 (i : Int), j15, j16, j17, j18, j19, j20, j21, j22, j23, j24, j25, j26, j27, x28] K) fun e t K' => e = .exit 0 ∧ K' = K ∧ ∃ fv : Nat → AV, t = [x0, .int .i64 a, x2, x3, x4, (fv 5), x6, (fv 7), x8, x9, x10, x11, v, .int .i64 (u.length : Int), (fv 14), (fv 15), (fv 16), (fv 17), (fv 18), (fv 19), (fv 20), (fv 21), (fv 22), (fv 23), (fv 24), (fv 25), (fv 26), (fv 27), x28] ∧ fv 5 = .int .i64 (a - (wth a u : Int)) := by
 intro m
 obtain ⟨L0, hL0⟩ : ∃ L, L = LU l9x0 := ⟨_, rfl⟩
 have lo := loop_open hL0
 rw [← hL0]
 induction m with
 | zero =>
  intro i j7 j15 j16 j17 j18 j19 j20 j21 j22 j23 j24 j25 j26 j27 hi
  obtain rfl : i = u.length := by omega
  have hd : decide ((u.length : Int) < (u.length : Int)) = false := by simp
  rw [lo, List.take_length]
  unfold l9x0
  simp -implicitDefEqProofs (maxSteps := 5000000) only [go_sem, Nat.reduceShiftRight, Nat.reduceAnd, Nat.reduceBNe, Int.reduceEq, Nat.reduceAdd, Nat.reduceSub, Nat.reduceMul, Nat.reduceLeDiff, reduceIte, reduceCtorEq, Nat.reduceBEq, Nat.reduceEqDiff, hd, seqR_exit', outs_normal]
  exact exF2 rfl rfl
 | succ m ih =>
  intro i j7 j15 j16 j17 j18 j19 j20 j21 j22 j23 j24 j25 j26 j27 hi
  have hlt : i < u.length := by omega
  have hd : decide ((i : Int) < (u.length : Int)) = true := decide_eq_true (by omega)
  have e2 : IntKind.i64.wrap ((i : Int) + 1) = ((i + 1 : Nat) : Int) := by rw [wrap64 (by omega) (by omega)]; omega
  have hx := List.getElem?_eq_getElem hlt
  have tk : u.take (i + 1) = u.take i ++ [u[i]] := by rw [List.take_add_one, hx]; rfl
  have wle := wth_le a (u.take i)
  rw [List.length_take] at wle
  have key := ih (i + 1)
  have hw : wth a (u.take (i + 1)) = wth a (u.take i) + (if 0 ≤ u[i] ∧ u[i] < a then 1 else 0) := by
   rw [tk, wth_app, wth_cons, wth_nil]; omega
  rw [hw] at key
  generalize u[i] = x at *
  obtain ⟨ad, ix, ld⟩ := g.idx hx .i64
  have s1 : IntKind.i64.wrap (a - (wth a (u.take i) : Int) - 1) = a - ((wth a (u.take i) + 1 : Nat) : Int) := by rw [wrap64 (by omega) (by omega)]; omega
  rw [lo]
  unfold l9x0
  by_cases c0 : x ≥ 0
  ·have d0 := decide_eq_true c0
   by_cases c1 : x < a
   ·have d1 := decide_eq_true c1
    rw [if_pos ⟨c0, c1⟩] at key
    simp -implicitDefEqProofs (maxSteps := 5000000) only [go_sem, Nat.reduceShiftRight, Nat.reduceAnd, Nat.reduceBNe, Int.reduceEq, Nat.reduceAdd, Nat.reduceSub, Nat.reduceMul, Nat.reduceLeDiff, reduceIte, reduceCtorEq, Nat.reduceBEq, Nat.reduceEqDiff, wrap64, runC_loop, runC_range, callF_fn, callV_fn, callV_yld, yield_eq, yieldBody, yieldRaw, roundMid, roundEnd, rangeEnd, Bool.not_not, put_cons, put_nil, trim_same, at_zero, at_add, set_zero, set_add, store_one, write_zero, write_add, write_head, write_succ, splice_one, splice_more, List.drop_nil, List.take_nil, cell_int, cell_bool, fillS, splice_one, idxA, Ex.isNormal, List.set_nil, List.length_set, List.all_cons, List.all_nil, Bool.and_self, and_self, true_and, and_true, List.getElem?_nil, Int.reduceLT, Int.reduceLE, Int.reduceToNat, Int.toNat_zero, Int.toNat_one, Int.reduceAdd, Int.reduceSub, Int.reduceMul, Int.reduceNeg, Int.reduceBEq, Int.reduceBNe, Int.reduceGE, Int.reduceGT, Nat.reduceLT, trim_keep, under_fn, under_ptr, under_sl, Nat.lt_irrefl, not_lt_add, trim_tail, keepOk, ABlk.vals, Int.cast_ofNat_Int, decide_true, decide_false, List.all_cons, List.all_nil, Nat.zero_mul, Nat.mul_one, Nat.one_mul, hd, ix, ld, d0, d1, s1, e2]
    exact key _ _ _ _ _ _ _ _ _ _ _ _ _ _ (by omega)
   ·have d1 := decide_eq_false c1
    rw [if_neg (by omega), Nat.add_zero] at key
    simp -implicitDefEqProofs (maxSteps := 5000000) only [go_sem, Nat.reduceShiftRight, Nat.reduceAnd, Nat.reduceBNe, Int.reduceEq, Nat.reduceAdd, Nat.reduceSub, Nat.reduceMul, Nat.reduceLeDiff, reduceIte, reduceCtorEq, Nat.reduceBEq, Nat.reduceEqDiff, wrap64, runC_loop, runC_range, callF_fn, callV_fn, callV_yld, yield_eq, yieldBody, yieldRaw, roundMid, roundEnd, rangeEnd, Bool.not_not, put_cons, put_nil, trim_same, at_zero, at_add, set_zero, set_add, store_one, write_zero, write_add, write_head, write_succ, splice_one, splice_more, List.drop_nil, List.take_nil, cell_int, cell_bool, fillS, splice_one, idxA, Ex.isNormal, List.set_nil, List.length_set, List.all_cons, List.all_nil, Bool.and_self, and_self, true_and, and_true, List.getElem?_nil, Int.reduceLT, Int.reduceLE, Int.reduceToNat, Int.toNat_zero, Int.toNat_one, Int.reduceAdd, Int.reduceSub, Int.reduceMul, Int.reduceNeg, Int.reduceBEq, Int.reduceBNe, Int.reduceGE, Int.reduceGT, Nat.reduceLT, trim_keep, under_fn, under_ptr, under_sl, Nat.lt_irrefl, not_lt_add, trim_tail, keepOk, ABlk.vals, Int.cast_ofNat_Int, decide_true, decide_false, List.all_cons, List.all_nil, Nat.zero_mul, Nat.mul_one, Nat.one_mul, hd, ix, ld, d0, d1, e2]
    exact key _ _ _ _ _ _ _ _ _ _ _ _ _ _ (by omega)
  ·have d0 := decide_eq_false c0
   rw [if_neg (by omega), Nat.add_zero] at key
   simp -implicitDefEqProofs (maxSteps := 5000000) only [go_sem, Nat.reduceShiftRight, Nat.reduceAnd, Nat.reduceBNe, Int.reduceEq, Nat.reduceAdd, Nat.reduceSub, Nat.reduceMul, Nat.reduceLeDiff, reduceIte, reduceCtorEq, Nat.reduceBEq, Nat.reduceEqDiff, wrap64, runC_loop, runC_range, callF_fn, callV_fn, callV_yld, yield_eq, yieldBody, yieldRaw, roundMid, roundEnd, rangeEnd, Bool.not_not, put_cons, put_nil, trim_same, at_zero, at_add, set_zero, set_add, store_one, write_zero, write_add, write_head, write_succ, splice_one, splice_more, List.drop_nil, List.take_nil, cell_int, cell_bool, fillS, splice_one, idxA, Ex.isNormal, List.set_nil, List.length_set, List.all_cons, List.all_nil, Bool.and_self, and_self, true_and, and_true, List.getElem?_nil, Int.reduceLT, Int.reduceLE, Int.reduceToNat, Int.toNat_zero, Int.toNat_one, Int.reduceAdd, Int.reduceSub, Int.reduceMul, Int.reduceNeg, Int.reduceBEq, Int.reduceBNe, Int.reduceGE, Int.reduceGT, Nat.reduceLT, trim_keep, under_fn, under_ptr, under_sl, Nat.lt_irrefl, not_lt_add, trim_tail, keepOk, ABlk.vals, Int.cast_ofNat_Int, decide_true, decide_false, List.all_cons, List.all_nil, Nat.zero_mul, Nat.mul_one, Nat.one_mul, hd, ix, ld, d0, e2]
   exact key _ _ _ _ _ _ _ _ _ _ _ _ _ _ (by omega)
end
theorem usedS_len {L : List SnS} {P : List PrS} (fi : Fits L) (lp : P.length ≤ 1000) : (usedS L P).length ≤ 1000000 := by
 have h1 := usd_len (atsL L ++ planL P)
 have h2 := atsL_len (L := L) fun x hx => (fi.2 x hx).lt
 have h3 := planL_len P
 have h4 := fi.1
 rw [List.length_append] at h1
 unfold usedS; omega
theorem SA.cells {H : AHeap} {cs : List AV} {L : List SnS} {P : List PrS} (s : SA H cs L P) : cs.length = 6 ∧ cs.all AV.isCell = true ∧ ∃ vd vs nx kd pd vp, cs = [vd, vs, .int .i64 nx, .int .i64 kd, .int .i64 pd, vp] ∧ vd.isCell = true ∧ vs.isCell = true ∧ vp.isCell = true := by
 obtain ⟨⟨vd, vs, nx, kd, pd, vp, rfl, h1, h2, h3⟩, _, _⟩ := s
 refine ⟨rfl, ?_, vd, vs, nx, kd, pd, vp, rfl, h3.2, h1.cell.2, h2.cell.2⟩
 simp only [List.all_cons, List.all_nil, h3.2, h1.cell.2, h2.cell.2, Bool.and_true, Bool.true_and]; rfl
set_option maxHeartbeats 8000000 in
theorem freeC {H : AHeap} {cs : List AV} {L : List SnS} {P : List PrS} (s : SA H cs L P) (a : Int) (ha : a ≤ 9223372036854775807) : callBody prog (envX prog XU) 9 [.agg cs, .int .i64 a] H = some (.int .i64 (freeN (usedS L P) a), H) := by
 have lu := usedS_len s.fi s.lp
 obtain ⟨H1, hH1⟩ : ∃ K, K = H ++ [ABlk.rw cs] := ⟨_, rfl⟩
 have A1 : Adds H H1 := ⟨_, hH1⟩
 have c1 : cellsOf H1 H.length = some cs := by rw [hH1]; unfold cellsOf; simp
 obtain ⟨v, K2, eu, A2, i2, _⟩ := usedC (s.adds A1)
 have eu := xu_used eu
 obtain ⟨_, hc, vd, vs, nx, kd, pd, vp, rfl, k1, k2, k3⟩ := s.cells
 have wl := i2.len
 have hH1 := hH1.symm
 have key : Outs (runC (envX prog XU) (b9 (envX prog XU)) ([.agg [vd, vs, .int .i64 nx, .int .i64 kd, .int .i64 pd, vp], .int .i64 a] ++ List.replicate (29 - [AV.agg [vd, vs, .int .i64 nx, .int .i64 kd, .int .i64 pd, vp], .int .i64 a].length) .undef) H) fun e' t K => Adds H K ∧ fin [.tmp 4] (some (e', t, K)) = some (.int .i64 (freeN (usedS L P) a), K) := by
  unfold b9
  generalize hQ : (fun (e' : Ex) (t : T) (K : AHeap) => Adds H K ∧ fin [.tmp 4] (some (e', t, K)) = some (AV.int .i64 (freeN (usedS L P) a), K)) = Q
  by_cases h1 : a < 1
  ·have d1 := decide_eq_true h1
   simp -implicitDefEqProofs (maxSteps := 5000000) only [go_sem, Nat.reduceShiftRight, Nat.reduceAnd, Nat.reduceBNe, Int.reduceEq, Nat.reduceAdd, Nat.reduceSub, Nat.reduceMul, Nat.reduceLeDiff, reduceIte, reduceCtorEq, Nat.reduceBEq, Nat.reduceEqDiff, wrap64, runC_loop, runC_range, callF_fn, callV_fn, callV_yld, yield_eq, yieldBody, yieldRaw, roundMid, roundEnd, rangeEnd, Bool.not_not, put_cons, put_nil, trim_same, at_zero, at_add, set_zero, set_add, store_one, write_zero, write_add, write_head, write_succ, splice_one, splice_more, List.drop_nil, List.take_nil, cell_int, cell_bool, fillS, splice_one, idxA, Ex.isNormal, List.set_nil, List.length_set, List.all_cons, List.all_nil, Bool.and_self, and_self, true_and, and_true, List.getElem?_nil, Int.reduceLT, Int.reduceLE, Int.reduceToNat, Int.toNat_zero, Int.toNat_one, Int.reduceAdd, Int.reduceSub, Int.reduceMul, Int.reduceNeg, Int.reduceBEq, Int.reduceBNe, Int.reduceGE, Int.reduceGT, Nat.reduceLT, trim_keep, under_fn, under_ptr, under_sl, Nat.lt_irrefl, not_lt_add, trim_tail, keepOk, ABlk.vals, Int.cast_ofNat_Int, decide_true, decide_false, List.all_cons, List.all_nil, Nat.zero_mul, Nat.mul_one, Nat.one_mul, cellsA_agg, k1, k2, k3, hH1, d1, outs_normal]
   subst hQ
   refine ⟨A1, ?_⟩
   rw [show freeN (usedS L P) a = 0 by unfold freeN; rw [if_pos h1]]
   simp -implicitDefEqProofs (maxSteps := 5000000) only [go_sem, Nat.reduceShiftRight, Nat.reduceAnd, Nat.reduceBNe, Int.reduceEq, Nat.reduceAdd, Nat.reduceSub, Nat.reduceMul, Nat.reduceLeDiff, reduceIte, reduceCtorEq, Nat.reduceBEq, Nat.reduceEqDiff, wrap64, runC_loop, runC_range, callF_fn, callV_fn, callV_yld, yield_eq, yieldBody, yieldRaw, roundMid, roundEnd, rangeEnd, Bool.not_not, put_cons, put_nil, trim_same, at_zero, at_add, set_zero, set_add, store_one, write_zero, write_add, write_head, write_succ, splice_one, splice_more, List.drop_nil, List.take_nil, cell_int, cell_bool, fillS, splice_one, idxA, Ex.isNormal, List.set_nil, List.length_set, List.all_cons, List.all_nil, Bool.and_self, and_self, true_and, and_true, List.getElem?_nil, Int.reduceLT, Int.reduceLE, Int.reduceToNat, Int.toNat_zero, Int.toNat_one, Int.reduceAdd, Int.reduceSub, Int.reduceMul, Int.reduceNeg, Int.reduceBEq, Int.reduceBNe, Int.reduceGE, Int.reduceGT, Nat.reduceLT, trim_keep, under_fn, under_ptr, under_sl, Nat.lt_irrefl, not_lt_add, trim_tail, keepOk, ABlk.vals, Int.cast_ofNat_Int, decide_true, decide_false, List.all_cons, List.all_nil, Nat.zero_mul, Nat.mul_one, Nat.one_mul]
  ·have d1 := decide_eq_false h1
   have l0 := freeL i2 lu a ha (by omega) (m := (usedS L P).length) (i := 0)
   rw [show ((0 : Nat) : Int) = 0 from rfl, List.take_zero, wth_nil, show a - ((0 : Nat) : Int) = a by omega] at l0
   simp -implicitDefEqProofs (maxSteps := 5000000) only [go_sem, Nat.reduceShiftRight, Nat.reduceAnd, Nat.reduceBNe, Int.reduceEq, Nat.reduceAdd, Nat.reduceSub, Nat.reduceMul, Nat.reduceLeDiff, reduceIte, reduceCtorEq, Nat.reduceBEq, Nat.reduceEqDiff, wrap64, runC_loop, runC_range, callF_fn, callV_fn, callV_yld, yield_eq, yieldBody, yieldRaw, roundMid, roundEnd, rangeEnd, Bool.not_not, put_cons, put_nil, trim_same, at_zero, at_add, set_zero, set_add, store_one, write_zero, write_add, write_head, write_succ, splice_one, splice_more, List.drop_nil, List.take_nil, cell_int, cell_bool, fillS, splice_one, idxA, Ex.isNormal, List.set_nil, List.length_set, List.all_cons, List.all_nil, Bool.and_self, and_self, true_and, and_true, List.getElem?_nil, Int.reduceLT, Int.reduceLE, Int.reduceToNat, Int.toNat_zero, Int.toNat_one, Int.reduceAdd, Int.reduceSub, Int.reduceMul, Int.reduceNeg, Int.reduceBEq, Int.reduceBNe, Int.reduceGE, Int.reduceGT, Nat.reduceLT, trim_keep, under_fn, under_ptr, under_sl, Nat.lt_irrefl, not_lt_add, trim_tail, keepOk, ABlk.vals, Int.cast_ofNat_Int, decide_true, decide_false, List.all_cons, List.all_nil, Nat.zero_mul, Nat.mul_one, Nat.one_mul, runC_loop, x_loop, cellsA_agg, k1, k2, k3, hH1, d1, c1, eu, wl]
   unfold LU at l0
   generalize (envL prog).loop (runC (envX prog XU) (l9x0 (envX prog XU))) = LL at l0 ⊢
   refine outs_ctx (fun r => seqR (blockR 0 r) _) (l0 _ _ _ _ _ _ _ _ _ _ _ _ _ _ _ _ _ _ _ _ _ _ _ _ (by omega)) ?_
   rintro e t K3 ⟨rfl, rfl, fv, rfl, f5⟩
   simp -implicitDefEqProofs (maxSteps := 5000000) only [go_sem, Nat.reduceShiftRight, Nat.reduceAnd, Nat.reduceBNe, Int.reduceEq, Nat.reduceAdd, Nat.reduceSub, Nat.reduceMul, Nat.reduceLeDiff, reduceIte, reduceCtorEq, Nat.reduceBEq, Nat.reduceEqDiff, wrap64, runC_loop, runC_range, callF_fn, callV_fn, callV_yld, yield_eq, yieldBody, yieldRaw, roundMid, roundEnd, rangeEnd, Bool.not_not, put_cons, put_nil, trim_same, at_zero, at_add, set_zero, set_add, store_one, write_zero, write_add, write_head, write_succ, splice_one, splice_more, List.drop_nil, List.take_nil, cell_int, cell_bool, fillS, splice_one, idxA, Ex.isNormal, List.set_nil, List.length_set, List.all_cons, List.all_nil, Bool.and_self, and_self, true_and, and_true, List.getElem?_nil, Int.reduceLT, Int.reduceLE, Int.reduceToNat, Int.toNat_zero, Int.toNat_one, Int.reduceAdd, Int.reduceSub, Int.reduceMul, Int.reduceNeg, Int.reduceBEq, Int.reduceBNe, Int.reduceGE, Int.reduceGT, Nat.reduceLT, trim_keep, under_fn, under_ptr, under_sl, Nat.lt_irrefl, not_lt_add, trim_tail, keepOk, ABlk.vals, Int.cast_ofNat_Int, decide_true, decide_false, List.all_cons, List.all_nil, Nat.zero_mul, Nat.mul_one, Nat.one_mul, f5, outs_normal]
   subst hQ
   refine ⟨A1.trans A2, ?_⟩
   rw [show freeN (usedS L P) a = a - (wth a (usedS L P) : Int) by unfold freeN; rw [if_neg h1]]
   simp -implicitDefEqProofs (maxSteps := 5000000) only [go_sem, Nat.reduceShiftRight, Nat.reduceAnd, Nat.reduceBNe, Int.reduceEq, Nat.reduceAdd, Nat.reduceSub, Nat.reduceMul, Nat.reduceLeDiff, reduceIte, reduceCtorEq, Nat.reduceBEq, Nat.reduceEqDiff, wrap64, runC_loop, runC_range, callF_fn, callV_fn, callV_yld, yield_eq, yieldBody, yieldRaw, roundMid, roundEnd, rangeEnd, Bool.not_not, put_cons, put_nil, trim_same, at_zero, at_add, set_zero, set_add, store_one, write_zero, write_add, write_head, write_succ, splice_one, splice_more, List.drop_nil, List.take_nil, cell_int, cell_bool, fillS, splice_one, idxA, Ex.isNormal, List.set_nil, List.length_set, List.all_cons, List.all_nil, Bool.and_self, and_self, true_and, and_true, List.getElem?_nil, Int.reduceLT, Int.reduceLE, Int.reduceToNat, Int.toNat_zero, Int.toNat_one, Int.reduceAdd, Int.reduceSub, Int.reduceMul, Int.reduceNeg, Int.reduceBEq, Int.reduceBNe, Int.reduceGE, Int.reduceGT, Nat.reduceLT, trim_keep, under_fn, under_ptr, under_sl, Nat.lt_irrefl, not_lt_add, trim_tail, keepOk, ABlk.vals, Int.cast_ofNat_Int, decide_true, decide_false, List.all_cons, List.all_nil, Nat.zero_mul, Nat.mul_one, Nat.one_mul]
 obtain ⟨e', t, K, hr, aK, hf⟩ := key
 rw [d9, hr, hf]; exact aK.trimS rfl
noncomputable def XF : Over := XU.up prog 9
theorem xf_ok : XF.Ok prog := up_ok goodP xu_ok _
noncomputable def XG : Over := XF.up prog 31
theorem xg_ok : XG.Ok prog := up_ok goodP xf_ok _
theorem xf_call (f : Nat) (args : List AV) (h : AHeap) (ef : (f == 9) = false) (eu : (f == 8) = false) (es : (f == 15) = false) (ed : (f == 12) = false) (em : (f == 25) = false) (e0 : (f == 37) = false) (e1 : (f == 52) = false) (e2 : (f == 61) = false) : (envX prog XF).call f args h = (envL prog).call f args h := by
 unfold XF Over.up; rw [x_miss _ _ ef, xu_call _ _ _ eu es ed em e0 e1 e2]
theorem xf_used {args : List AV} {h : AHeap} {r : AV × AHeap} (e : callBody prog (envX prog XS) 8 args h = some r) : (envX prog XF).call 8 args h = some r := by
 unfold XF Over.up; rw [x_miss _ _ (by decide)]; exact xu_used e
theorem xf_free {args : List AV} {h : AHeap} {r : AV × AHeap} (e : callBody prog (envX prog XU) 9 args h = some r) : (envX prog XF).call 9 args h = some r := x_hit e
theorem xg_call (f : Nat) (args : List AV) (h : AHeap) (eg : (f == 31) = false) (ef : (f == 9) = false) (eu : (f == 8) = false) (es : (f == 15) = false) (ed : (f == 12) = false) (em : (f == 25) = false) (e0 : (f == 37) = false) (e1 : (f == 52) = false) (e2 : (f == 61) = false) : (envX prog XG).call f args h = (envL prog).call f args h := by
 unfold XG Over.up; rw [x_miss _ _ eg, xf_call _ _ _ ef eu es ed em e0 e1 e2]
theorem xg_used {args : List AV} {h : AHeap} {r : AV × AHeap} (e : callBody prog (envX prog XS) 8 args h = some r) : (envX prog XG).call 8 args h = some r := by
 unfold XG Over.up; rw [x_miss _ _ (by decide)]; exact xf_used e
theorem xg_free {args : List AV} {h : AHeap} {r : AV × AHeap} (e : callBody prog (envX prog XU) 9 args h = some r) : (envX prog XG).call 9 args h = some r := by
 unfold XG Over.up; rw [x_miss _ _ (by decide)]; exact xf_free e
theorem xg_hit {args : List AV} {h : AHeap} {r : AV × AHeap} (e : callBody prog (envX prog XF) 31 args h = some r) : (envX prog XG).call 31 args h = some r := x_hit e
theorem freeFn {H : AHeap} {cs : List AV} {L : List SnS} {P : List PrS} (s : SA H cs L P) (a : Int) : (envL prog).call 17 [.agg cs, .int .i64 a] H = some (.fn 31 [.ptr H.length 0, .ptr (H.length + 1) 0], H ++ [.rw cs, .rw [.int .i64 a]]) := by
 obtain ⟨_, hc, vd, vs, nx, kd, pd, vp, rfl, k1, k2, k3⟩ := s.cells
 rw [c17]
 unfold b17
 simp -implicitDefEqProofs (maxSteps := 5000000) only [go_sem, Nat.reduceShiftRight, Nat.reduceAnd, Nat.reduceBNe, Int.reduceEq, Nat.reduceAdd, Nat.reduceSub, Nat.reduceMul, Nat.reduceLeDiff, reduceIte, reduceCtorEq, Nat.reduceBEq, Nat.reduceEqDiff, wrap64, runC_loop, runC_range, callF_fn, callV_fn, callV_yld, yield_eq, yieldBody, yieldRaw, roundMid, roundEnd, rangeEnd, Bool.not_not, put_cons, put_nil, trim_same, at_zero, at_add, set_zero, set_add, store_one, write_zero, write_add, write_head, write_succ, splice_one, splice_more, List.drop_nil, List.take_nil, cell_int, cell_bool, fillS, splice_one, idxA, Ex.isNormal, List.set_nil, List.length_set, List.all_cons, List.all_nil, Bool.and_self, and_self, true_and, and_true, List.getElem?_nil, Int.reduceLT, Int.reduceLE, Int.reduceToNat, Int.toNat_zero, Int.toNat_one, Int.reduceAdd, Int.reduceSub, Int.reduceMul, Int.reduceNeg, Int.reduceBEq, Int.reduceBNe, Int.reduceGE, Int.reduceGT, Nat.reduceLT, trim_keep, under_fn, under_ptr, under_sl, Nat.lt_irrefl, not_lt_add, trim_tail, keepOk, ABlk.vals, Int.cast_ofNat_Int, decide_true, decide_false, List.all_cons, List.all_nil, Nat.zero_mul, Nat.mul_one, Nat.one_mul, cellsA_agg, k1, k2, k3]
end Go.Proofs.Ytfioahnogphnfaa.G12
end
section
namespace Go.Proofs.Ytfioahnogphnfaa.G12
open Go Go.Proofs.Ytfioahnogphnfaa.Eng
theorem _root_.Go.Proofs.Ytfioahnogphnfaa.Eng.Adds.old {H K : AHeap} (a : Adds H K) (b : Nat) (hb : b < H.length) : K[b]? = H[b]? := by obtain ⟨X, rfl⟩ := a; exact List.getElem?_append_left hb
noncomputable abbrev LF (l : Env → CT) := (envL prog).loop (runC (envX prog XF) (l (envX prog XF)))
noncomputable abbrev TakL (s : LoopState) (e : Ex) (t : T) : ABlk := .loop ⟨s, e, t, [26], kaq10x0, kbq10x0⟩
structure TakY (H : AHeap) (cs : List AV) (a n : Int) (acc : List Int) (s : LoopState) (e : Ex) (t : T) (w : AV) (K : AHeap) : Prop where
 old : ∀ b, b < H.length → K[b]? = H[b]?
 len : H.length + 6 ≤ K.length
 nb : K[H.length + 1]? = some (.rw [.int .i64 n])
 wb : K[H.length + 2]? = some (.rw [w])
 sb : K[H.length + 3]? = some (.rw cs)
 ab : K[H.length + 4]? = some (.rw [.int .i64 a])
 lp : K[H.length + 5]? = some (TakL s e t)
 fs : FS K (H.length + 6) w acc
theorem TakY.step {H K K' : AHeap} {cs : List AV} {a n : Int} {acc acc' : List Int} {s s' : LoopState} {e e' : Ex} {t : T} {w w' : AV} (y : TakY H cs a n acc s e t w K) (h : ∀ b, b < H.length + 6 → b ≠ H.length + 2 → b ≠ H.length + 5 → K'[b]? = K[b]?) (l : H.length + 6 ≤ K'.length) (wb : K'[H.length + 2]? = some (.rw [w'])) (lp : K'[H.length + 5]? = some (TakL s' e' t)) (fs : FS K' (H.length + 6) w' acc') : TakY H cs a n acc' s' e' t w' K' :=
 ⟨fun b hb => by rw [h b (by omega) (by omega) (by omega)]; exact y.old b hb, l, by rw [h _ (by omega) (by omega) (by omega)]; exact y.nb, wb, by rw [h _ (by omega) (by omega) (by omega)]; exact y.sb, by rw [h _ (by omega) (by omega) (by omega)]; exact y.ab, lp, fs⟩
section
variable {H : AHeap} {cs : List AV} {a n : Int} {acc : List Int} {T : T} {w : AV}
set_option maxHeartbeats 4000000 in
theorem takRound {K : AHeap} (ht : T.length = 36) (t5 : getT T 5 = .ptr (H.length + 1) 0) (t8 : getT T 8 = .ptr (H.length + 2) 0) (y : TakY H cs a n acc .ready .normal T w K) (la : acc.length ≤ 1000000) (x : Int) :
  ∃ K', K.length ≤ K'.length ∧ (((acc.length : Int) = n ∧ (envL prog).yield (H.length + 5) [.int .i64 x] K = some (.bool false, K') ∧ TakY H cs a n acc .done (.exit 1) T w K') ∨ ((acc.length : Int) ≠ n ∧ ∃ w', (envL prog).yield (H.length + 5) [.int .i64 x] K = some (.bool true, K') ∧ TakY H cs a n (acc ++ [x]) .ready .normal T w' K' ∧ ∀ b, slb w' = some b → K.length ≤ b)) ∧ ∀ b, b < K.length → b ≠ H.length + 2 → b ≠ H.length + 5 → slb w ≠ some b → K'[b]? = K[b]? := by
 have kl := y.len
 have wl := y.fs.len
 obtain ⟨Kb, hKb⟩ : ∃ Kb, Kb = K.set (H.length + 5) (TakL .busy .normal T) := ⟨_, rfl⟩
 have lb : Kb.length = K.length := by rw [hKb, List.length_set]
 have fb : ∀ b, b ≠ H.length + 5 → Kb[b]? = K[b]? := fun b hn => by rw [hKb]; exact at_set_ne _ _ _ _ hn
 have b1 : Kb[H.length + 1]? = some (.rw [.int .i64 n]) := by rw [fb _ (by omega)]; exact y.nb
 have b2 : Kb[H.length + 2]? = some (.rw [w]) := by rw [fb _ (by omega)]; exact y.wb
 have b5 : Kb[H.length + 5]? = some (TakL .busy .normal T) := by rw [hKb]; exact at_set _ _ _ (by omega)
 have frb : Fr K Kb (fun b => b = H.length + 5) := by rw [hKb]; exact Fr.set _ _ (F := fun b => b = H.length + 5) rfl
 have wg := FS.out y.fs
 have fsb : FS Kb (H.length + 6) w acc := y.fs.frT frb fun b hb h => by have := (wg b hb).1; omega
 have c1 := cells_rw b1
 have c2 := cells_rw b2
 obtain ⟨K2, hK2⟩ : ∃ K2, K2 = Kb ++ [ABlk.rw [.int .i64 x]] := ⟨_, rfl⟩
 have A2 : Adds Kb K2 := ⟨_, hK2⟩
 have cs2 : cellsOf K2 Kb.length = some [.int .i64 x] := by rw [hK2]; unfold cellsOf; simp
 obtain ⟨w', K3, ep, f3, fr3, sb3, l3⟩ := FS.push (fsb.frT (Fr.adds A2 (fun _ => False)) fun _ _ h => h) cs2 (by omega) (by have := A2.len; omega)
 have cw' : cellsA w' = some [w'] ∧ w'.isCell = true := by
  rcases f3 with ⟨_, rfl⟩ | ⟨_, _, _, rfl, _⟩ <;> exact ⟨rfl, rfl⟩
 have l2 : K2.length = K.length + 1 := by rw [hK2, List.length_append, lb]; rfl
 have at3 : ∀ z, z < K.length → slb w ≠ some z → K3[z]? = Kb[z]? := fun z hz hn => by
  rw [fr3.2 z (by omega) hn, hK2, List.getElem?_append_left (by omega)]
 have wn : ∀ z, z < H.length + 6 → slb w ≠ some z := fun z hz h => by have := (wg z h).1; omega
 have w3 : K3[H.length + 2]? = some (.rw [w]) := by rw [at3 _ (by omega) (wn _ (by omega))]; exact b2
 have wr := write_one (y := w') w3 cw'.2
 obtain ⟨Kc, hKc⟩ : ∃ Kc, Kc = K3.set (H.length + 2) (ABlk.rw [w']) := ⟨_, rfl⟩
 rw [← hKc] at wr
 have c3 : Kc.length = K.length + 2 := by rw [hKc, List.length_set, l3]; omega
 have hK2' := hK2.symm
 have hb : Outs (runC (envL prog) (bq10x0 (envL prog)) ((T.set 26 (.int .i64 x)).set 9 (.int .i64 x)) Kb) fun e _ K2 => (((acc.length : Int) = n ∧ e = .exit 1 ∧ K2 = Kb) ∨ ((acc.length : Int) ≠ n ∧ e = .normal ∧ K2 = Kc)) := by
  unfold bq10x0
  by_cases hn : (acc.length : Int) = n
  ·have db : ((acc.length : Int) == n) = true := by simp [hn]
   simp -implicitDefEqProofs (maxSteps := 5000000) only [go_sem, Nat.reduceShiftRight, Nat.reduceAnd, Nat.reduceBNe, Int.reduceEq, Nat.reduceAdd, Nat.reduceSub, Nat.reduceMul, Nat.reduceLeDiff, reduceIte, reduceCtorEq, Nat.reduceBEq, Nat.reduceEqDiff, wrap64, runC_loop, runC_range, callF_fn, callV_fn, callV_yld, yield_eq, yieldBody, yieldRaw, roundMid, roundEnd, rangeEnd, Bool.not_not, put_cons, put_nil, trim_same, at_zero, at_add, set_zero, set_add, store_one, write_zero, write_add, write_head, write_succ, splice_one, splice_more, List.drop_nil, List.take_nil, cell_int, cell_bool, fillS, splice_one, idxA, Ex.isNormal, List.set_nil, List.length_set, List.all_cons, List.all_nil, Bool.and_self, and_self, true_and, and_true, List.getElem?_nil, Int.reduceLT, Int.reduceLE, Int.reduceToNat, Int.toNat_zero, Int.toNat_one, Int.reduceAdd, Int.reduceSub, Int.reduceMul, Int.reduceNeg, Int.reduceBEq, Int.reduceBNe, Int.reduceGE, Int.reduceGT, Nat.reduceLT, trim_keep, under_fn, under_ptr, under_sl, Nat.lt_irrefl, not_lt_add, trim_tail, keepOk, ABlk.vals, Int.cast_ofNat_Int, decide_true, decide_false, List.all_cons, List.all_nil, Nat.zero_mul, Nat.mul_one, Nat.one_mul, getT_set, ht, t5, t8, List.length_set, Nat.reduceLT, c1, c2, wl, db, outs_normal]
   exact .inl hn
  ·have db : ((acc.length : Int) == n) = false := by simp [hn]
   simp -implicitDefEqProofs (maxSteps := 5000000) only [go_sem, Nat.reduceShiftRight, Nat.reduceAnd, Nat.reduceBNe, Int.reduceEq, Nat.reduceAdd, Nat.reduceSub, Nat.reduceMul, Nat.reduceLeDiff, reduceIte, reduceCtorEq, Nat.reduceBEq, Nat.reduceEqDiff, wrap64, runC_loop, runC_range, callF_fn, callV_fn, callV_yld, yield_eq, yieldBody, yieldRaw, roundMid, roundEnd, rangeEnd, Bool.not_not, put_cons, put_nil, trim_same, at_zero, at_add, set_zero, set_add, store_one, write_zero, write_add, write_head, write_succ, splice_one, splice_more, List.drop_nil, List.take_nil, cell_int, cell_bool, fillS, splice_one, idxA, Ex.isNormal, List.set_nil, List.length_set, List.all_cons, List.all_nil, Bool.and_self, and_self, true_and, and_true, List.getElem?_nil, Int.reduceLT, Int.reduceLE, Int.reduceToNat, Int.toNat_zero, Int.toNat_one, Int.reduceAdd, Int.reduceSub, Int.reduceMul, Int.reduceNeg, Int.reduceBEq, Int.reduceBNe, Int.reduceGE, Int.reduceGT, Nat.reduceLT, trim_keep, under_fn, under_ptr, under_sl, Nat.lt_irrefl, not_lt_add, trim_tail, keepOk, ABlk.vals, Int.cast_ofNat_Int, decide_true, decide_false, List.all_cons, List.all_nil, Nat.zero_mul, Nat.mul_one, Nat.one_mul, getT_set, ht, t5, t8, List.length_set, Nat.reduceLT, c1, c2, wl, db, hK2', ep, cw'.1, wr, outs_normal]
   exact .inr hn
 obtain ⟨e, t2, K2', er, r⟩ := hb
 have ey := yield_two (P := prog) (l := H.length + 5) (args := [.int .i64 x]) (K := K) (eaq10x0 _) (ebq10x0 _) y.lp rfl (t1 := (T.set 26 (.int .i64 x)).set 9 (.int .i64 x)) (K1 := K) (by
  unfold aq10x0
  simp -implicitDefEqProofs (maxSteps := 5000000) only [go_sem, Nat.reduceShiftRight, Nat.reduceAnd, Nat.reduceBNe, Int.reduceEq, Nat.reduceAdd, Nat.reduceSub, Nat.reduceMul, Nat.reduceLeDiff, reduceIte, reduceCtorEq, Nat.reduceBEq, Nat.reduceEqDiff, wrap64, runC_loop, runC_range, callF_fn, callV_fn, callV_yld, yield_eq, yieldBody, yieldRaw, roundMid, roundEnd, rangeEnd, Bool.not_not, put_cons, put_nil, trim_same, at_zero, at_add, set_zero, set_add, store_one, write_zero, write_add, write_head, write_succ, splice_one, splice_more, List.drop_nil, List.take_nil, cell_int, cell_bool, fillS, splice_one, idxA, Ex.isNormal, List.set_nil, List.length_set, List.all_cons, List.all_nil, Bool.and_self, and_self, true_and, and_true, List.getElem?_nil, Int.reduceLT, Int.reduceLE, Int.reduceToNat, Int.toNat_zero, Int.toNat_one, Int.reduceAdd, Int.reduceSub, Int.reduceMul, Int.reduceNeg, Int.reduceBEq, Int.reduceBNe, Int.reduceGE, Int.reduceGT, Nat.reduceLT, trim_keep, under_fn, under_ptr, under_sl, Nat.lt_irrefl, not_lt_add, trim_tail, keepOk, ABlk.vals, Int.cast_ofNat_Int, decide_true, decide_false, List.all_cons, List.all_nil, Nat.zero_mul, Nat.mul_one, Nat.one_mul, putParams, getT_set, ht, List.length_set, Nat.reduceLT]) y.lp (ex := e) (t2 := t2) (K2 := K2') (by rw [← hKb]; exact er) (by
  rcases r with ⟨_, _, rfl⟩ | ⟨_, _, rfl⟩
  ·exact b5
  ·rw [hKc, at_set_ne _ _ _ _ (by omega), at3 _ (by omega) (wn _ (by omega))]; exact b5)
 have hK1 : ∀ k, K[H.length + 2]? = some k → ∀ a ∈ k.vals, ∀ x, slb a = some x → x < K.length := fun k hk a ha x hx => by
  rw [y.wb] at hk; injection hk with hk; subst hk
  rw [List.mem_singleton.1 ha] at hx; exact (wg x hx).2
 rcases r with ⟨hn, rfl, rfl⟩ | ⟨hn, rfl, rfl⟩
 ·rw [show Ex.isNormal (.exit 1) = false from rfl] at ey
  simp only [Bool.false_eq_true, if_false] at ey
  obtain ⟨K4, et, h4⟩ := trim_two K (.bool false) (K2'.set (H.length + 5) (TakL .done (.exit 1) T))
  rw [et] at ey
  have l4 := two_len h4 (by rw [List.length_set]; omega)
  have a4 := fun {z} (hz : z < K.length) => two_at h4 hz
  have fs3 : FS (K2'.set (H.length + 5) (TakL .done (.exit 1) T)) (H.length + 6) w acc := fsb.frT (Fr.set _ _ (F := fun z => z = H.length + 5) rfl) fun z hz h => by have := (wg z hz).1; omega
  have fs4 : FS K4 (H.length + 6) w acc := two_gr h4 fs3 (b := H.length + 2) (vs := [w]) (by omega) (by rw [at_set_ne _ _ _ _ (by omega)]; exact b2) (by simp) hK1
  exact ⟨K4, l4, .inl ⟨hn, ey, y.step (fun b hb h2 h5 => by rw [a4 (by omega), at_set_ne _ _ _ _ h5, fb b h5]) (by omega) (by rw [a4 (by omega), at_set_ne _ _ _ _ (by omega)]; exact b2) (by rw [a4 (by omega), at_set _ _ _ (by omega)]) fs4⟩, fun b hb h2 h5 _ => by rw [a4 hb, at_set_ne _ _ _ _ h5, fb b h5]⟩
 ·rw [show Ex.isNormal .normal = true from rfl] at ey
  simp only [if_true] at ey
  obtain ⟨K4, et, h4⟩ := trim_two K (.bool true) (K2'.set (H.length + 5) (TakL .ready .normal T))
  rw [et] at ey
  have l4 := two_len h4 (by rw [List.length_set]; omega)
  have a4 := fun {z} (hz : z < K.length) => two_at h4 hz
  have og := FS.out f3
  have fsc : FS K2' (H.length + 6) w' (acc ++ [x]) := f3.frT (by rw [hKc]; exact Fr.set _ _ (F := fun z => z = H.length + 2) rfl) fun z hz h => by have := (og z hz).1; omega
  have fs3 : FS (K2'.set (H.length + 5) (TakL .ready .normal T)) (H.length + 6) w' (acc ++ [x]) := fsc.frT (Fr.set _ _ (F := fun z => z = H.length + 5) rfl) fun z hz h => by have := (og z hz).1; omega
  have wc : K2'[H.length + 2]? = some (.rw [w']) := by rw [hKc]; exact at_set _ _ _ (by omega)
  have fs4 : FS K4 (H.length + 6) w' (acc ++ [x]) := two_gr h4 fs3 (b := H.length + 2) (vs := [w']) (by omega) (by rw [at_set_ne _ _ _ _ (by omega)]; exact wc) (by simp) hK1
  have co : ∀ z, z < K.length → z ≠ H.length + 2 → z ≠ H.length + 5 → slb w ≠ some z → K4[z]? = K[z]? := fun z hz h2 h5 hw => by
   rw [a4 hz, at_set_ne _ _ _ _ h5, hKc, at_set_ne _ _ _ _ h2, at3 z hz hw]; exact fb z h5
  exact ⟨K4, l4, .inr ⟨hn, w', ey, y.step (fun b hb h2 h5 => co b (by omega) h2 h5 (wn b hb)) (by omega) (by rw [a4 (by omega), at_set_ne _ _ _ _ (by omega)]; exact wc) (by rw [a4 (by omega), at_set _ _ _ (by omega)]) fs4, fun b hb => by rw [sb3] at hb; injection hb with hb; omega⟩, co⟩
end
theorem freeB_le (u : List Int) : ∀ n, (freeB u n).length ≤ n
 | 0 => Nat.le_refl _
 | n + 1 => by
  have := freeB_le u n
  rw [freeB, List.length_append]
  split
  ·simp; omega
  ·simp; omega
theorem freeB_pre (u : List Int) (n : Nat) : ∀ m, (freeB u (n + m)).take (freeB u n).length = freeB u n
 | 0 => List.take_length
 | m + 1 => by
  have ih := freeB_pre u n m
  have hl : (freeB u n).length ≤ (freeB u (n + m)).length := by
   have := congrArg List.length ih
   rw [List.length_take] at this; omega
  rw [← Nat.add_assoc, freeB, List.take_append_of_le_length hl, ih]
section
variable {H : AHeap} {cs : List AV} {a n : Int} {T : T} (ht : T.length = 36) (t5 : getT T 5 = .ptr (H.length + 1) 0) (t8 : getT T 8 = .ptr (H.length + 2) 0) {v : AV} {u : List Int} (up : u.Pairwise (· < ·)) (lu : u.length ≤ 1000000) (hn : 0 ≤ n ∧ n ≤ 4096) {A : Nat} (hA : (A : Int) = a) (hA2 : a ≤ 9223372036854775807)
include ht t5 t8 up lu hn hA hA2
structure Beside (H K : AHeap) (v w : AV) (u : List Int) : Prop where
 is : IS K v u
 lo : ∀ b, slb v = some b → H.length + 6 ≤ b
 ne : ∀ b, slb v = some b → slb w ≠ some b
set_option maxHeartbeats 8000000 in
theorem fre1L (x1 x3 x8 x9 : AV) : ∀ (m i : Nat) (K : AHeap) (w : AV) (j6 j7 j10 j11 j12 j13 j14 j15 j16 j17 j18 j19 j20 j21 j22 j23 j24 j25 j26 j27 j28 : AV), TakY H cs a n (freeB u i) .ready .normal T w K → Beside H K v w u → ((freeB u i).length : Int) ≤ n → i + m = A →
  Outs (LF l31x0 [.yld (H.length + 5), x1, .ptr (H.length + 4) 0, x3, v, .int .i64 (i : Int), j6, j7, x8, x9, j10, j11, j12, j13, j14, j15, j16, j17, j18, j19, j20, j21, j22, j23, j24, j25, j26, j27, j28] K) fun e t K' => K.length ≤ K'.length ∧ ((e = .exit 0 ∧ ((freeB u A).length : Int) ≤ n ∧ ∃ w', TakY H cs a n (freeB u A) .ready .normal T w' K') ∨ (e = .ret ∧ ∃ w', TakY H cs a n ((freeB u A).take n.toNat) .done (.exit 1) T w' K')) := by
 intro m
 obtain ⟨L0, hL0⟩ : ∃ L, L = LF l31x0 := ⟨_, rfl⟩
 have lo := loop_open hL0
 rw [← hL0]
 induction m with
 | zero =>
  intro i K w j6 j7 j10 j11 j12 j13 j14 j15 j16 j17 j18 j19 j20 j21 j22 j23 j24 j25 j26 j27 j28 y bs ln hi
  obtain rfl : i = A := by omega
  have ca := cells_rw y.ab
  have hd : decide ((i : Int) < a) = false := decide_eq_false (by omega)
  rw [lo]
  unfold l31x0
  simp -implicitDefEqProofs (maxSteps := 5000000) only [go_sem, Nat.reduceShiftRight, Nat.reduceAnd, Nat.reduceBNe, Int.reduceEq, Nat.reduceAdd, Nat.reduceSub, Nat.reduceMul, Nat.reduceLeDiff, reduceIte, reduceCtorEq, Nat.reduceBEq, Nat.reduceEqDiff, wrap64, runC_loop, runC_range, callF_fn, callV_fn, callV_yld, yield_eq, yieldBody, yieldRaw, roundMid, roundEnd, rangeEnd, Bool.not_not, put_cons, put_nil, trim_same, at_zero, at_add, set_zero, set_add, store_one, write_zero, write_add, write_head, write_succ, splice_one, splice_more, List.drop_nil, List.take_nil, cell_int, cell_bool, fillS, splice_one, idxA, Ex.isNormal, List.set_nil, List.length_set, List.all_cons, List.all_nil, Bool.and_self, and_self, true_and, and_true, List.getElem?_nil, Int.reduceLT, Int.reduceLE, Int.reduceToNat, Int.toNat_zero, Int.toNat_one, Int.reduceAdd, Int.reduceSub, Int.reduceMul, Int.reduceNeg, Int.reduceBEq, Int.reduceBNe, Int.reduceGE, Int.reduceGT, Nat.reduceLT, trim_keep, under_fn, under_ptr, under_sl, Nat.lt_irrefl, not_lt_add, trim_tail, keepOk, ABlk.vals, Int.cast_ofNat_Int, decide_true, decide_false, List.all_cons, List.all_nil, Nat.zero_mul, Nat.mul_one, Nat.one_mul, ca, hd, seqR_exit', outs_normal]
  exact .inl ⟨ln, w, y⟩
 | succ m ih =>
  intro i K w j6 j7 j10 j11 j12 j13 j14 j15 j16 j17 j18 j19 j20 j21 j22 j23 j24 j25 j26 j27 j28 y bs ln hi
  have ca := cells_rw y.ab
  have hd : decide ((i : Int) < a) = true := decide_eq_true (by omega)
  have e2 : IntKind.i64.wrap ((i : Int) + 1) = ((i + 1 : Nat) : Int) := by rw [wrap64 (by omega) (by omega)]; omega
  obtain ⟨q, eb⟩ := searchC bs.is up lu (i : Int)
  by_cases hu : (i : Int) ∈ u
  ·rw [decide_eq_true hu] at eb
   have hf : freeB u (i + 1) = freeB u i := by rw [freeB, if_pos hu, List.append_nil]
   rw [lo]
   unfold l31x0
   simp -implicitDefEqProofs (maxSteps := 5000000) only [go_sem, Nat.reduceShiftRight, Nat.reduceAnd, Nat.reduceBNe, Int.reduceEq, Nat.reduceAdd, Nat.reduceSub, Nat.reduceMul, Nat.reduceLeDiff, reduceIte, reduceCtorEq, Nat.reduceBEq, Nat.reduceEqDiff, wrap64, runC_loop, runC_range, callF_fn, callV_fn, callV_yld, yield_eq, yieldBody, yieldRaw, roundMid, roundEnd, rangeEnd, Bool.not_not, put_cons, put_nil, trim_same, at_zero, at_add, set_zero, set_add, store_one, write_zero, write_add, write_head, write_succ, splice_one, splice_more, List.drop_nil, List.take_nil, cell_int, cell_bool, fillS, splice_one, idxA, Ex.isNormal, List.set_nil, List.length_set, List.all_cons, List.all_nil, Bool.and_self, and_self, true_and, and_true, List.getElem?_nil, Int.reduceLT, Int.reduceLE, Int.reduceToNat, Int.toNat_zero, Int.toNat_one, Int.reduceAdd, Int.reduceSub, Int.reduceMul, Int.reduceNeg, Int.reduceBEq, Int.reduceBNe, Int.reduceGE, Int.reduceGT, Nat.reduceLT, trim_keep, under_fn, under_ptr, under_sl, Nat.lt_irrefl, not_lt_add, trim_tail, keepOk, ABlk.vals, Int.cast_ofNat_Int, decide_true, decide_false, List.all_cons, List.all_nil, Nat.zero_mul, Nat.mul_one, Nat.one_mul, xf_call, ca, hd, eb, e2]
   exact ih (i + 1) K w _ _ _ _ _ _ _ _ _ _ _ _ _ _ _ _ _ _ _ _ _ (by rw [hf]; exact y) bs (by rw [hf]; exact ln) (by omega)
  ·rw [decide_eq_false hu] at eb
   have hf : freeB u (i + 1) = freeB u i ++ [(i : Int)] := by rw [freeB, if_neg hu]
   obtain ⟨K', l', h, co⟩ := takRound ht t5 t8 y (by omega) (i : Int)
   rcases h with ⟨hl, ey, yd⟩ | ⟨hl, w', ey, yd, wn⟩
   ·rw [lo]
    unfold l31x0
    simp -implicitDefEqProofs (maxSteps := 5000000) only [go_sem, Nat.reduceShiftRight, Nat.reduceAnd, Nat.reduceBNe, Int.reduceEq, Nat.reduceAdd, Nat.reduceSub, Nat.reduceMul, Nat.reduceLeDiff, reduceIte, reduceCtorEq, Nat.reduceBEq, Nat.reduceEqDiff, wrap64, runC_loop, runC_range, callF_fn, callV_fn, callV_yld, Bool.not_not, put_cons, put_nil, trim_same, at_zero, at_add, set_zero, set_add, store_one, write_zero, write_add, write_head, write_succ, splice_one, splice_more, List.drop_nil, List.take_nil, cell_int, cell_bool, fillS, splice_one, idxA, Ex.isNormal, List.set_nil, List.length_set, List.all_cons, List.all_nil, Bool.and_self, and_self, true_and, and_true, List.getElem?_nil, Int.reduceLT, Int.reduceLE, Int.reduceToNat, Int.toNat_zero, Int.toNat_one, Int.reduceAdd, Int.reduceSub, Int.reduceMul, Int.reduceNeg, Int.reduceBEq, Int.reduceBNe, Int.reduceGE, Int.reduceGT, Nat.reduceLT, trim_keep, under_fn, under_ptr, under_sl, Nat.lt_irrefl, not_lt_add, trim_tail, keepOk, ABlk.vals, Int.cast_ofNat_Int, decide_true, decide_false, List.all_cons, List.all_nil, Nat.zero_mul, Nat.mul_one, Nat.one_mul, x_yield, xf_call, ca, hd, eb, ey, seqR_ret, outs_normal]
    refine ⟨l', .inr ⟨w, ?_⟩⟩
    have hp := freeB_pre u i (A - i)
    rw [show i + (A - i) = A by omega, show (freeB u i).length = n.toNat by omega] at hp
    rw [hp]; exact yd
   ·have ln' : ((freeB u (i + 1)).length : Int) ≤ n := by rw [hf, List.length_append, List.length_singleton]; omega
    have bl := bs.lo
    have isl : IS K' v u := by
     have : Fr K K' (fun z => z = H.length + 2 ∨ z = H.length + 5 ∨ slb w = some z) := ⟨l', fun b hb hn => co b hb (fun h => hn (.inl h)) (fun h => hn (.inr (.inl h))) (fun h => hn (.inr (.inr h)))⟩
     rcases bs.is with g | ⟨b, o, l, e, c, rfl, hc, gg, hle⟩
     ·exact .inl g
     ·have hb := bl b rfl
      have hne := bs.ne b rfl
      exact .inr ⟨b, o, l, e, c, rfl, this.cells hc (by rintro (h | h | h) <;> first | omega | exact hne h), gg, hle⟩
    have ne' : ∀ b, slb v = some b → slb w' ≠ some b := fun b hb hw => by
     have hbK : b < K.length := by
      rcases bs.is with ⟨rfl, _⟩ | ⟨b', o, l, e, c, rfl, hc, _⟩
      ·cases hb
      ·injection hb with hb; subst hb; exact lt_of_cells hc
     have := wn b hw; omega
    rw [lo]
    unfold l31x0
    simp -implicitDefEqProofs (maxSteps := 5000000) only [go_sem, Nat.reduceShiftRight, Nat.reduceAnd, Nat.reduceBNe, Int.reduceEq, Nat.reduceAdd, Nat.reduceSub, Nat.reduceMul, Nat.reduceLeDiff, reduceIte, reduceCtorEq, Nat.reduceBEq, Nat.reduceEqDiff, wrap64, runC_loop, runC_range, callF_fn, callV_fn, callV_yld, Bool.not_not, put_cons, put_nil, trim_same, at_zero, at_add, set_zero, set_add, store_one, write_zero, write_add, write_head, write_succ, splice_one, splice_more, List.drop_nil, List.take_nil, cell_int, cell_bool, fillS, splice_one, idxA, Ex.isNormal, List.set_nil, List.length_set, List.all_cons, List.all_nil, Bool.and_self, and_self, true_and, and_true, List.getElem?_nil, Int.reduceLT, Int.reduceLE, Int.reduceToNat, Int.toNat_zero, Int.toNat_one, Int.reduceAdd, Int.reduceSub, Int.reduceMul, Int.reduceNeg, Int.reduceBEq, Int.reduceBNe, Int.reduceGE, Int.reduceGT, Nat.reduceLT, trim_keep, under_fn, under_ptr, under_sl, Nat.lt_irrefl, not_lt_add, trim_tail, keepOk, ABlk.vals, Int.cast_ofNat_Int, decide_true, decide_false, List.all_cons, List.all_nil, Nat.zero_mul, Nat.mul_one, Nat.one_mul, x_yield, xf_call, ca, hd, eb, ey, e2]
    exact (ih (i + 1) K' w' _ _ _ _ _ _ _ _ _ _ _ _ _ _ _ _ _ _ _ _ _ (by rw [hf]; exact yd) ⟨isl, bl, ne'⟩ ln' (by omega)).mono fun e t K2 ⟨q1, q2⟩ => ⟨by omega, q2⟩
set_option maxHeartbeats 8000000 in
theorem free1C {L : List SnS} {P : List PrS} (s : SA H cs L P) (hu : u = usedS L P) {K0 : AHeap} (y : TakY H cs a n [] .ready .normal T .nilSl K0) : ∃ K1, callBody prog (envX prog XF) 31 [.yld (H.length + 5), .ptr (H.length + 3) 0, .ptr (H.length + 4) 0] K0 = trim K0 (some (.tup [], K1)) ∧ K0.length ≤ K1.length ∧ ((((freeB u A).length : Int) ≤ n ∧ ∃ w', TakY H cs a n (freeB u A) .ready .normal T w' K1) ∨ ∃ w', TakY H cs a n ((freeB u A).take n.toNat) .done (.exit 1) T w' K1) := by
 have kl := y.len
 have aH : Adds H K0 := Adds.of_get (by omega) y.old
 have s0 := s.adds aH
 obtain ⟨v1, K2, eu, A2, i2, wb⟩ := usedC s0
 have eu := xf_used eu
 rw [← hu] at i2
 have y2 : TakY H cs a n (freeB u 0) .ready .normal T .nilSl K2 := ⟨fun b hb => by rw [A2.old b (by omega)]; exact y.old b hb, by have := A2.len; omega, A2.at y.nb, A2.at y.wb, A2.at y.sb, A2.at y.ab, A2.at y.lp, .inl ⟨rfl, rfl⟩⟩
 have l0 := fre1L (H := H) (cs := cs) (a := a) (n := n) (T := T) (v := v1) ht t5 t8 up lu hn hA hA2 (m := A) (i := 0) (K := K2) (w := .nilSl)
 rw [show ((0 : Nat) : Int) = 0 from rfl] at l0
 have cS := cells_rw y.sb
 obtain ⟨_, hc, vd, vs, nx, kd, pd, vp, rfl, k1, k2, k3⟩ := s.cells
 have key : Outs (runC (envX prog XF) (b31 (envX prog XF)) ([.yld (H.length + 5), .ptr (H.length + 3) 0, .ptr (H.length + 4) 0] ++ List.replicate (29 - [AV.yld (H.length + 5), .ptr (H.length + 3) 0, .ptr (H.length + 4) 0].length) .undef) K0) fun e' t K' => (K2.length ≤ K'.length ∧ ((((freeB u A).length : Int) ≤ n ∧ ∃ w', TakY H [vd, vs, .int .i64 nx, .int .i64 kd, .int .i64 pd, vp] a n (freeB u A) .ready .normal T w' K') ∨ ∃ w', TakY H [vd, vs, .int .i64 nx, .int .i64 kd, .int .i64 pd, vp] a n ((freeB u A).take n.toNat) .done (.exit 1) T w' K')) ∧ fin [] (some (e', t, K')) = some (.tup [], K') := by
  unfold b31
  generalize hQ : (fun (e' : Ex) (t : List AV) (K' : AHeap) => (K2.length ≤ K'.length ∧ ((((freeB u A).length : Int) ≤ n ∧ ∃ w', TakY H [vd, vs, .int .i64 nx, .int .i64 kd, .int .i64 pd, vp] a n (freeB u A) .ready .normal T w' K') ∨ ∃ w', TakY H [vd, vs, .int .i64 nx, .int .i64 kd, .int .i64 pd, vp] a n ((freeB u A).take n.toNat) .done (.exit 1) T w' K')) ∧ fin [] (some (e', t, K')) = some (AV.tup [], K')) = Q1
  simp -implicitDefEqProofs (maxSteps := 5000000) only [go_sem, Nat.reduceShiftRight, Nat.reduceAnd, Nat.reduceBNe, Int.reduceEq, Nat.reduceAdd, Nat.reduceSub, Nat.reduceMul, Nat.reduceLeDiff, reduceIte, reduceCtorEq, Nat.reduceBEq, Nat.reduceEqDiff, wrap64, runC_loop, runC_range, callF_fn, callV_fn, callV_yld, yield_eq, yieldBody, yieldRaw, roundMid, roundEnd, rangeEnd, Bool.not_not, put_cons, put_nil, trim_same, at_zero, at_add, set_zero, set_add, store_one, write_zero, write_add, write_head, write_succ, splice_one, splice_more, List.drop_nil, List.take_nil, cell_int, cell_bool, fillS, splice_one, idxA, Ex.isNormal, List.set_nil, List.length_set, List.all_cons, List.all_nil, Bool.and_self, and_self, true_and, and_true, List.getElem?_nil, Int.reduceLT, Int.reduceLE, Int.reduceToNat, Int.toNat_zero, Int.toNat_one, Int.reduceAdd, Int.reduceSub, Int.reduceMul, Int.reduceNeg, Int.reduceBEq, Int.reduceBNe, Int.reduceGE, Int.reduceGT, Nat.reduceLT, trim_keep, under_fn, under_ptr, under_sl, Nat.lt_irrefl, not_lt_add, trim_tail, keepOk, ABlk.vals, Int.cast_ofNat_Int, decide_true, decide_false, List.all_cons, List.all_nil, Nat.zero_mul, Nat.mul_one, Nat.one_mul, runC_loop, x_loop, cS, eu]
  unfold LF at l0
  generalize (envL prog).loop (runC (envX prog XF) (l31x0 (envX prog XF))) = L0 at l0 ⊢
  refine outs_ctx (fun r => blockR 0 r) (l0 _ _ _ _ _ _ _ _ _ _ _ _ _ _ _ _ _ _ _ _ _ _ _ _ _ y2 ⟨i2, fun b hb => by have := wb b hb; omega, fun b _ h => by cases h⟩ (by show ((0 : Nat) : Int) ≤ n; omega) (by omega)) ?_
  rintro e t K' ⟨hl, ⟨rfl, h⟩ | ⟨rfl, h⟩⟩
  ·simp -implicitDefEqProofs (maxSteps := 5000000) only [go_sem, Nat.reduceShiftRight, Nat.reduceAnd, Nat.reduceBNe, Int.reduceEq, Nat.reduceAdd, Nat.reduceSub, Nat.reduceMul, Nat.reduceLeDiff, reduceIte, reduceCtorEq, Nat.reduceBEq, Nat.reduceEqDiff, outs_normal]
   subst hQ
   exact ⟨⟨hl, .inl h⟩, rfl⟩
  ·simp -implicitDefEqProofs (maxSteps := 5000000) only [go_sem, Nat.reduceShiftRight, Nat.reduceAnd, Nat.reduceBNe, Int.reduceEq, Nat.reduceAdd, Nat.reduceSub, Nat.reduceMul, Nat.reduceLeDiff, reduceIte, reduceCtorEq, Nat.reduceBEq, Nat.reduceEqDiff, outs_normal]
   subst hQ
   exact ⟨⟨hl, .inr h⟩, rfl⟩
 obtain ⟨e', t, K', hr, ⟨h1, h2⟩, hf⟩ := key
 exact ⟨K', by rw [d31, hr, hf], by have := A2.len; omega, h2⟩
end
end Go.Proofs.Ytfioahnogphnfaa.G12
end
section
namespace Go.Proofs.Ytfioahnogphnfaa.G12
open Go Go.Proofs.Ytfioahnogphnfaa.Eng
theorem freeN_len {u : List Int} (up : u.Pairwise (· < ·)) (A : Nat) : freeN u (A : Int) = ((freeB u A).length : Int) := by
 have h := free_all (up_nodup up) A
 unfold freeN
 split
 ·obtain rfl : A = 0 := by omega
  rfl
 ·omega
section
variable {H : AHeap} {cs : List AV} {L : List SnS} {P : List PrS} (s : SA H cs L P) {n : Int} {A : Nat} (hA2 : (A : Int) ≤ 9223372036854775807) (hn : 0 ≤ n ∧ n ≤ 4096) (hf : n ≤ ((freeB (usedS L P) A).length : Int))
include s hA2 hn hf
set_option maxHeartbeats 8000000 in
theorem takRange {T : T} (ht : T.length = 36) (t5 : getT T 5 = .ptr (H.length + 1) 0) (t8 : getT T 8 = .ptr (H.length + 2) 0) (tf : getT T 25 = .fn 31 [.ptr (H.length + 3) 0, .ptr (H.length + 4) 0]) :
  Outs (runC (envX prog XG) (.range (X 25) [26] kaq10x0 kbq10x0) T (H ++ [ABlk.rw cs, .rw [.int .i64 n], .rw [.nilSl], .rw cs, .rw [.int .i64 (A : Int)]])) fun e t K => t = T ∧ (e = .normal ∨ e = .exit 1) ∧ ∃ w, TakY H cs (A : Int) n ((freeB (usedS L P) A).take n.toNat) .exhausted e T w K := by
 obtain ⟨G, hG⟩ : ∃ G, G = H ++ [ABlk.rw cs, .rw [.int .i64 n], .rw [.nilSl], .rw cs, .rw [.int .i64 (A : Int)]] := ⟨_, rfl⟩
 obtain ⟨K0, hK0⟩ : ∃ K0, K0 = G ++ [TakL .ready .normal T] := ⟨_, rfl⟩
 have lG : G.length = H.length + 5 := by rw [hG]; simp
 have l0 : K0.length = H.length + 6 := by rw [hK0, List.length_append, lG]; rfl
 have y0 : TakY H cs (A : Int) n [] .ready .normal T .nilSl K0 := ⟨fun z hz => by rw [hK0, hG, List.getElem?_append_left (by simp; omega), List.getElem?_append_left hz], by omega, by rw [hK0, hG]; simp, by rw [hK0, hG]; simp, by rw [hK0, hG]; simp, by rw [hK0, hG]; simp, by rw [hK0, ← lG]; simp, .inl ⟨rfl, rfl⟩⟩
 rw [← hG]
 have cf : ∀ K, callF (envX prog XG) (X 25 T) [.yld G.length] K = (envX prog XG).call 31 [.yld (H.length + 5), .ptr (H.length + 3) 0, .ptr (H.length + 4) 0] K := fun K => by
  rw [lG, X_ap, tf]; rfl
 obtain ⟨K1, ec, hl, h1⟩ := free1C ht t5 t8 (show (usedS L P).Pairwise (· < ·) from usd_up _) (usedS_len s.fi s.lp) hn (a := (A : Int)) rfl hA2 s rfl y0
 obtain ⟨K4, et, h4⟩ := trim_two K0 (.tup []) K1
 rw [et] at ec
 have ec := xg_hit ec
 have hK1 : ∀ k, K0[H.length + 2]? = some k → ∀ a ∈ k.vals, ∀ x, slb a = some x → x < K0.length := fun k hk a ha x hx => by
  rw [y0.wb] at hk; injection hk with hk; subst hk
  rw [List.mem_singleton.1 ha] at hx; cases hx
 have fin : ∀ {e : Ex} {st : LoopState} {w : AV} {acc : List Int}, TakY H cs (A : Int) n acc st e T w K1 → st ≠ .busy → runC (envX prog XG) (.range (X 25) [26] kaq10x0 kbq10x0) T G = some (e, T, K4.set (H.length + 5) (TakL .exhausted e T)) ∧ TakY H cs (A : Int) n acc .exhausted e T w (K4.set (H.length + 5) (TakL .exhausted e T)) := by
  intro e st w acc y hs
  have hl := y.len
  have a4 := fun {z} (hz : z < K0.length) => two_at h4 hz
  have l4 := two_len h4 (by omega)
  have f4 : FS K4 (H.length + 6) w acc := two_gr h4 y.fs (by omega) y.wb (by simp) hK1
  have := range_all (E := envX prog XG) (f := X 25) (ps := [26]) (ka := kaq10x0) (kb := kbq10x0) (t := T) (h := G) (K := K4) (e := e) (st := st) (v := .tup []) (by rw [cf]; rw [hK0] at ec; exact ec) (by rw [lG, a4 (by omega)]; exact y.lp) hs
  rw [lG] at this
  refine ⟨this, y.step (fun b hb h3 h5 => by rw [at_set_ne _ _ _ _ (by omega), a4 (by omega)]) (by rw [List.length_set]; omega) (by rw [at_set_ne _ _ _ _ (by omega), a4 (by omega)]; exact y.wb) (at_set _ _ _ (by omega)) (f4.frT (Fr.set _ _ (F := fun b => b = H.length + 5) rfl) fun b hb h => by have := (FS.out f4 b hb).1; omega)⟩
 rcases h1 with ⟨hl, w, y⟩ | ⟨w, y⟩
 ·obtain ⟨e1, e2⟩ := fin y (by decide)
  rw [e1, List.take_of_length_le (show (freeB (usedS L P) A).length ≤ n.toNat by omega)]
  exact ⟨_, _, _, rfl, rfl, .inl rfl, w, e2⟩
 ·obtain ⟨e1, e2⟩ := fin y (by decide)
  rw [e1]
  exact ⟨_, _, _, rfl, rfl, .inr rfl, w, e2⟩
end
theorem tup_end {H K : AHeap} {w : AV} {e : Int} {zs : List Int} (a : Adds H K) (g : IS K w zs) (wb : ∀ b, slb w = some b → H.length ≤ b) : ∃ K', trim H (some (.tup [w, .int .i64 e], K)) = some (.tup [w, .int .i64 e], K') ∧ Adds H K' ∧ IS K' w zs := by
 rcases trim_adds (v := .tup [w, .int .i64 e]) a with e | ⟨u, e⟩
 ·exact ⟨K, e, a, g⟩
 ·refine ⟨H, e, Adds.refl H, ?_⟩
  have u2 : w.under H.length = true := by
   have : underAll H.length [w, .int .i64 _] = true := u
   simp only [underAll, Bool.and_eq_true] at this
   exact this.1
  rcases g with g | ⟨b, o, l, ex, cs, rfl, _⟩
  ·exact .inl g
  ·have := wb b rfl
   have := slb_under u2 rfl
   omega
def takeS (u : List Int) (A : Nat) (n : Int) : List Int × Int := if n < 0 ∨ 4096 < n then ([], 1) else if ((freeB u A).length : Int) < n then ([], 12) else ((freeB u A).take n.toNat, 0)
set_option maxHeartbeats 8000000 in
theorem takeC {H : AHeap} {cs : List AV} {L : List SnS} {P : List PrS} (s : SA H cs L P) (A : Nat) (hA2 : (A : Int) ≤ 9223372036854775807) (n : Int) : ∃ w K, callBody prog (envX prog XG) 10 [.agg cs, .int .i64 (A : Int), .int .i64 n] H = some (.tup [w, .int .i64 (takeS (usedS L P) A n).2], K) ∧ Adds H K ∧ IS K w (takeS (usedS L P) A n).1 := by
 obtain ⟨H1, hH1⟩ : ∃ K, K = H ++ [ABlk.rw cs, .rw [.int .i64 n]] := ⟨_, rfl⟩
 have A1 : Adds H H1 := ⟨_, hH1⟩
 have c1 : cellsOf H1 H.length = some cs := by rw [hH1]; unfold cellsOf; simp
 have n1 : cellsOf H1 (H.length + 1) = some [.int .i64 n] := by rw [hH1]; unfold cellsOf; simp
 have ef := xg_free (freeC (s.adds A1) (A : Int) hA2)
 rw [freeN_len (show (usedS L P).Pairwise (· < ·) from usd_up _)] at ef
 obtain ⟨H2, hH2⟩ : ∃ K, K = H1 ++ [ABlk.rw [.nilSl]] := ⟨_, rfl⟩
 have A2 : Adds H1 H2 := ⟨_, hH2⟩
 have c2 := A2.cells c1
 have l2 : H2.length = H.length + 3 := by rw [hH2, hH1]; simp
 have en := freeFn (s.adds (A1.trans A2)) (A : Int)
 rw [l2] at en
 have hr := fun hn hf (T : T) => takRange s hA2 (n := n) hn hf (T := T)
 obtain ⟨_, hc, vd, vs, nx, kd, pd, vp, rfl, k1, k2, k3⟩ := s.cells
 obtain ⟨r1, r2⟩ : ∃ r, takeS (usedS L P) A n = r := ⟨_, rfl⟩
 have key : Outs (runC (envX prog XG) (b10 (envX prog XG)) ([.agg [vd, vs, .int .i64 nx, .int .i64 kd, .int .i64 pd, vp], .int .i64 (A : Int), .int .i64 n] ++ List.replicate (36 - [AV.agg [vd, vs, .int .i64 nx, .int .i64 kd, .int .i64 pd, vp], .int .i64 (A : Int), .int .i64 n].length) .undef) H) fun e' t K => ∃ w, Adds H K ∧ IS K w (takeS (usedS L P) A n).1 ∧ (∀ b, slb w = some b → H.length ≤ b) ∧ fin [.tmp 6, .tmp 7] (some (e', t, K)) = some (.tup [w, .int .i64 (takeS (usedS L P) A n).2], K) := by
  unfold b10
  generalize hQ : (fun (e' : Ex) (t : T) (K : AHeap) => ∃ w, Adds H K ∧ IS K w (takeS (usedS L P) A n).1 ∧ (∀ b, slb w = some b → H.length ≤ b) ∧ fin [.tmp 6, .tmp 7] (some (e', t, K)) = some (AV.tup [w, .int .i64 (takeS (usedS L P) A n).2], K)) = Q
  have hH1' := hH1.symm
  have hH2' := hH2.symm
  by_cases h1 : n < 0
  ·have d1 := decide_eq_true h1
   have hs : takeS (usedS L P) A n = ([], 1) := by unfold takeS; rw [if_pos (.inl h1)]
   simp -implicitDefEqProofs (maxSteps := 5000000) only [go_sem, Nat.reduceShiftRight, Nat.reduceAnd, Nat.reduceBNe, Int.reduceEq, Nat.reduceAdd, Nat.reduceSub, Nat.reduceMul, Nat.reduceLeDiff, reduceIte, reduceCtorEq, Nat.reduceBEq, Nat.reduceEqDiff, wrap64, runC_loop, runC_range, callF_fn, callV_fn, callV_yld, yield_eq, yieldBody, yieldRaw, roundMid, roundEnd, rangeEnd, Bool.not_not, put_cons, put_nil, trim_same, at_zero, at_add, set_zero, set_add, store_one, write_zero, write_add, write_head, write_succ, splice_one, splice_more, List.drop_nil, List.take_nil, cell_int, cell_bool, fillS, splice_one, idxA, Ex.isNormal, List.set_nil, List.length_set, List.all_cons, List.all_nil, Bool.and_self, and_self, true_and, and_true, List.getElem?_nil, Int.reduceLT, Int.reduceLE, Int.reduceToNat, Int.toNat_zero, Int.toNat_one, Int.reduceAdd, Int.reduceSub, Int.reduceMul, Int.reduceNeg, Int.reduceBEq, Int.reduceBNe, Int.reduceGE, Int.reduceGT, Nat.reduceLT, trim_keep, under_fn, under_ptr, under_sl, Nat.lt_irrefl, not_lt_add, trim_tail, keepOk, ABlk.vals, Int.cast_ofNat_Int, decide_true, decide_false, List.all_cons, List.all_nil, Nat.zero_mul, Nat.mul_one, Nat.one_mul, cellsA_agg, k1, k2, k3, hH1', n1, d1, outs_normal]
   subst hQ
   rw [hs]
   refine ⟨.nilSl, A1, .inl ⟨rfl, rfl⟩, fun b h => (by cases h), ?_⟩
   simp -implicitDefEqProofs (maxSteps := 5000000) only [go_sem, Nat.reduceShiftRight, Nat.reduceAnd, Nat.reduceBNe, Int.reduceEq, Nat.reduceAdd, Nat.reduceSub, Nat.reduceMul, Nat.reduceLeDiff, reduceIte, reduceCtorEq, Nat.reduceBEq, Nat.reduceEqDiff, wrap64, runC_loop, runC_range, callF_fn, callV_fn, callV_yld, yield_eq, yieldBody, yieldRaw, roundMid, roundEnd, rangeEnd, Bool.not_not, put_cons, put_nil, trim_same, at_zero, at_add, set_zero, set_add, store_one, write_zero, write_add, write_head, write_succ, splice_one, splice_more, List.drop_nil, List.take_nil, cell_int, cell_bool, fillS, splice_one, idxA, Ex.isNormal, List.set_nil, List.length_set, List.all_cons, List.all_nil, Bool.and_self, and_self, true_and, and_true, List.getElem?_nil, Int.reduceLT, Int.reduceLE, Int.reduceToNat, Int.toNat_zero, Int.toNat_one, Int.reduceAdd, Int.reduceSub, Int.reduceMul, Int.reduceNeg, Int.reduceBEq, Int.reduceBNe, Int.reduceGE, Int.reduceGT, Nat.reduceLT, trim_keep, under_fn, under_ptr, under_sl, Nat.lt_irrefl, not_lt_add, trim_tail, keepOk, ABlk.vals, Int.cast_ofNat_Int, decide_true, decide_false, List.all_cons, List.all_nil, Nat.zero_mul, Nat.mul_one, Nat.one_mul]
  have d1 := decide_eq_false h1
  by_cases h2 : n > 4096
  ·have d2 := decide_eq_true h2
   have hs : takeS (usedS L P) A n = ([], 1) := by unfold takeS; rw [if_pos (.inr h2)]
   simp -implicitDefEqProofs (maxSteps := 5000000) only [go_sem, Nat.reduceShiftRight, Nat.reduceAnd, Nat.reduceBNe, Int.reduceEq, Nat.reduceAdd, Nat.reduceSub, Nat.reduceMul, Nat.reduceLeDiff, reduceIte, reduceCtorEq, Nat.reduceBEq, Nat.reduceEqDiff, wrap64, runC_loop, runC_range, callF_fn, callV_fn, callV_yld, yield_eq, yieldBody, yieldRaw, roundMid, roundEnd, rangeEnd, Bool.not_not, put_cons, put_nil, trim_same, at_zero, at_add, set_zero, set_add, store_one, write_zero, write_add, write_head, write_succ, splice_one, splice_more, List.drop_nil, List.take_nil, cell_int, cell_bool, fillS, splice_one, idxA, Ex.isNormal, List.set_nil, List.length_set, List.all_cons, List.all_nil, Bool.and_self, and_self, true_and, and_true, List.getElem?_nil, Int.reduceLT, Int.reduceLE, Int.reduceToNat, Int.toNat_zero, Int.toNat_one, Int.reduceAdd, Int.reduceSub, Int.reduceMul, Int.reduceNeg, Int.reduceBEq, Int.reduceBNe, Int.reduceGE, Int.reduceGT, Nat.reduceLT, trim_keep, under_fn, under_ptr, under_sl, Nat.lt_irrefl, not_lt_add, trim_tail, keepOk, ABlk.vals, Int.cast_ofNat_Int, decide_true, decide_false, List.all_cons, List.all_nil, Nat.zero_mul, Nat.mul_one, Nat.one_mul, cellsA_agg, k1, k2, k3, hH1', n1, d1, d2, outs_normal]
   subst hQ
   rw [hs]
   refine ⟨.nilSl, A1, .inl ⟨rfl, rfl⟩, fun b h => (by cases h), ?_⟩
   simp -implicitDefEqProofs (maxSteps := 5000000) only [go_sem, Nat.reduceShiftRight, Nat.reduceAnd, Nat.reduceBNe, Int.reduceEq, Nat.reduceAdd, Nat.reduceSub, Nat.reduceMul, Nat.reduceLeDiff, reduceIte, reduceCtorEq, Nat.reduceBEq, Nat.reduceEqDiff, wrap64, runC_loop, runC_range, callF_fn, callV_fn, callV_yld, yield_eq, yieldBody, yieldRaw, roundMid, roundEnd, rangeEnd, Bool.not_not, put_cons, put_nil, trim_same, at_zero, at_add, set_zero, set_add, store_one, write_zero, write_add, write_head, write_succ, splice_one, splice_more, List.drop_nil, List.take_nil, cell_int, cell_bool, fillS, splice_one, idxA, Ex.isNormal, List.set_nil, List.length_set, List.all_cons, List.all_nil, Bool.and_self, and_self, true_and, and_true, List.getElem?_nil, Int.reduceLT, Int.reduceLE, Int.reduceToNat, Int.toNat_zero, Int.toNat_one, Int.reduceAdd, Int.reduceSub, Int.reduceMul, Int.reduceNeg, Int.reduceBEq, Int.reduceBNe, Int.reduceGE, Int.reduceGT, Nat.reduceLT, trim_keep, under_fn, under_ptr, under_sl, Nat.lt_irrefl, not_lt_add, trim_tail, keepOk, ABlk.vals, Int.cast_ofNat_Int, decide_true, decide_false, List.all_cons, List.all_nil, Nat.zero_mul, Nat.mul_one, Nat.one_mul]
  have d2 := decide_eq_false h2
  by_cases h3 : n > ((freeB (usedS L P) A).length : Int)
  ·have d3 := decide_eq_true h3
   have hs : takeS (usedS L P) A n = ([], 12) := by unfold takeS; rw [if_neg (by omega), if_pos h3]
   simp -implicitDefEqProofs (maxSteps := 5000000) only [go_sem, Nat.reduceShiftRight, Nat.reduceAnd, Nat.reduceBNe, Int.reduceEq, Nat.reduceAdd, Nat.reduceSub, Nat.reduceMul, Nat.reduceLeDiff, reduceIte, reduceCtorEq, Nat.reduceBEq, Nat.reduceEqDiff, wrap64, runC_loop, runC_range, callF_fn, callV_fn, callV_yld, yield_eq, yieldBody, yieldRaw, roundMid, roundEnd, rangeEnd, Bool.not_not, put_cons, put_nil, trim_same, at_zero, at_add, set_zero, set_add, store_one, write_zero, write_add, write_head, write_succ, splice_one, splice_more, List.drop_nil, List.take_nil, cell_int, cell_bool, fillS, splice_one, idxA, Ex.isNormal, List.set_nil, List.length_set, List.all_cons, List.all_nil, Bool.and_self, and_self, true_and, and_true, List.getElem?_nil, Int.reduceLT, Int.reduceLE, Int.reduceToNat, Int.toNat_zero, Int.toNat_one, Int.reduceAdd, Int.reduceSub, Int.reduceMul, Int.reduceNeg, Int.reduceBEq, Int.reduceBNe, Int.reduceGE, Int.reduceGT, Nat.reduceLT, trim_keep, under_fn, under_ptr, under_sl, Nat.lt_irrefl, not_lt_add, trim_tail, keepOk, ABlk.vals, Int.cast_ofNat_Int, decide_true, decide_false, List.all_cons, List.all_nil, Nat.zero_mul, Nat.mul_one, Nat.one_mul, cellsA_agg, k1, k2, k3, hH1', c1, n1, d1, d2, ef, d3, outs_normal]
   subst hQ
   rw [hs]
   refine ⟨.nilSl, A1, .inl ⟨rfl, rfl⟩, fun b h => (by cases h), ?_⟩
   simp -implicitDefEqProofs (maxSteps := 5000000) only [go_sem, Nat.reduceShiftRight, Nat.reduceAnd, Nat.reduceBNe, Int.reduceEq, Nat.reduceAdd, Nat.reduceSub, Nat.reduceMul, Nat.reduceLeDiff, reduceIte, reduceCtorEq, Nat.reduceBEq, Nat.reduceEqDiff, wrap64, runC_loop, runC_range, callF_fn, callV_fn, callV_yld, yield_eq, yieldBody, yieldRaw, roundMid, roundEnd, rangeEnd, Bool.not_not, put_cons, put_nil, trim_same, at_zero, at_add, set_zero, set_add, store_one, write_zero, write_add, write_head, write_succ, splice_one, splice_more, List.drop_nil, List.take_nil, cell_int, cell_bool, fillS, splice_one, idxA, Ex.isNormal, List.set_nil, List.length_set, List.all_cons, List.all_nil, Bool.and_self, and_self, true_and, and_true, List.getElem?_nil, Int.reduceLT, Int.reduceLE, Int.reduceToNat, Int.toNat_zero, Int.toNat_one, Int.reduceAdd, Int.reduceSub, Int.reduceMul, Int.reduceNeg, Int.reduceBEq, Int.reduceBNe, Int.reduceGE, Int.reduceGT, Nat.reduceLT, trim_keep, under_fn, under_ptr, under_sl, Nat.lt_irrefl, not_lt_add, trim_tail, keepOk, ABlk.vals, Int.cast_ofNat_Int, decide_true, decide_false, List.all_cons, List.all_nil, Nat.zero_mul, Nat.mul_one, Nat.one_mul]
  have d3 := decide_eq_false h3
  have hs : takeS (usedS L P) A n = ((freeB (usedS L P) A).take n.toNat, 0) := by unfold takeS; rw [if_neg (by omega), if_neg h3]
  have hr := hr (by omega) (by omega)
  have eG : H2 ++ [ABlk.rw [vd, vs, .int .i64 nx, .int .i64 kd, .int .i64 pd, vp], .rw [.int .i64 (A : Int)]] = H ++ [ABlk.rw [vd, vs, .int .i64 nx, .int .i64 kd, .int .i64 pd, vp], .rw [.int .i64 n], .rw [.nilSl], .rw [vd, vs, .int .i64 nx, .int .i64 kd, .int .i64 pd, vp], .rw [.int .i64 (A : Int)]] := by rw [hH2, hH1]; simp
  rw [eG] at en
  have lh1 : H1.length = H.length + 2 := by rw [hH1]; simp
  simp -implicitDefEqProofs (maxSteps := 5000000) only [go_sem, Nat.reduceShiftRight, Nat.reduceAnd, Nat.reduceBNe, Int.reduceEq, Nat.reduceAdd, Nat.reduceSub, Nat.reduceMul, Nat.reduceLeDiff, reduceIte, reduceCtorEq, Nat.reduceBEq, Nat.reduceEqDiff, wrap64, runC_loop, callF_fn, callV_fn, callV_yld, Bool.not_not, put_cons, put_nil, trim_same, at_zero, at_add, set_zero, set_add, store_one, write_zero, write_add, write_head, write_succ, splice_one, splice_more, List.drop_nil, List.take_nil, cell_int, cell_bool, fillS, splice_one, idxA, Ex.isNormal, List.set_nil, List.length_set, List.all_cons, List.all_nil, Bool.and_self, and_self, true_and, and_true, List.getElem?_nil, Int.reduceLT, Int.reduceLE, Int.reduceToNat, Int.toNat_zero, Int.toNat_one, Int.reduceAdd, Int.reduceSub, Int.reduceMul, Int.reduceNeg, Int.reduceBEq, Int.reduceBNe, Int.reduceGE, Int.reduceGT, Nat.reduceLT, trim_keep, under_fn, under_ptr, under_sl, Nat.lt_irrefl, not_lt_add, trim_tail, keepOk, ABlk.vals, Int.cast_ofNat_Int, decide_true, decide_false, List.all_cons, List.all_nil, Nat.zero_mul, Nat.mul_one, Nat.one_mul, cellsA_agg, k1, k2, k3, hH1', c1, n1, d1, d2, ef, d3, hH2', lh1, c2, xg_call, en]
  refine outs_ctx (fun r => seqR (blockR 1 r) _) (hr _ rfl rfl rfl rfl) ?_
  rintro e t K ⟨rfl, h, w, y⟩
  have aK : Adds H K := Adds.of_get (by have := y.len; omega) y.old
  have cw := cells_rw y.wb
  rcases h with rfl | rfl <;>
  ·simp -implicitDefEqProofs (maxSteps := 5000000) only [go_sem, Nat.reduceShiftRight, Nat.reduceAnd, Nat.reduceBNe, Int.reduceEq, Nat.reduceAdd, Nat.reduceSub, Nat.reduceMul, Nat.reduceLeDiff, reduceIte, reduceCtorEq, Nat.reduceBEq, Nat.reduceEqDiff, wrap64, runC_loop, runC_range, callF_fn, callV_fn, callV_yld, yield_eq, yieldBody, yieldRaw, roundMid, roundEnd, rangeEnd, Bool.not_not, put_cons, put_nil, trim_same, at_zero, at_add, set_zero, set_add, store_one, write_zero, write_add, write_head, write_succ, splice_one, splice_more, List.drop_nil, List.take_nil, cell_int, cell_bool, fillS, splice_one, idxA, Ex.isNormal, List.set_nil, List.length_set, List.all_cons, List.all_nil, Bool.and_self, and_self, true_and, and_true, List.getElem?_nil, Int.reduceLT, Int.reduceLE, Int.reduceToNat, Int.toNat_zero, Int.toNat_one, Int.reduceAdd, Int.reduceSub, Int.reduceMul, Int.reduceNeg, Int.reduceBEq, Int.reduceBNe, Int.reduceGE, Int.reduceGT, Nat.reduceLT, trim_keep, under_fn, under_ptr, under_sl, Nat.lt_irrefl, not_lt_add, trim_tail, keepOk, ABlk.vals, Int.cast_ofNat_Int, decide_true, decide_false, List.all_cons, List.all_nil, Nat.zero_mul, Nat.mul_one, Nat.one_mul, cw, outs_normal]
   subst hQ
   rw [hs]
   refine ⟨w, aK, GR.is y.fs, fun b hb => by have := (FS.out y.fs b hb).1; omega, ?_⟩
   simp -implicitDefEqProofs (maxSteps := 5000000) only [go_sem, Nat.reduceShiftRight, Nat.reduceAnd, Nat.reduceBNe, Int.reduceEq, Nat.reduceAdd, Nat.reduceSub, Nat.reduceMul, Nat.reduceLeDiff, reduceIte, reduceCtorEq, Nat.reduceBEq, Nat.reduceEqDiff, wrap64, runC_loop, runC_range, callF_fn, callV_fn, callV_yld, yield_eq, yieldBody, yieldRaw, roundMid, roundEnd, rangeEnd, Bool.not_not, put_cons, put_nil, trim_same, at_zero, at_add, set_zero, set_add, store_one, write_zero, write_add, write_head, write_succ, splice_one, splice_more, List.drop_nil, List.take_nil, cell_int, cell_bool, fillS, splice_one, idxA, Ex.isNormal, List.set_nil, List.length_set, List.all_cons, List.all_nil, Bool.and_self, and_self, true_and, and_true, List.getElem?_nil, Int.reduceLT, Int.reduceLE, Int.reduceToNat, Int.toNat_zero, Int.toNat_one, Int.reduceAdd, Int.reduceSub, Int.reduceMul, Int.reduceNeg, Int.reduceBEq, Int.reduceBNe, Int.reduceGE, Int.reduceGT, Nat.reduceLT, trim_keep, under_fn, under_ptr, under_sl, Nat.lt_irrefl, not_lt_add, trim_tail, keepOk, ABlk.vals, Int.cast_ofNat_Int, decide_true, decide_false, List.all_cons, List.all_nil, Nat.zero_mul, Nat.mul_one, Nat.one_mul]
 obtain ⟨e', t, K, hr, w, aK, bs, wb, hf⟩ := key
 obtain ⟨K', e, a, b⟩ := tup_end aK bs wb
 exact ⟨w, K', by rw [d10, hr, hf]; exact e, a, b⟩
noncomputable def XT : Over := XG.up prog 10
theorem xt_ok : XT.Ok prog := up_ok goodP xg_ok _
theorem xt_call (f : Nat) (args : List AV) (h : AHeap) (et : (f == 10) = false) (eg : (f == 31) = false) (ef : (f == 9) = false) (eu : (f == 8) = false) (es : (f == 15) = false) (ed : (f == 12) = false) (em : (f == 25) = false) (e0 : (f == 37) = false) (e1 : (f == 52) = false) (e2 : (f == 61) = false) : (envX prog XT).call f args h = (envL prog).call f args h := by
 unfold XT Over.up; rw [x_miss _ _ et, xg_call _ _ _ eg ef eu es ed em e0 e1 e2]
theorem xt_used {args : List AV} {h : AHeap} {r : AV × AHeap} (e : callBody prog (envX prog XS) 8 args h = some r) : (envX prog XT).call 8 args h = some r := by
 unfold XT Over.up; rw [x_miss _ _ (by decide)]; exact xg_used e
theorem xt_free {args : List AV} {h : AHeap} {r : AV × AHeap} (e : callBody prog (envX prog XU) 9 args h = some r) : (envX prog XT).call 9 args h = some r := by
 unfold XT Over.up; rw [x_miss _ _ (by decide)]; exact xg_free e
theorem xt_take {args : List AV} {h : AHeap} {r : AV × AHeap} (e : callBody prog (envX prog XG) 10 args h = some r) : (envX prog XT).call 10 args h = some r := x_hit e
end Go.Proofs.Ytfioahnogphnfaa.G12
end
section
namespace Go.Proofs.Ytfioahnogphnfaa.G12
open Go Go.Proofs.Ytfioahnogphnfaa.Eng
def LW : List SnS := [⟨0, [], [(1, 2), (3, 0)]⟩]
def PW : List PrS := [(0, 4), (1, 255)]
def csW : List AV := [.nilSl, .sl 1 0 3 1 1 true, .int .i64 0, .int .i64 2, .int .i64 0, .sl 2 0 2 2 2 true]
def KW : AHeap := [.rw [.int .i64 1, .int .i64 2, .int .i64 3, .int .i64 0], .rw [.int .i64 0, .nilSl, .sl 0 0 2 2 2 true], .rw [.int .i64 0, .int .i64 4, .int .i64 1, .int .i64 255], .rw csW]
theorem saW : SA KW csW LW PW := by
 refine ⟨⟨.nilSl, .sl 1 0 3 1 1 true, 0, 2, 0, .sl 2 0 2 2 2 true, rfl, ?_, .inr ⟨2, 2, true, rfl, by decide, rfl⟩, rfl, rfl⟩, ⟨by decide, fun s hs => ?_⟩, by decide⟩
 ·refine .inr ⟨1, 1, true, [[.int .i64 0, .nilSl, .sl 0 0 2 2 2 true]], [], rfl, by decide, rfl, rfl, fun i r s h1 h2 => ?_⟩
  match i with
  | 0 =>
   simp only [LW, List.getElem?_cons_zero, Option.some.injEq] at h1 h2
   subst h1; subst h2
   exact ⟨_, _, rfl, .inl ⟨rfl, rfl⟩, .inr ⟨0, 2, true, rfl, by decide, rfl⟩⟩
  | n + 1 => simp [LW] at h2
 ·simp only [LW, List.mem_singleton] at hs
  subst hs
  exact ⟨by unfold IsU8; decide, by decide, by decide⟩
theorem usedW : usedS LW PW = [0, 2, 4] := up_ext (usd_up _) (by decide) fun x => by
 unfold usedS
 rw [usd_mem, show atsL LW ++ planL PW = [2, 0, 4] by decide]
 simp only [List.mem_cons, List.mem_nil_iff, or_false]
 omega
set_option maxHeartbeats 8000000 in
theorem wakesC : ∃ h1, callBody prog (envX prog XT) 7 [] [] = some (.bool true, h1) := by
 obtain ⟨w1, K1, e1, A1, i1⟩ := takeC saW 6 (by decide) 2
 have e1 := xt_take e1
 rw [usedW, show takeS [0, 2, 4] 6 2 = ([1, 3], 0) by decide +kernel] at e1 i1
 have s1 := saW.adds A1
 obtain ⟨w2, K2, e2, A2, i2⟩ := takeC s1 6 (by decide) 4
 have e2 := xt_take e2
 rw [usedW, show takeS [0, 2, 4] 6 4 = ([], 12) by decide +kernel] at e2 i2
 have s2 := s1.adds A2
 obtain ⟨w3, K3, e3, A3, i3, _⟩ := usedC s2
 have e3 := xt_used e3
 rw [usedW] at i3
 have s3 := s2.adds A3
 have A4 : Adds K3 (K3 ++ [ABlk.rw [.int .i64 0, .int .i64 2, .int .i64 4]]) := ⟨_, rfl⟩
 have e4 := Bt.intsC (A4.is i3) (w := .sl K3.length 0 1 3 3 true) (IS.block (zs := [0, 2, 4]) (b := K3.length) (by simp; rfl)) (by decide)
 have s4 := s3.adds A4
 have e5 := xt_free (freeC s4 6 (by decide))
 rw [usedW, show freeN [0, 2, 4] 6 = 3 by decide +kernel] at e5
 obtain ⟨K4, hK4⟩ : ∃ K, K = K3 ++ [ABlk.rw [.int .i64 0, .int .i64 2, .int .i64 4]] := ⟨_, rfl⟩
 rw [← hK4] at e4 e5 A4
 have A5 : Adds K4 (K4 ++ [ABlk.rw [.int .i64 1, .int .i64 3]]) := ⟨_, rfl⟩
 have e6 := Bt.intsC ((((A2.trans A3).trans A4).trans A5).is i1) (w := .sl K4.length 0 1 2 2 true) (IS.block (zs := [1, 3]) (b := K4.length) (by simp; rfl)) (by decide)
 have c3 : ∀ {X : AHeap}, Adds KW X → cellsOf X 3 = some csW := fun a => a.cells rfl
 have q0 : cellsOf KW 3 = some csW := rfl
 have q1 := c3 A1
 have q2 := c3 (A1.trans A2)
 have q4 := c3 (((A1.trans A2).trans A3).trans A4)
 have hK4 := hK4.symm
 unfold csW at e1 e2 e3 e5 q0 q1 q2 q4
 unfold KW at e1 q0
 unfold csW at e1 q0
 rw [show ((6 : Nat) : Int) = 6 from rfl] at e1 e2
 rw [d7]
 have key : Outs (runC (envX prog XT) (b7 (envX prog XT)) ([] ++ List.replicate (48 - ([] : List AV).length) .undef) []) fun e t h1 => fin [.tmp 0] (some (e, t, h1)) = some (AV.bool true, h1) := by
  unfold b7
  generalize hQ : (fun (e : Ex) (t : T) (h1 : AHeap) => fin [.tmp 0] (some (e, t, h1)) = some (AV.bool true, h1)) = Q
  simp -implicitDefEqProofs (maxSteps := 5000000) only [go_sem, Nat.reduceShiftRight, Nat.reduceAnd, Nat.reduceBNe, Int.reduceEq, Nat.reduceAdd, Nat.reduceSub, Nat.reduceMul, Nat.reduceLeDiff, reduceIte, reduceCtorEq, Nat.reduceBEq, Nat.reduceEqDiff, wrap64, runC_loop, runC_range, callF_fn, callV_fn, callV_yld, yield_eq, yieldBody, yieldRaw, roundMid, roundEnd, rangeEnd, Bool.not_not, put_cons, put_nil, trim_same, at_zero, at_add, set_zero, set_add, store_one, write_zero, write_add, write_head, write_succ, splice_one, splice_more, List.drop_nil, List.take_nil, cell_int, cell_bool, fillS, splice_one, idxA, Ex.isNormal, List.set_nil, List.length_set, List.all_cons, List.all_nil, Bool.and_self, and_self, true_and, and_true, List.getElem?_nil, Int.reduceLT, Int.reduceLE, Int.reduceToNat, Int.toNat_zero, Int.toNat_one, Int.reduceAdd, Int.reduceSub, Int.reduceMul, Int.reduceNeg, Int.reduceBEq, Int.reduceBNe, Int.reduceGE, Int.reduceGT, Nat.reduceLT, trim_keep, under_fn, under_ptr, under_sl, Nat.lt_irrefl, not_lt_add, trim_tail, keepOk, ABlk.vals, Int.cast_ofNat_Int, decide_true, decide_false, List.all_cons, List.all_nil, Nat.zero_mul, Nat.mul_one, Nat.one_mul, xt_call, cellsA_agg, q0, e1, q1, e2, q2, e3, hK4, e4, q4, e5, e6, outs_normal]
  subst hQ
  simp -implicitDefEqProofs (maxSteps := 5000000) only [go_sem, Nat.reduceShiftRight, Nat.reduceAnd, Nat.reduceBNe, Int.reduceEq, Nat.reduceAdd, Nat.reduceSub, Nat.reduceMul, Nat.reduceLeDiff, reduceIte, reduceCtorEq, Nat.reduceBEq, Nat.reduceEqDiff]
 unfold b7 at key ⊢
 exact of_outs key
noncomputable def X4 : Over := XT.with 7 wakeR
theorem x4_ok : X4.Ok prog := with_ok xt_ok (wake_ok goodP xt_ok wakesC.choose_spec)
theorem x4_call (f : Nat) (args : List AV) (h : AHeap) (ew : (f == 7) = false) (et : (f == 10) = false) (eg : (f == 31) = false) (ef : (f == 9) = false) (eu : (f == 8) = false) (es : (f == 15) = false) (ed : (f == 12) = false) (em : (f == 25) = false) (e0 : (f == 37) = false) (e1 : (f == 52) = false) (e2 : (f == 61) = false) : (envX prog X4).call f args h = (envL prog).call f args h := by
 unfold X4; rw [x_miss _ _ ew, xt_call _ _ _ et eg ef eu es ed em e0 e1 e2]
theorem x4_wakes (h : AHeap) : (envX prog X4).call 7 [] h = some (.bool true, h) := x_hit rfl
theorem x4_used {args : List AV} {h : AHeap} {r : AV × AHeap} (e : callBody prog (envX prog XS) 8 args h = some r) : (envX prog X4).call 8 args h = some r := by
 unfold X4; rw [x_miss _ _ (by decide)]; exact xt_used e
theorem x4_free {args : List AV} {h : AHeap} {r : AV × AHeap} (e : callBody prog (envX prog XU) 9 args h = some r) : (envX prog X4).call 9 args h = some r := by
 unfold X4; rw [x_miss _ _ (by decide)]; exact xt_free e
theorem x4_take {args : List AV} {h : AHeap} {r : AV × AHeap} (e : callBody prog (envX prog XG) 10 args h = some r) : (envX prog X4).call 10 args h = some r := by
 unfold X4; rw [x_miss _ _ (by decide)]; exact xt_take e
noncomputable abbrev LZ (l : Env → CT) := (envL prog).loop (runC (envX prog X4) (l (envX prog X4)))
end Go.Proofs.Ytfioahnogphnfaa.G12
end
