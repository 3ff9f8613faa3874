/- What the functions that WaysPlays reaches answer, for every argument. No condition but those in each statement. -/
import Derived.Test.YtodoakeifdiidaaW4
set_option linter.unusedSimpArgs false
set_option linter.unusedVariables false
set_option maxRecDepth 10000
namespace Go.Proofs.Ytodoakeifdiidaa.G13
open Go Go.Proofs.Ytodoakeifdiidaa.Eng
/-- The first dirty one from the hand on, k of them. -/
def dirtyW (ways base : Nat) (S : List Slot) : Nat → Nat → Option Nat
  | 0, _ => none
  | k + 1, h => if (sl S (base + h)).d then some h else dirtyW ways base S k ((h + 1) % ways)
theorem set_back {hs : List Nat} {s h : Nat} (hh : hs[s]? = some h) : hs.set s h = hs := by
  obtain ⟨q1, q2⟩ := List.getElem?_eq_some_iff.1 hh
  rw [← q2]; exact List.set_getElem_self _
theorem mod_ok {hs : List Nat} {ways : Nat} (hw : ∀ h ∈ hs, h < ways) (w1 : 1 ≤ ways) (s h : Nat) : ∀ x ∈ hs.set s ((h + 1) % ways), x < ways := fun x hx => by
  rcases List.mem_or_eq_of_mem_set hx with hx | rfl
  · exact hw x hx
  · exact Nat.mod_lt _ (by omega)
section
variable {p bs bh : Nat} {e : Bool} {sets ways : Nat}
set_option maxHeartbeats 4000000 in
theorem dirtyL (s : Nat) (hs' : s < sets) (x1 x2 x3 x7 x8 x10 x11 x12 x13 x14 x15 x16 x17 x18 x19 x20 x21 x22 x23 x24 x25 x26 x27 x44 x45 x46 x47 x48 x49 x50 : AV) : ∀ (k w : Nat) (H : AHeap) (S : List Slot) (hs : List Nat) (h : Nat) (j9 j30 j31 j32 j33 j34 j35 j36 j37 j38 j39 j40 j41 j42 j43 : AV), PM H p bs bh e sets ways S hs → hs[s]? = some h → w + k = ways →
    Outs (LQ l15x0 [.ptr p 0, x1, x2, x3, .int .i64 0, .bool false, .int .i64 (s : Int), x7, x8, j9, x10, x11, x12, x13, x14, x15, x16, x17, x18, x19, x20, x21, x22, x23, x24, x25, x26, x27, .int .i64 (ways : Int), .int .i64 (w : Int), j30, j31, j32, j33, j34, j35, j36, j37, j38, j39, j40, j41, j42, j43, x44, x45, x46, x47, x48, x49, x50] H) fun e' t H' => KeepB H H' [bs, bh] ∧ match dirtyW ways (s * ways) S k h with
      | none => e' = .exit 0 ∧ (∃ x, PM H' p bs bh e sets ways S (hs.set s x)) ∧ ∃ k9 k29 k30 k31 k32 k33 k34 k35 k36 k37 k38 k39 k40 k41 k42 k43 : AV, t = [.ptr p 0, x1, x2, x3, .int .i64 0, .bool false, .int .i64 (s : Int), x7, x8, k9, x10, x11, x12, x13, x14, x15, x16, x17, x18, x19, x20, x21, x22, x23, x24, x25, x26, x27, .int .i64 (ways : Int), k29, k30, k31, k32, k33, k34, k35, k36, k37, k38, k39, k40, k41, k42, k43, x44, x45, x46, x47, x48, x49, x50]
      | some i => e' = .ret ∧ PM H' p bs bh e sets ways S (hs.set s ((i + 1) % ways)) ∧ ∃ k9 k29 k30 k31 k32 k33 k34 k35 k36 k37 k38 k39 k40 k41 k42 k43 : AV, t = [.ptr p 0, x1, x2, x3, .int .i64 ((s * ways + i : Nat) : Int), .bool true, .int .i64 (s : Int), x7, x8, k9, x10, x11, x12, x13, x14, x15, x16, x17, x18, x19, x20, x21, x22, x23, x24, x25, x26, x27, .int .i64 (ways : Int), k29, k30, k31, k32, k33, k34, k35, k36, k37, k38, k39, k40, k41, k42, k43, x44, x45, x46, x47, x48, x49, x50] := by
  intro k
  obtain ⟨L, hL⟩ : ∃ L, L = LQ l15x0 := ⟨_, rfl⟩
  have lo := loop_open hL
  rw [← hL]
  induction k with
  | zero =>
    intro w H S hs h j9 j30 j31 j32 j33 j34 j35 j36 j37 j38 j39 j40 j41 j42 j43 m hh hi
    obtain rfl : w = ways := by omega
    have hd : decide ((w : Int) < (w : Int)) = false := by simp
    rw [lo]
    unfold l15x0
    simp -implicitDefEqProofs (maxSteps := 5000000) only [go_sem, Nat.reduceShiftRight, Nat.reduceAnd, Nat.reduceBNe, Int.reduceEq, Nat.reduceAdd, Nat.reduceSub, Nat.reduceMul, Nat.reduceLeDiff, reduceIte, reduceCtorEq, Nat.reduceBEq, Nat.reduceEqDiff, go_sem, hd, seqR_exit', outs_normal, dirtyW]
    exact ⟨KeepB.refl _ _, ⟨h, by rw [set_back hh]; exact m⟩, _, _, _, _, _, _, _, _, _, _, _, _, _, _, _, _, rfl⟩
  | succ k ih =>
    intro w H S hs h j9 j30 j31 j32 j33 j34 j35 j36 j37 j38 j39 j40 j41 j42 j43 m hh hi
    obtain ⟨h', hh', hlt, i1, c⟩ := stepC m s hs'
    obtain rfl : h = h' := by rw [hh] at hh'; exact Option.some.inj hh'
    have w4 := m.w4
    have w1 := m.w1
    obtain ⟨_, i2, i3⟩ := m.in hs' hlt
    have hd : decide ((w : Int) < (ways : Int)) = true := decide_eq_true (by omega)
    have e2 : IntKind.i64.wrap ((w : Int) + 1) = ((w + 1 : Nat) : Int) := by rw [wrap64 (by omega) (by omega)]; omega
    have hl : s < hs.length := (List.getElem?_eq_some_iff.1 hh).1
    have m1 := m.upH (hs' := hs.set s ((h + 1) % ways)) (by simp) (mod_ok m.hw w1 s h)
    have k1 := keepH H bs bh (hs.set s ((h + 1) % ways))
    have hm := m1.map
    have ix := idx_nat bs 3 S.length S.length (s * ways + h) e .i64 (by omega) i1
    have hc := cells_rw m1.sl
    have hg1 := slot_d i1
    have hh1 : (hs.set s ((h + 1) % ways))[s]? = some ((h + 1) % ways) := List.getElem?_set_self hl
    rw [lo]
    unfold l15x0
    cases hdd : (sl S (s * ways + h)).d with
    | true =>
      rw [hdd] at hg1
      have f : dirtyW ways (s * ways) S (k + 1) h = some h := by simp [dirtyW, hdd]
      rw [f]
      simp -implicitDefEqProofs (maxSteps := 5000000) only [go_sem, Nat.reduceShiftRight, Nat.reduceAnd, Nat.reduceBNe, Int.reduceEq, Nat.reduceAdd, Nat.reduceSub, Nat.reduceMul, Nat.reduceLeDiff, reduceIte, reduceCtorEq, Nat.reduceBEq, Nat.reduceEqDiff, go_sem, hm, hd, e2, c, ix, hc, hg1, outs_normal]
      exact ⟨k1, m1, _, _, _, _, _, _, _, _, _, _, _, _, _, _, _, _, rfl⟩
    | false =>
      rw [hdd] at hg1
      have f : dirtyW ways (s * ways) S (k + 1) h = dirtyW ways (s * ways) S k ((h + 1) % ways) := by simp [dirtyW, hdd]
      rw [f]
      have ih := fun j9 j30 j31 j32 j33 j34 j35 j36 j37 j38 j39 j40 j41 j42 j43 => ih (w + 1) _ S _ _ j9 j30 j31 j32 j33 j34 j35 j36 j37 j38 j39 j40 j41 j42 j43 m1 hh1 (by omega)
      simp -implicitDefEqProofs (maxSteps := 5000000) only [go_sem, Nat.reduceShiftRight, Nat.reduceAnd, Nat.reduceBNe, Int.reduceEq, Nat.reduceAdd, Nat.reduceSub, Nat.reduceMul, Nat.reduceLeDiff, reduceIte, reduceCtorEq, Nat.reduceBEq, Nat.reduceEqDiff, go_sem, hm, hd, e2, c, ix, hc, hg1]
      refine (ih _ _ _ _ _ _ _ _ _ _ _ _ _ _ _).mono ?_
      rintro e' t H' ⟨q2, q3⟩
      refine ⟨k1.trans q2, ?_⟩
      split at q3
      · obtain ⟨r1, ⟨x, r2⟩, r3⟩ := q3
        rw [List.set_set] at r2
        exact ⟨r1, ⟨x, r2⟩, r3⟩
      · obtain ⟨r1, r2, r3⟩ := q3
        rw [List.set_set] at r2
        exact ⟨r1, r2, r3⟩
end
def dirtyS (sets ways : Nat) (S : List Slot) (hs : List Nat) (blk : Int) : List Nat × Option Nat :=
  if blk < 0 then (hs, none) else
    match dirtyW ways ((blk % sets).toNat * ways) S ways ((hs[(blk % sets).toNat]?).getD 0) with
    | none => (hs, none)
    | some i => (hs.set (blk % sets).toNat ((i + 1) % ways), some ((blk % sets).toNat * ways + i))
section
variable {H : AHeap} {p bs bh : Nat} {e : Bool} {sets ways : Nat} {S : List Slot} {hs : List Nat} (m : PM H p bs bh e sets ways S hs)
include m
set_option maxHeartbeats 4000000 in
theorem dirtiestC (blk : Int) : ∃ H', PM H' p bs bh e sets ways S (dirtyS sets ways S hs blk).1 ∧ KeepB H H' [bs, bh] ∧ (envL prog).call 15 [.ptr p 0, .int .i64 blk] H = some (optA (dirtyS sets ways S hs blk).2, H') := by
  have hm := m.map
  have c := setC m blk
  have w4 := m.w4
  rw [c15]
  unfold b15
  by_cases h : blk < 0
  · rw [if_pos h, decide_eq_true h] at c
    refine ⟨H, ?_, KeepB.refl _ _, ?_⟩
    · unfold dirtyS; rw [if_pos h]; exact m
    unfold dirtyS; rw [if_pos h]
    simp -implicitDefEqProofs (maxSteps := 5000000) only [go_sem, Nat.reduceShiftRight, Nat.reduceAnd, Nat.reduceBNe, Int.reduceEq, Nat.reduceAdd, Nat.reduceSub, Nat.reduceMul, Nat.reduceLeDiff, reduceIte, reduceCtorEq, Nat.reduceBEq, Nat.reduceEqDiff, go_sem, c, optA]
  rw [if_neg h, decide_eq_false h] at c
  obtain ⟨e1, h1⟩ := m.setOf blk h
  rw [e1] at c
  generalize hs1 : (blk % (sets : Int)).toNat = s at *
  have hl : s < hs.length := by have := m.hlen; omega
  have hhs : hs[s]? = some ((hs[s]?).getD 0) := by rw [List.getElem?_eq_getElem hl]; rfl
  have cl := dirtyL (p := p) (bs := bs) (bh := bh) (e := e) (sets := sets) (ways := ways) s h1 (k := ways) (w := 0) (H := H) (S := S) (hs := hs) (h := (hs[s]?).getD 0)
  have ix := idx_nat bh 1 sets sets s true .i64 (by omega) h1
  rw [Nat.mul_one] at ix
  have hc := cells_rw m.hd
  have hg : (hcells hs)[s]? = some (.int .i64 (((hs[s]?).getD 0 : Nat) : Int)) := by rw [get_h hl, List.getElem?_eq_getElem hl]; rfl
  rw [show ((0 : Nat) : Int) = 0 from rfl] at cl
  generalize hR : dirtyS sets ways S hs blk = R
  refine ex_outs ?_
  generalize hQ : (fun (e' : Ex) (t : T) (h1 : AHeap) => PM h1 p bs bh e sets ways S R.1 ∧ KeepB H h1 [bs, bh] ∧ h1.length = H.length ∧ fin [.tmp 4, .tmp 5] (some (e', t, h1)) = some (optA R.2, h1)) = Q
  simp -implicitDefEqProofs (maxSteps := 5000000) only [go_sem, Nat.reduceShiftRight, Nat.reduceAnd, Nat.reduceBNe, Int.reduceEq, Nat.reduceAdd, Nat.reduceSub, Nat.reduceMul, Nat.reduceLeDiff, reduceIte, reduceCtorEq, Nat.reduceBEq, Nat.reduceEqDiff, go_sem, runC_loop, hm, c, ix, hc, hg]
  refine outs_ctx (fun r => seqR (blockR 0 r) _) (cl _ _ _ _ _ _ _ _ _ _ _ _ _ _ _ _ _ _ _ _ _ _ _ _ _ _ _ _ _ _ _ _ _ _ _ _ _ _ _ _ _ _ _ _ _ m hhs (by omega)) ?_
  rintro e' t H' ⟨k1, hq⟩
  split at hq
  · obtain ⟨rfl, ⟨x, q1⟩, k9, k29, k30, k31, k32, k33, k34, k35, k36, k37, k38, k39, k40, k41, k42, k43, rfl⟩ := hq
    rename_i hf
    have hm2 := q1.map
    have wr := put_h q1.hd (s := s) (by rw [List.length_set]; exact hl) ((hs[s]?).getD 0)
    rw [List.set_set, set_back hhs] at wr
    have m3 := q1.upH (hs' := hs) (by rw [List.length_set]) m.hw
    have k3 := k1.trans (keepH H' bs bh hs)
    have hR' : R = (hs, none) := by rw [← hR]; unfold dirtyS; rw [if_neg h, hs1, hf]
    rw [hR'] at hQ
    simp -implicitDefEqProofs (maxSteps := 5000000) only [go_sem, Nat.reduceShiftRight, Nat.reduceAnd, Nat.reduceBNe, Int.reduceEq, Nat.reduceAdd, Nat.reduceSub, Nat.reduceMul, Nat.reduceLeDiff, reduceIte, reduceCtorEq, Nat.reduceBEq, Nat.reduceEqDiff, go_sem, runC_loop, store_one, hm2, ix, wr, outs_normal]
    subst hQ
    refine ⟨m3, k3, k3.1, ?_⟩
    simp -implicitDefEqProofs (maxSteps := 5000000) only [go_sem, Nat.reduceShiftRight, Nat.reduceAnd, Nat.reduceBNe, Int.reduceEq, Nat.reduceAdd, Nat.reduceSub, Nat.reduceMul, Nat.reduceLeDiff, reduceIte, reduceCtorEq, Nat.reduceBEq, Nat.reduceEqDiff, go_sem, optA]
  · obtain ⟨rfl, q1, k9, k29, k30, k31, k32, k33, k34, k35, k36, k37, k38, k39, k40, k41, k42, k43, rfl⟩ := hq
    rename_i i hf
    have hR' : R = (hs.set s ((i + 1) % ways), some (s * ways + i)) := by rw [← hR]; unfold dirtyS; rw [if_neg h, hs1, hf]
    rw [hR'] at hQ
    simp -implicitDefEqProofs (maxSteps := 5000000) only [go_sem, Nat.reduceShiftRight, Nat.reduceAnd, Nat.reduceBNe, Int.reduceEq, Nat.reduceAdd, Nat.reduceSub, Nat.reduceMul, Nat.reduceLeDiff, reduceIte, reduceCtorEq, Nat.reduceBEq, Nat.reduceEqDiff, go_sem, outs_normal]
    subst hQ
    refine ⟨q1, k1, k1.1, ?_⟩
    simp -implicitDefEqProofs (maxSteps := 5000000) only [go_sem, Nat.reduceShiftRight, Nat.reduceAnd, Nat.reduceBNe, Int.reduceEq, Nat.reduceAdd, Nat.reduceSub, Nat.reduceMul, Nat.reduceLeDiff, reduceIte, reduceCtorEq, Nat.reduceBEq, Nat.reduceEqDiff, go_sem, optA]
end
end Go.Proofs.Ytodoakeifdiidaa.G13

