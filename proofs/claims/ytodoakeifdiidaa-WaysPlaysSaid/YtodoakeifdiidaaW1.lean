/- What the functions that WaysPlays reaches answer, for every argument. No condition but those in each statement. -/
import Derived.Test.YtodoakeifdiidaaM
import Derived.Test.YtodoakeifdiidaaE5
set_option linter.unusedSimpArgs false
set_option linter.unusedVariables false
set_option maxRecDepth 10000
namespace Go.Proofs.Ytodoakeifdiidaa.G13
open Go Go.Proofs.Ytodoakeifdiidaa.Eng

structure Slot where
  b : Int
  d : Bool
  m : Bool
def slotR (s : Slot) : List AV := [.int .i64 s.b, .bool s.d, .bool s.m]
def slotCells (S : List Slot) : List AV := (S.map slotR).flatten
def none' : Slot := ⟨-1, false, false⟩
def sl (S : List Slot) (i : Nat) : Slot := (S[i]?).getD none'
theorem rows3 (S : List Slot) : ∀ r ∈ S.map slotR, r.length = 3 := fun r hr => by
  obtain ⟨s, _, rfl⟩ := List.mem_map.1 hr; rfl
theorem row_at {S : List Slot} {i : Nat} (h : i < S.length) : (S.map slotR)[i]? = some (slotR (sl S i)) := by
  unfold sl; rw [List.getElem?_map, List.getElem?_eq_getElem h]; rfl
theorem sl_set (S : List Slot) (i : Nat) (x : Slot) (j : Nat) (h : i < S.length) : sl (S.set i x) j = if j = i then x else sl S j := by
  unfold sl
  by_cases e : j = i
  · subst e; rw [if_pos rfl, List.getElem?_set_self h]; rfl
  · rw [if_neg e, List.getElem?_set_ne (fun q => e q.symm)]
theorem slot_b {S : List Slot} {i : Nat} (h : i < S.length) : (slotCells S)[i * 3]? = some (.int .i64 (sl S i).b) := rows_get (rows3 S) (row_at h) 0 (by omega)
theorem slot_d {S : List Slot} {i : Nat} (h : i < S.length) : (slotCells S)[i * 3 + 1]? = some (.bool (sl S i).d) := rows_get (rows3 S) (row_at h) 1 (by omega)
theorem slot_m {S : List Slot} {i : Nat} (h : i < S.length) : (slotCells S)[i * 3 + 2]? = some (.bool (sl S i).m) := rows_get (rows3 S) (row_at h) 2 (by omega)
theorem slot_len (S : List Slot) : (slotCells S).length = S.length * 3 := by unfold slotCells; rw [rows_len (rows3 S), List.length_map]
def hcells (hs : List Nat) : List AV := hs.map fun (n : Nat) => AV.int .i64 (n : Int)

/-- A map in a heap: its blocks, its numbers, its slots, its hands. -/
structure PM (H : AHeap) (p bs bh : Nat) (e : Bool) (sets ways : Nat) (S : List Slot) (hs : List Nat) : Prop where
  map : cellsOf H p = some [.int .i64 (sets : Int), .int .i64 (ways : Int), .sl bs 0 3 S.length S.length e, .sl bh 0 1 sets sets true]
  sl : H[bs]? = some (.rw (slotCells S))
  hd : H[bh]? = some (.rw (hcells hs))
  n1 : p ≠ bs
  n2 : p ≠ bh
  n3 : bs ≠ bh
  len : S.length = sets * ways
  hlen : hs.length = sets
  s1 : 1 ≤ sets
  s8 : sets ≤ 8
  w1 : 1 ≤ ways
  w4 : ways ≤ 4
  hw : ∀ h ∈ hs, h < ways
  ok : ∀ x ∈ S, -1 ≤ x.b
theorem at_lt {H : AHeap} {b : Nat} {k : ABlk} (h : H[b]? = some k) : b < H.length := (List.getElem?_eq_some_iff.1 h).1
def updS (H : AHeap) (bs : Nat) (S : List Slot) : AHeap := H.set bs (.rw (slotCells S))
def updH (H : AHeap) (bh : Nat) (hs : List Nat) : AHeap := H.set bh (.rw (hcells hs))
theorem PM.upS {H : AHeap} {p bs bh : Nat} {e : Bool} {sets ways : Nat} {S : List Slot} {hs : List Nat} (m : PM H p bs bh e sets ways S hs) {S' : List Slot} (hl : S'.length = S.length) (ok : ∀ x ∈ S', -1 ≤ x.b) : PM (updS H bs S') p bs bh e sets ways S' hs :=
  ⟨by unfold updS; rw [cells_set_ne _ _ _ _ m.n1, m.map, hl], at_set _ _ _ (at_lt m.sl), by unfold updS; rw [at_set_ne _ _ _ _ m.n3.symm, m.hd], m.n1, m.n2, m.n3, hl.trans m.len, m.hlen, m.s1, m.s8, m.w1, m.w4, m.hw, ok⟩
theorem PM.upH {H : AHeap} {p bs bh : Nat} {e : Bool} {sets ways : Nat} {S : List Slot} {hs : List Nat} (m : PM H p bs bh e sets ways S hs) {hs' : List Nat} (hl : hs'.length = hs.length) (ok : ∀ h ∈ hs', h < ways) : PM (updH H bh hs') p bs bh e sets ways S hs' :=
  ⟨by unfold updH; rw [cells_set_ne _ _ _ _ m.n2, m.map], by unfold updH; rw [at_set_ne _ _ _ _ m.n3, m.sl], at_set _ _ _ (at_lt m.hd), m.n1, m.n2, m.n3, m.len, hl.trans m.hlen, m.s1, m.s8, m.w1, m.w4, ok, m.ok⟩
theorem PM.keep {H H' : AHeap} {p bs bh : Nat} {e : Bool} {sets ways : Nat} {S : List Slot} {hs : List Nat} (m : PM H p bs bh e sets ways S hs) {B : List Nat} (k : KeepB H H' B) (h1 : p ∉ B) (h2 : bs ∉ B) (h3 : bh ∉ B) : PM H' p bs bh e sets ways S hs :=
  ⟨by rw [k.cells h1, m.map], by rw [k.2 _ h2, m.sl], by rw [k.2 _ h3, m.hd], m.n1, m.n2, m.n3, m.len, m.hlen, m.s1, m.s8, m.w1, m.w4, m.hw, m.ok⟩
theorem PM.adds {H H' : AHeap} {p bs bh : Nat} {e : Bool} {sets ways : Nat} {S : List Slot} {hs : List Nat} (m : PM H p bs bh e sets ways S hs) (a : Adds H H') : PM H' p bs bh e sets ways S hs := by
  obtain ⟨G, rfl⟩ := a
  exact ⟨cells_old m.map, by rw [List.getElem?_append_left (at_lt m.sl), m.sl], by rw [List.getElem?_append_left (at_lt m.hd), m.hd], m.n1, m.n2, m.n3, m.len, m.hlen, m.s1, m.s8, m.w1, m.w4, m.hw, m.ok⟩
theorem keepS (H : AHeap) (bs bh : Nat) (S : List Slot) : KeepB H (updS H bs S) [bs, bh] := KeepB.set _ _ _ _ (by simp)
theorem keepH (H : AHeap) (bs bh : Nat) (hs : List Nat) : KeepB H (updH H bh hs) [bs, bh] := KeepB.set _ _ _ _ (by simp)
/-- Writing a field of a slot. -/
theorem put_d {H : AHeap} {bs : Nat} {S : List Slot} (h : H[bs]? = some (.rw (slotCells S))) {i : Nat} (hi : i < S.length) (v : Bool) : writeN H bs (i * 3 + 1) [.bool v] = some (updS H bs (S.set i { sl S i with d := v })) := by
  rw [write_cell h (rows3 S) (row_at hi) (by omega) rfl]
  unfold updS slotCells; rw [List.map_set]; rfl
theorem put_m {H : AHeap} {bs : Nat} {S : List Slot} (h : H[bs]? = some (.rw (slotCells S))) {i : Nat} (hi : i < S.length) (v : Bool) : writeN H bs (i * 3 + 2) [.bool v] = some (updS H bs (S.set i { sl S i with m := v })) := by
  rw [write_cell h (rows3 S) (row_at hi) (by omega) rfl]
  unfold updS slotCells; rw [List.map_set]; rfl
theorem put_b {H : AHeap} {bs : Nat} {S : List Slot} (h : H[bs]? = some (.rw (slotCells S))) {i : Nat} (hi : i < S.length) (v : Int) : writeN H bs (i * 3) [.int .i64 v] = some (updS H bs (S.set i { sl S i with b := v })) := by
  have := write_cell (f := 0) (v := .int .i64 v) h (rows3 S) (row_at hi) (by omega) rfl
  rw [Nat.add_zero] at this
  rw [this]
  unfold updS slotCells; rw [List.map_set]; rfl
theorem put_row {H : AHeap} {bs : Nat} {S : List Slot} (h : H[bs]? = some (.rw (slotCells S))) {i : Nat} (hi : i < S.length) (x : Slot) : writeN H bs (i * 3) [.int .i64 x.b, .bool x.d, .bool x.m] = some (updS H bs (S.set i x)) := by
  rw [write_row h (rows3 S) (row_at hi) rfl (by omega) rfl]
  unfold updS slotCells; rw [List.map_set]; rfl
theorem put_h {H : AHeap} {bh : Nat} {hs : List Nat} (h : H[bh]? = some (.rw (hcells hs))) {s : Nat} (hi : s < hs.length) (v : Nat) : writeN H bh s [.int .i64 (v : Int)] = some (updH H bh (hs.set s v)) := by
  rw [write_of h, if_pos ⟨by unfold hcells; simp; omega, rfl⟩, splice_one]
  unfold updH hcells; rw [List.map_set]
theorem get_h {hs : List Nat} {s : Nat} (hi : s < hs.length) : (hcells hs)[s]? = some (.int .i64 ((hs[s]'hi : Nat) : Int)) := by
  unfold hcells; rw [List.getElem?_map, List.getElem?_eq_getElem hi]; rfl

section
variable {H : AHeap} {p bs bh : Nat} {e : Bool} {sets ways : Nat} {S : List Slot} {hs : List Nat} (m : PM H p bs bh e sets ways S hs)
include m
set_option maxHeartbeats 1000000 in
theorem setC (blk : Int) : (envL prog).call 30 [.ptr p 0, .int .i64 blk] H = some (.tup [.int .i64 (if blk < 0 then 0 else blk.tmod sets), .bool (!decide (blk < 0))], H) := by
  have hm := m.map
  have h1 := m.s1
  have hr := int_rem .none .i64 blk sets (by omega)
  rw [c30]
  unfold b30
  by_cases h : blk < 0
  · have d : decide (blk < 0) = true := decide_eq_true h
    simp -implicitDefEqProofs (maxSteps := 5000000) only [go_sem, Nat.reduceShiftRight, Nat.reduceAnd, Nat.reduceBNe, Int.reduceEq, Nat.reduceAdd, Nat.reduceSub, Nat.reduceMul, Nat.reduceLeDiff, reduceIte, reduceCtorEq, Nat.reduceBEq, Nat.reduceEqDiff, go_sem, hm, hr, d, h]
  · have d : decide (blk < 0) = false := decide_eq_false h
    simp -implicitDefEqProofs (maxSteps := 5000000) only [go_sem, Nat.reduceShiftRight, Nat.reduceAnd, Nat.reduceBNe, Int.reduceEq, Nat.reduceAdd, Nat.reduceSub, Nat.reduceMul, Nat.reduceLeDiff, reduceIte, reduceCtorEq, Nat.reduceBEq, Nat.reduceEqDiff, go_sem, hm, hr, d, h]
set_option maxHeartbeats 1000000 in
theorem slotC (i : Nat) (hi : i < S.length) : (envL prog).call 31 [.ptr p 0, .int .i64 (i : Int)] H = some (.ptr bs (i * 3), H) := by
  have hm := m.map
  have ix := idx_nat bs 3 S.length S.length i e .i64 (by omega) hi
  have d1 : decide ((i : Int) < 0) = false := decide_eq_false (by omega)
  have d2 : decide ((i : Int) ≥ (S.length : Int)) = false := decide_eq_false (by omega)
  have u := at_lt m.sl
  have hu : (AV.ptr bs (i * 3)).under H.length = true := by simp [AV.under, u]
  rw [c31]
  unfold b31
  simp -implicitDefEqProofs (maxSteps := 5000000) only [go_sem, Nat.reduceShiftRight, Nat.reduceAnd, Nat.reduceBNe, Int.reduceEq, Nat.reduceAdd, Nat.reduceSub, Nat.reduceMul, Nat.reduceLeDiff, reduceIte, reduceCtorEq, Nat.reduceBEq, Nat.reduceEqDiff, go_sem, hm, d1, d2, ix, hu]
set_option maxHeartbeats 1000000 in
theorem slotN (i : Int) (hi : i < 0 ∨ i ≥ S.length) : (envL prog).call 31 [.ptr p 0, .int .i64 i] H = some (.nilPtr, H) := by
  have hm := m.map
  rw [c31]
  unfold b31
  by_cases h : i < 0
  · have d1 : decide (i < 0) = true := decide_eq_true h
    simp -implicitDefEqProofs (maxSteps := 5000000) only [go_sem, Nat.reduceShiftRight, Nat.reduceAnd, Nat.reduceBNe, Int.reduceEq, Nat.reduceAdd, Nat.reduceSub, Nat.reduceMul, Nat.reduceLeDiff, reduceIte, reduceCtorEq, Nat.reduceBEq, Nat.reduceEqDiff, go_sem, hm, d1]
  · have d1 : decide (i < 0) = false := decide_eq_false h
    have d2 : decide (i ≥ (S.length : Int)) = true := decide_eq_true (by omega)
    simp -implicitDefEqProofs (maxSteps := 5000000) only [go_sem, Nat.reduceShiftRight, Nat.reduceAnd, Nat.reduceBNe, Int.reduceEq, Nat.reduceAdd, Nat.reduceSub, Nat.reduceMul, Nat.reduceLeDiff, reduceIte, reduceCtorEq, Nat.reduceBEq, Nat.reduceEqDiff, go_sem, hm, d1, d2]
set_option maxHeartbeats 1000000 in
theorem stepC (s : Nat) (hs' : s < sets) : ∃ h, hs[s]? = some h ∧ h < ways ∧ s * ways + h < S.length ∧ (envL prog).call 32 [.ptr p 0, .int .i64 (s : Int)] H = some (.int .i64 ((s * ways + h : Nat) : Int), updH H bh (hs.set s ((h + 1) % ways))) := by
  have hm := m.map
  have hl := m.hlen
  have w1 := m.w1
  have w4 := m.w4
  have s8 := m.s8
  have hlt : s < hs.length := by omega
  have hh := m.hw _ (List.getElem_mem hlt)
  have hmul : (s + 1) * ways ≤ sets * ways := Nat.mul_le_mul_right ways hs'
  rw [Nat.add_mul, Nat.one_mul] at hmul
  have hcap : sets * ways ≤ 8 * 4 := Nat.mul_le_mul s8 w4
  have ix := idx_nat bh 1 sets sets s true .i64 (by omega) hs'
  rw [Nat.mul_one] at ix
  have hc := cells_rw m.hd
  have hg := get_h hlt
  have hw := put_h m.hd hlt ((hs[s]'hlt + 1) % ways)
  have hr := int_rem .none .i64 ((hs[s]'hlt + 1 : Nat) : Int) ways (by omega)
  rw [show ((hs[s]'hlt + 1 : Nat) : Int).tmod (ways : Int) = (((hs[s]'hlt + 1) % ways : Nat) : Int) from (Int.ofNat_tmod _ _).symm] at hr
  have ew : IntKind.i64.wrap ((hs[s]'hlt : Nat) + 1 : Int) = ((hs[s]'hlt + 1 : Nat) : Int) := by rw [wrap64 (by omega) (by omega)]; omega
  have em : IntKind.i64.wrap ((s : Int) * (ways : Int)) = ((s * ways : Nat) : Int) := by rw [← Int.natCast_mul, wrap64 (by omega) (by omega)]
  have ea : IntKind.i64.wrap (((s * ways : Nat) : Int) + ((hs[s]'hlt : Nat) : Int)) = ((s * ways + hs[s]'hlt : Nat) : Int) := by rw [wrap64 (by omega) (by omega)]; omega
  have hm2 : cellsOf (updH H bh (hs.set s ((hs[s]'hlt + 1) % ways))) p = cellsOf H p := cells_set_ne _ _ _ _ m.n2
  have t := (keepH H bs bh (hs.set s ((hs[s]'hlt + 1) % ways))).trim
  refine ⟨hs[s]'hlt, List.getElem?_eq_getElem hlt, hh, by rw [m.len]; omega, ?_⟩
  rw [c32]
  unfold b32
  simp -implicitDefEqProofs (maxSteps := 5000000) only [go_sem, Nat.reduceShiftRight, Nat.reduceAnd, Nat.reduceBNe, Int.reduceEq, Nat.reduceAdd, Nat.reduceSub, Nat.reduceMul, Nat.reduceLeDiff, reduceIte, reduceCtorEq, Nat.reduceBEq, Nat.reduceEqDiff, go_sem, store_one, cellsA_int, hm, hm2, ix, hc, hg, hw, hr, ew, em, ea, t]
end
end Go.Proofs.Ytodoakeifdiidaa.G13

