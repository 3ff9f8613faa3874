/- What the functions that RigPlays reaches answer, for every argument. No condition but those in each statement. -/
import Derived.Test.YthjkfincekckhaaR8
import Derived.Test.YthjkfincekckhaaFI
import Derived.Test.YthjkfincekckhaaMO
set_option linter.unusedSimpArgs false
set_option linter.unusedVariables false
set_option linter.unusedSectionVars false
set_option maxRecDepth 10000
namespace Go.Proofs.Ythjkfincekckhaa.G04
open Go Go.Proofs.Ythjkfincekckhaa.Eng
theorem known : (knows 9).Ok prog := knows_ok (n := 14) (by kernel_rfl)
noncomputable abbrev EO := envO prog (knows 9)
noncomputable abbrev LP (l : Env → CT) := (envL prog).loop (runC (envO prog (knows 9)) (l (envO prog (knows 9))))
def fz (v : Int) : List Int := List.replicate 64 v
theorem fz_ok {v : Int} (h : 0 ≤ v ∧ v ≤ 255) : B64 (fz v) := B64.fill h
theorem fillU (v : Int) (h : AHeap) : (envL prog).call 13 [.int .u8 v] h = some (.agg (u8s (fz v)), h) := by
  unfold fz; rw [← rep_u8s]; exact fillC v h
/-- A step's cells. -/
def stepSh : List Sh := [.int .i64, .int .i64, .int .i64, .int .u8, .sl [.int .u8], .sl [.int .u8]]
theorem step_dat {h : AHeap} {r : List AV} (d : DatR h stepSh r) : ∃ k dev i v a b, r = [.int .i64 k, .int .i64 dev, .int .i64 i, .int .u8 v, a, b] ∧ IntKind.i64.has k ∧ IntKind.i64.has dev ∧ IntKind.i64.has i ∧ (0 ≤ v ∧ v ≤ 255) ∧ DatC h (.sl [.int .u8]) a ∧ DatC h (.sl [.int .u8]) b := by
  cases d with
  | cons d1 d => cases d with
    | cons d2 d => cases d with
      | cons d3 d => cases d with
        | cons d4 d => cases d with
          | cons d5 d => cases d with
            | cons d6 d => cases d with
              | nil =>
                cases d1 with
                | int n1 => cases d2 with
                  | int n2 => cases d3 with
                    | int n3 => cases d4 with
                      | int n4 => exact ⟨_, _, _, _, _, _, rfl, n1, n2, n3, n4, d5, d6⟩
theorem datc_sl {h : AHeap} {e : List Sh} {v : AV} (d : DatC h (.sl e) v) : IsSl v := by
  cases d with
  | nil => exact .inl rfl
  | sl => exact .inr ⟨_, _, _, _, _, _, rfl⟩
theorem datc_lt {h : AHeap} {e : List Sh} {v : AV} (d : DatC h (.sl e) v) : ∀ b, slb v = some b → b < h.length := by
  intro b hb
  cases d with
  | nil => cases hb
  | sl hn hc hr => injection hb with hb; subst hb; exact lt_of_cells hc
/-- A step whose picks are few. -/
def FairRow (r : List AV) : Prop := ∀ k, k = 4 ∨ k = 5 → ∀ n : Int, lenSl (getT r k) = some (.int .i64 n) → n ≤ 300
set_option maxHeartbeats 2000000 in
theorem fairL {H : AHeap} {vl : AV} {rows : List (List AV)} (rs : RS 6 H vl rows) (rd : ∀ r ∈ rows, DatR H stepSh r) (hn : rows.length ≤ 9223372036854775807) (x1 x26 x27 x28 : AV) : ∀ (k i : Nat) (j4 j5 j6 j7 j8 j9 j10 j11 j12 j13 j14 j15 j16 j17 j18 j19 j20 j21 j22 j23 j24 j25 : AV), i + k = rows.length →
    Outs (LQ l8x0 [vl, x1, .bool false, .int .i64 (i : Int), j4, j5, j6, j7, j8, j9, j10, j11, j12, j13, j14, j15, j16, j17, j18, j19, j20, j21, j22, j23, j24, j25, x26, x27, x28] H) fun e t H' => ((e = .exit 0 ∧ ∀ j r, i ≤ j → rows[j]? = some r → FairRow r) ∨ e = .ret) ∧ H' = H ∧ ∃ k : Nat → AV, t = [vl, x1, .bool false, (k 3), (k 4), (k 5), (k 6), (k 7), (k 8), (k 9), (k 10), (k 11), (k 12), (k 13), (k 14), (k 15), (k 16), (k 17), (k 18), (k 19), (k 20), (k 21), (k 22), (k 23), (k 24), (k 25), x26, x27, x28] := by
  intro k
  obtain ⟨L, hL⟩ : ∃ L, L = LQ l8x0 := ⟨_, rfl⟩
  have lo := loop_open hL
  rw [← hL]
  have hl := rs.len
  induction k with
  | zero =>
    intro i j4 j5 j6 j7 j8 j9 j10 j11 j12 j13 j14 j15 j16 j17 j18 j19 j20 j21 j22 j23 j24 j25 hi
    obtain rfl : i = rows.length := by omega
    have hd : decide ((rows.length : Int) < (rows.length : Int)) = false := by simp
    rw [lo]
    unfold l8x0
    simp -implicitDefEqProofs (maxSteps := 5000000) only [go_sem, Nat.reduceShiftRight, Nat.reduceAnd, Nat.reduceBNe, Int.reduceEq, Nat.reduceAdd, Nat.reduceSub, Nat.reduceMul, Nat.reduceLeDiff, reduceIte, reduceCtorEq, Nat.reduceBEq, Nat.reduceEqDiff, hl, hd, seqR_exit', outs_normal]
    refine ⟨.inl (fun j r hj hr => ?_), exF rfl⟩
    have := (List.getElem?_eq_some_iff.1 hr).1
    omega
  | succ k ih =>
    intro i j4 j5 j6 j7 j8 j9 j10 j11 j12 j13 j14 j15 j16 j17 j18 j19 j20 j21 j22 j23 j24 j25 hi
    have hlt : i < rows.length := by omega
    have hd : decide ((i : Int) < (rows.length : Int)) = true := decide_eq_true (by omega)
    have e2 : IntKind.i64.wrap ((i : Int) + 1) = ((i + 1 : Nat) : Int) := by rw [wrap64 (by omega) (by omega)]; omega
    obtain ⟨r, hr⟩ : ∃ r, rows[i]? = some r := ⟨_, List.getElem?_eq_getElem hlt⟩
    obtain ⟨s0, s1, s2, s3, s4, s5, rfl, w0, w1, w2, w3, f4, f5⟩ := step_dat (rd r (List.mem_of_getElem? hr))
    obtain ⟨b, cs, ix, hc0, hg, _, hsz, htk⟩ := rs.idx (by omega) hr .i64
    have g4 : cs[i * 6 + 4]? = some s4 := hg 4 (by omega)
    have g5 : cs[i * 6 + 5]? = some s5 := hg 5 (by omega)
    obtain ⟨n4, l4⟩ := (datc_sl f4).len
    obtain ⟨n5, l5⟩ := (datc_sl f5).len
    rw [lo]
    unfold l8x0
    by_cases h4 : (n4 : Int) > 300
    · have d4 := decide_eq_true h4
      simp -implicitDefEqProofs (maxSteps := 5000000) only [go_sem, Nat.reduceShiftRight, Nat.reduceAnd, Nat.reduceBNe, Int.reduceEq, Nat.reduceAdd, Nat.reduceSub, Nat.reduceMul, Nat.reduceLeDiff, reduceIte, reduceCtorEq, Nat.reduceBEq, Nat.reduceEqDiff, hl, hd, e2, ix, hc0, g4, l4, d4, seqR_exit', blockR_ret, outs_normal, or_true]
      exact exF rfl
    have d4 := decide_eq_false h4
    by_cases h5 : (n5 : Int) > 300
    · have d5 := decide_eq_true h5
      simp -implicitDefEqProofs (maxSteps := 5000000) only [go_sem, Nat.reduceShiftRight, Nat.reduceAnd, Nat.reduceBNe, Int.reduceEq, Nat.reduceAdd, Nat.reduceSub, Nat.reduceMul, Nat.reduceLeDiff, reduceIte, reduceCtorEq, Nat.reduceBEq, Nat.reduceEqDiff, hl, hd, e2, ix, hc0, g4, g5, l4, l5, d4, d5, seqR_exit', blockR_ret, outs_normal, or_true]
      exact exF rfl
    have d5 := decide_eq_false h5
    simp -implicitDefEqProofs (maxSteps := 5000000) only [go_sem, Nat.reduceShiftRight, Nat.reduceAnd, Nat.reduceBNe, Int.reduceEq, Nat.reduceAdd, Nat.reduceSub, Nat.reduceMul, Nat.reduceLeDiff, reduceIte, reduceCtorEq, Nat.reduceBEq, Nat.reduceEqDiff, hl, hd, e2, ix, hc0, g4, g5, l4, l5, d4, d5]
    refine (ih (i + 1) _ _ _ _ _ _ _ _ _ _ _ _ _ _ _ _ _ _ _ _ _ _ (by omega)).mono ?_
    rintro e t H' ⟨he, q1, q2⟩
    refine ⟨he.imp_left fun ⟨he, hf⟩ => ⟨he, fun j r hj hrj => ?_⟩, q1, q2⟩
    by_cases e : j = i
    · subst e
      rw [hr] at hrj
      injection hrj with hrj
      subst hrj
      intro k hk n hl
      rcases hk with rfl | rfl
      · have : lenSl s4 = some (.int .i64 n) := hl
        rw [l4] at this; injection this with this; injection this with _ this; omega
      · have : lenSl s5 = some (.int .i64 n) := hl
        rw [l5] at this; injection this with this; injection this with _ this; omega
    · exact hf j r (by omega) hrj
theorem fairC {H : AHeap} {vl : AV} {rows : List (List AV)} (rs : RS 6 H vl rows) (rd : ∀ r ∈ rows, DatR H stepSh r) (hn : rows.length ≤ 9223372036854775807) : ∃ x, (envL prog).call 8 [vl] H = some (.bool x, H) ∧ (x = true → rows.length ≤ 200 ∧ ∀ r ∈ rows, FairRow r) := by
  have l0 := fairL rs rd hn (k := rows.length) (i := 0)
  rw [show ((0 : Nat) : Int) = 0 from rfl] at l0
  have hl := rs.len
  have o : Outs (runC (envL prog) (b8 (envL prog)) ([vl] ++ List.replicate (29 - [vl].length) .undef) H) fun e' t K' => ∃ x, (x = true → rows.length ≤ 200 ∧ ∀ r ∈ rows, FairRow r) ∧ K' = H ∧ fin [.tmp 2] (some (e', t, K')) = some (.bool x, K') := by
    unfold b8
    generalize hQ : (fun (e' : Ex) (t : T) (K' : AHeap) => ∃ x, (x = true → rows.length ≤ 200 ∧ ∀ r ∈ rows, FairRow r) ∧ K' = H ∧ fin [.tmp 2] (some (e', t, K')) = some (AV.bool x, K')) = Q
    simp -implicitDefEqProofs (maxSteps := 5000000) only [go_sem, Nat.reduceShiftRight, Nat.reduceAnd, Nat.reduceBNe, Int.reduceEq, Nat.reduceAdd, Nat.reduceSub, Nat.reduceMul, Nat.reduceLeDiff, reduceIte, reduceCtorEq, Nat.reduceBEq, Nat.reduceEqDiff, runC_loop]
    unfold LQ at l0
    generalize (envL prog).loop (runC (envL prog) (l8x0 (envL prog))) = L0 at l0 ⊢
    refine outs_ctx (fun r => seqR (blockR 0 r) _) (l0 _ _ _ _ _ _ _ _ _ _ _ _ _ _ _ _ _ _ _ _ _ _ _ _ _ _ (by omega)) ?_
    rintro e t H' ⟨he, rfl, k, rfl⟩
    rcases he with ⟨rfl, hfr⟩ | rfl
    · have dd : ∃ x, decide ((rows.length : Int) ≤ 200) = x := ⟨_, rfl⟩
      obtain ⟨x, dd⟩ := dd
      simp -implicitDefEqProofs (maxSteps := 5000000) only [go_sem, Nat.reduceShiftRight, Nat.reduceAnd, Nat.reduceBNe, Int.reduceEq, Nat.reduceAdd, Nat.reduceSub, Nat.reduceMul, Nat.reduceLeDiff, reduceIte, reduceCtorEq, Nat.reduceBEq, Nat.reduceEqDiff, hl, dd, outs_normal]
      subst hQ
      refine ⟨x, fun hx => ⟨?_, fun r hr => ?_⟩, rfl, ?_⟩
      · rw [hx] at dd; have := of_decide_eq_true dd; omega
      · obtain ⟨j, hj⟩ := List.getElem?_of_mem hr; exact hfr j r (Nat.zero_le _) hj
      · simp -implicitDefEqProofs (maxSteps := 5000000) only [go_sem, Nat.reduceShiftRight, Nat.reduceAnd, Nat.reduceBNe, Int.reduceEq, Nat.reduceAdd, Nat.reduceSub, Nat.reduceMul, Nat.reduceLeDiff, reduceIte, reduceCtorEq, Nat.reduceBEq, Nat.reduceEqDiff]
    · simp -implicitDefEqProofs (maxSteps := 5000000) only [go_sem, Nat.reduceShiftRight, Nat.reduceAnd, Nat.reduceBNe, Int.reduceEq, Nat.reduceAdd, Nat.reduceSub, Nat.reduceMul, Nat.reduceLeDiff, reduceIte, reduceCtorEq, Nat.reduceBEq, Nat.reduceEqDiff, outs_normal]
      subst hQ
      refine ⟨false, fun hx => (by cases hx), rfl, ?_⟩
      simp -implicitDefEqProofs (maxSteps := 5000000) only [go_sem, Nat.reduceShiftRight, Nat.reduceAnd, Nat.reduceBNe, Int.reduceEq, Nat.reduceAdd, Nat.reduceSub, Nat.reduceMul, Nat.reduceLeDiff, reduceIte, reduceCtorEq, Nat.reduceBEq, Nat.reduceEqDiff]
  obtain ⟨e', t, K', hr, x, hx, rfl, hf⟩ := o
  exact ⟨x, by rw [c8, hr, hf]; exact trim_same rfl, hx⟩
/-! ### A rig without a fuse -/
theorem wr_free {r : RgS} (h1 : r.fuse = -1) (h2 : r.down = false) : r.pass = ({ r with done := IntKind.i64.wrap (r.done + 1) }, 0) := by
  unfold RgS.pass
  rw [if_neg (by rw [h1, h2]; simp), h1]
  simp only [Int.reduceNeg, gt_iff_lt, Int.reduceLT, if_false]
theorem put_fields (r : RgS) (dev : Int) (l : List Sec) : (r.put dev l).fuse = r.fuse ∧ (r.put dev l).down = r.down ∧ (r.put dev l).done = r.done := by
  unfold RgS.put; split
  · exact ⟨rfl, rfl, rfl⟩
  · split <;> exact ⟨rfl, rfl, rfl⟩
theorem write_free {r : RgS} (h1 : r.fuse = -1) (h2 : r.down = false) (dev i : Int) (z : List Int) : ((r.write dev i z).2 = 0 ∧ (r.write dev i z).1.done = IntKind.i64.wrap (r.done + 1) ∧ (r.write dev i z).1.fuse = -1 ∧ (r.write dev i z).1.down = false) ∨ r.write dev i z = (r, 1) := by
  unfold RgS.write
  rw [wr_free h1 h2]
  split
  · simp only [if_true]
    refine .inl ⟨trivial, ?_⟩
    obtain ⟨q1, q2, q3⟩ := put_fields { r with done := IntKind.i64.wrap (r.done + 1) } dev ((r.dk dev).modify i.toNat fun s => ⟨s.there, s.vers ++ [z]⟩)
    exact ⟨q3, q1.trans h1, q2.trans h2⟩
  · exact .inr rfl
theorem flush_free {r : RgS} (h1 : r.fuse = -1) (h2 : r.down = false) (dev : Int) : ((r.flush dev).2 = 0 ∧ (r.flush dev).1.done = IntKind.i64.wrap (r.done + 1) ∧ (r.flush dev).1.fuse = -1 ∧ (r.flush dev).1.down = false) ∨ r.flush dev = (r, 1) := by
  unfold RgS.flush
  rw [wr_free h1 h2]
  split
  · simp only [if_true]
    refine .inl ⟨trivial, ?_⟩
    obtain ⟨q1, q2, q3⟩ := put_fields { r with done := IntKind.i64.wrap (r.done + 1) } dev ((r.dk dev).map settled)
    exact ⟨q3, q1.trans h1, q2.trans h2⟩
  · exact .inr rfl
theorem read_ok {H : AHeap} {p c : Nat} {r : RgS} {F : Nat → Prop} (m : RigIn H p c r F) (dev i : Int) : B64 (r.read dev i).1 := by
  obtain ⟨h1, h2, _, _⟩ := m.ok
  have z : B64 zeros64 := B64.zero
  unfold RgS.read
  split
  · split
    · exact z
    · have key : ∀ L : List Sec, (∀ s ∈ L, s.Ok) → B64 ((L[i.toNat]?).getD zsec).last := fun L hL => by
        cases hx : L[i.toNat]? with
        | none => exact zsec_ok.last
        | some s => exact (hL s (List.mem_of_getElem? hx)).last
      refine key _ ?_
      unfold RgS.dk
      split
      · exact h1
      · split
        · exact h2
        · intro s hs; cases hs
  · exact z
theorem ne_rep (n : Nat) (k : IntKind) (x : Int) : binV .neq (.flat n) (.agg (rep n (.int k x))) (.agg (rep n (.int k x))) = some (.bool false) := by
  have := eqCells_refl (rep n (.int k x)) (fun v hv => ⟨k, x, by simpa [rep] using (List.mem_replicate.1 hv).2⟩)
  simp [binV, eqV, rep_len, this]
end Go.Proofs.Ythjkfincekckhaa.G04

