/- What the functions that RigPlays reaches answer, for every argument. No condition but those in each statement. -/
import Derived.Test.YthjkfincekckhaaD2
import Derived.Test.YthjkfincekckhaaCB
import Derived.Test.YthjkfincekckhaaE6
set_option linter.unusedSimpArgs false
set_option linter.unusedVariables false
set_option linter.unusedSectionVars false
set_option maxRecDepth 10000
namespace Go.Proofs.Ythjkfincekckhaa.G04
open Go Go.Proofs.Ythjkfincekckhaa.Eng
set_option maxHeartbeats 2000000 in
theorem crashTail {G : AHeap} {p d c : Nat} {L : List (AV × Sec)} (m : DK G p d c L) {i : Nat} {x : AV × Sec} (hi : L[i]? = some x) {k : Nat} (hk : k < x.2.vers.length + 1) :
    ∃ z cs, (x.2.there :: x.2.vers)[k]? = some z ∧ B64 z ∧ (envL prog).call 48 [.sl (G.length + 1) 0 1 2 2 true] (G ++ [.rw (u8s x.2.there), .rw [.sl G.length 0 64 1 1 true, x.1]]) = some (.sl (G.length + 2) 0 64 (x.2.vers.length + 1) (x.2.vers.length + 1) false, G ++ [.rw (u8s x.2.there), .rw [.sl G.length 0 64 1 1 true, x.1], .rw cs]) ∧
      idxAddrS 64 (.sl (G.length + 2) 0 64 (x.2.vers.length + 1) (x.2.vers.length + 1) false) (.int .i64 (k : Int)) = some (.ptr (G.length + 2) (k * 64)) ∧ k * 64 + 64 ≤ cs.length ∧ (cs.drop (k * 64)).take 64 = u8s z ∧
      (envL prog).call 46 [.ptr d (i * 65), .agg (u8s z)] (G ++ [.rw (u8s x.2.there), .rw [.sl G.length 0 64 1 1 true, x.1], .rw cs]) = some (.tup [], setD (G ++ [.rw (u8s x.2.there), .rw [.sl G.length 0 64 1 1 true, x.1], .rw cs]) d (L.set i (.nilSl, ⟨z, []⟩))) := by
  obtain ⟨gv, ok, cap⟩ := m.vs.at hi
  have cb := m.vs.cb
  have hlen : (u8s x.2.there).length = 64 := by rw [u8s_len]; exact ok.t.1
  have s1 : Src 64 (G ++ [.rw (u8s x.2.there), .rw [.sl G.length 0 64 1 1 true, x.1]]) (.sl G.length 0 64 1 1 true) 1 (u8s x.2.there) := Src.block (by unfold cellsOf; simp) (by omega) (u8s_cell _)
  have ac : (verR x.2).flatten.all AV.isCell = true := by
    rw [List.all_eq_true]
    intro a ha
    obtain ⟨r, hr, ha⟩ := List.mem_flatten.1 ha
    obtain ⟨z, _, rfl⟩ := List.mem_map.1 hr
    exact List.all_eq_true.1 (u8s_cell z) a ha
  have vl : (verR x.2).length = x.2.vers.length := by unfold verR; simp
  have s2 := (gv.src (verR_len ok) ac).adds [.rw (u8s x.2.there), .rw [.sl G.length 0 64 1 1 true, x.1]]
  rw [vl] at s2
  have hz : (x.2.there :: x.2.vers)[k]? = some ((x.2.there :: x.2.vers)[k]'(by simpa using hk)) := List.getElem?_eq_getElem _
  generalize ((x.2.there :: x.2.vers)[k]'(by simpa using hk)) = z at hz
  have oz : B64 z := by
    rcases List.mem_cons.1 (List.mem_of_getElem? hz) with rfl | h
    · exact ok.t
    · exact ok.v z h
  have rows : ∀ r ∈ (x.2.there :: x.2.vers).map u8s, r.length = 64 := fun r hr => by
    obtain ⟨y, hy, rfl⟩ := List.mem_map.1 hr
    rw [u8s_len]
    rcases List.mem_cons.1 hy with rfl | h
    · exact ok.t.1
    · exact (ok.v y h).1
  obtain ⟨q1, q2⟩ := rows_sub rows (get_map u8s hz) 0 64 (by omega)
  rw [Nat.add_zero] at q1 q2
  rw [List.drop_zero, u8s_take oz.1] at q1
  obtain ⟨l, H', ho, e⟩ := concatB (H := G ++ [.rw (u8s x.2.there), .rw [.sl G.length 0 64 1 1 true, x.1]]) (a := G.length + 1) (Xs := [(.sl G.length 0 64 1 1 true, 1, u8s x.2.there), (x.1, x.2.vers.length, (verR x.2).flatten)]) (by unfold cellsOf; simp) (by
      intro y hy
      simp only [List.mem_cons, List.not_mem_nil, or_false] at hy
      rcases hy with rfl | rfl
      · exact s1
      · exact s2) (by unfold totB; simp; omega) (by simp)
  have et : totB [(.sl G.length 0 64 1 1 true, 1, u8s x.2.there), (x.1, x.2.vers.length, (verR x.2).flatten)] = x.2.vers.length + 1 := by unfold totB; simp; omega
  rw [et] at ho
  rcases ho with ⟨h0, _⟩ | ⟨_, rfl, rfl⟩
  · omega
  refine ⟨z, _, hz, oz, ?_, idx_nat _ 64 _ _ k false .i64 (by omega) hk, q2, q1, settleC (m.fr (Fr.adds ⟨_, rfl⟩ (fun _ => False)) (fun _ _ h => h)) hi oz⟩
  rw [show ([(AV.sl G.length 0 64 1 1 true, 1, u8s x.2.there), (x.1, x.2.vers.length, (verR x.2).flatten)] : List (AV × Nat × List AV)).length = 2 from rfl] at e
  rw [e]
  simp [catB, verR]
set_option maxHeartbeats 4000000 in
theorem crashRound {H : AHeap} {p d c : Nat} {L : List (AV × Sec)} {zs : List Int} {i : Nat} {K : AHeap} {t : T} (hd : d < H.length) (hp : p < H.length) (ht : t.length = 43) (ht3 : getT t 3 = .ptr H.length 0) (y : CrI H p d c L zs (.loop ⟨.ready, .normal, t, [9, 10], kaq40x0, kbq40x0⟩) i i K) {x : AV × Sec} (hx : L[i]? = some x) (hx2 : (crL L zs i)[i]? = some x) (h1 : x.2.vers ≠ []) :
    ∃ K', CrI H p d c L zs (.loop ⟨.ready, .normal, t, [9, 10], kaq40x0, kbq40x0⟩) (i + 1) (i + 1) K' ∧ (envL prog).yield (H.length + 2) [.int .i64 (i : Int), .ptr d (i * 65)] K = some (.bool true, K') := by
  have kl := y.len
  obtain ⟨_, hR⟩ := crashS_get (zs := zs) (get_map (fun y : AV × Sec => y.2) hx)
  have f1 : Fr K (K.set (H.length + 2) (.loop ⟨.busy, .normal, t, [9, 10], kaq40x0, kbq40x0⟩)) (· = H.length + 2) := Fr.set _ _ rfl
  have nf : ∀ b, fpD p d (crL L zs i) b → ¬ (b = H.length + 2) := fun b hb => by
    rcases hb with rfl | rfl | ⟨x', hx', hb⟩
    · omega
    · omega
    · rcases y.dk.vs.ver x' hx' with ⟨_, h0⟩ | ⟨_, b', _, h0, hH⟩
      · rw [h0] at hb; cases hb
      · rw [h0] at hb; injection hb with hb; subst hb
        intro e; subst e
        rw [y.lp] at hH; cases hH
  obtain ⟨w, w1, w2, w3, w4, w5⟩ := y.pk
  have m1 := y.dk.fr f1 nf
  have l1 : (K.set (H.length + 2) (.loop ⟨.busy, .normal, t, [9, 10], kaq40x0, kbq40x0⟩)).length = H.length + 3 := by rw [List.length_set]; exact kl
  have b1 : (K.set (H.length + 2) (.loop ⟨.busy, .normal, t, [9, 10], kaq40x0, kbq40x0⟩))[H.length + 2]? = some (.loop ⟨.busy, .normal, t, [9, 10], kaq40x0, kbq40x0⟩) := at_set _ _ _ (by omega)
  have p1 : (K.set (H.length + 2) (.loop ⟨.busy, .normal, t, [9, 10], kaq40x0, kbq40x0⟩))[H.length]? = some (.rw [w]) := by rw [at_set_ne _ _ _ _ (by omega)]; exact w1
  have bx1 : cellsOf (K.set (H.length + 2) (.loop ⟨.busy, .normal, t, [9, 10], kaq40x0, kbq40x0⟩)) (H.length + 1) = some [.ptr p 0] := by rw [cells_set_ne _ _ _ _ (by omega)]; exact y.bx
  have o1 : ∀ b, b < H.length → b ≠ d → (K.set (H.length + 2) (.loop ⟨.busy, .normal, t, [9, 10], kaq40x0, kbq40x0⟩))[b]? = H[b]? := fun b hb hne => by rw [at_set_ne _ _ _ _ (by omega)]; exact y.old b hb hne
  have st := fun {ex : Ex} {t2 : T} {K2 : AHeap} (hb : runC (envL prog) (bq40x0 (envL prog)) (((t.set 9 (.int .i64 (i : Int))).set 10 (.ptr d (i * 65))).set 5 (.ptr d (i * 65))) (K.set (H.length + 2) (.loop ⟨.busy, .normal, t, [9, 10], kaq40x0, kbq40x0⟩)) = some (ex, t2, K2)) (h2 : K2[H.length + 2]? = some (.loop ⟨.busy, .normal, t, [9, 10], kaq40x0, kbq40x0⟩)) =>
    yield_step (P := prog) (l := H.length + 2) (args := [.int .i64 (i : Int), .ptr d (i * 65)]) (K := K) (eaq40x0 _) (ebq40x0 _) y.lp rfl (t1 := ((t.set 9 (.int .i64 (i : Int))).set 10 (.ptr d (i * 65))).set 5 (.ptr d (i * 65))) (by
      unfold aq40x0
      simp -implicitDefEqProofs (maxSteps := 5000000) only [go_sem, Nat.reduceShiftRight, Nat.reduceAnd, Nat.reduceBNe, Int.reduceEq, Nat.reduceAdd, Nat.reduceSub, Nat.reduceMul, Nat.reduceLeDiff, reduceIte, reduceCtorEq, Nat.reduceBEq, Nat.reduceEqDiff, putParams, getT_set, ht, List.length_set, Nat.reduceLT]) hb h2
  generalize hK1 : K.set (H.length + 2) (.loop ⟨.busy, .normal, t, [9, 10], kaq40x0, kbq40x0⟩) = K1 at *
  obtain ⟨gv, ok, cap⟩ := m1.vs.at hx2
  have cb := m1.vs.cb
  obtain ⟨hvl, hr⟩ := ver_read gv ok
  obtain ⟨cs, hc, hv, hle, htk, _⟩ := m1.row hx2
  have hca : cellsA x.1 = some [x.1] := by
    rcases hr with ⟨z0, _⟩ | ⟨b, cs2, z, hz, z1, _⟩
    · exact absurd z0 h1
    · rw [z1]; rfl
  have l64 := ok.t.1
  have w64 : (u8s x.2.there).length = 64 := by rw [u8s_len]; exact l64
  have sp := splice_u8 (.int .u8 0) l64 (by omega)
  have hbs : BS K1 w (crashR (L.map (·.2)) zs i) := by
    rcases w2 with h | ⟨b, o, l, e, C, rfl, hC, h⟩
    · exact .inl h
    · obtain ⟨q1, q2⟩ := w4 b rfl
      exact .inr ⟨b, o, l, e, C, rfl, by rw [cells_congr (o1 b q1 q2)]; exact hC, h⟩
  have hwl := hbs.len
  have hkp := cells_rw p1
  cases hz : crashR (L.map (·.2)) zs i with
  | nil =>
    rw [hz] at hwl
    obtain ⟨z, C, z1, z2, ct, ix, hle2, htk2, se⟩ := crashTail m1 hx2 (k := 0) (by omega)
    have ob : Outs (runC (envL prog) (bq40x0 (envL prog)) (((t.set 9 (.int .i64 (i : Int))).set 10 (.ptr d (i * 65))).set 5 (.ptr d (i * 65))) K1) fun e _ K' => e = .normal ∧ K' = setD (K1 ++ [.rw (u8s x.2.there), .rw [.sl K1.length 0 64 1 1 true, x.1], .rw C]) d ((crL L zs i).set i (.nilSl, ⟨z, []⟩)) := by
      have d0 : decide ((0 : Int) > 0) = false := rfl
      rw [List.length_nil] at hwl
      rw [show ((0 : Nat) : Int) = 0 from rfl] at hwl ix
      rw [Nat.zero_mul, Nat.zero_add] at hle2
      rw [Nat.zero_mul, List.drop_zero] at htk2
      unfold bq40x0
      simp -implicitDefEqProofs (maxSteps := 5000000) only [go_sem, Nat.reduceShiftRight, Nat.reduceAnd, Nat.reduceBNe, Int.reduceEq, Nat.reduceAdd, Nat.reduceSub, Nat.reduceMul, Nat.reduceLeDiff, reduceIte, reduceCtorEq, Nat.reduceBEq, Nat.reduceEqDiff, getT_set, ht, ht3, List.length_set, Nat.reduceLT, hkp, hwl, d0, hc, cells_old hc, hv, hle, htk, w64, sp, hca, ct, ix, hle2, htk2, se, Nat.zero_mul, outs_normal]
    obtain ⟨e, t2, K2, er, rfl, rfl⟩ := ob
    have g : CrI H p d c L zs (.loop ⟨.busy, .normal, t, [9, 10], kaq40x0, kbq40x0⟩) i (i + 1) K1 := by
      have e : crashR (L.map (·.2)) zs (i + 1) = crashR (L.map (·.2)) zs i := by
        rw [hR]; unfold crashZ; rw [if_neg h1, hz]; rfl
      exact ⟨l1, b1, bx1, ⟨w, p1, by rw [e]; exact w2, w3, w4, by rw [e]; exact w5⟩, m1, o1⟩
    obtain ⟨K', yk, e2⟩ := CrI.end (B := [.rw (u8s x.2.there), .rw [.sl K1.length 0 64 1 1 true, x.1], .rw C]) hd hp y g hx hx2 z2 (by
      unfold crashSec
      rw [if_neg h1, hz]
      show (⟨((x.2.there :: x.2.vers)[0]?).getD [], []⟩ : Sec) = _
      rw [z1]; rfl)
    refine ⟨K', yk, (st er ?_).trans e2⟩
    unfold setD
    rw [at_set_ne _ _ _ _ (by omega), List.getElem?_append_left (by omega), b1]
  | cons z0 R =>
    rw [hz] at hwl hbs
    have hu0 : 0 ≤ z0 ∧ z0 ≤ 255 := by rw [hz] at w5; exact w5 z0 (by simp)
    rw [hz] at w2
    obtain ⟨w', s1, s2, s3, s4, s5, s6⟩ := w2.tail w3
    obtain ⟨ad, ia, la⟩ := hbs.idx (i := 0) (z := z0) rfl .i64
    rw [show ((0 : Nat) : Int) = 0 from rfl] at ia
    have nv : 0 < x.2.vers.length := by cases hq : x.2.vers with | nil => exact absurd hq h1 | cons _ _ => simp
    have md0 := Int.emod_nonneg z0 (show ((x.2.vers.length : Int) + 1) ≠ 0 by omega)
    have md1 := Int.emod_lt_of_pos z0 (show 0 < ((x.2.vers.length : Int) + 1) by omega)
    obtain ⟨k, hk⟩ : ∃ k : Nat, z0 % ((x.2.vers.length : Int) + 1) = k := ⟨(z0 % ((x.2.vers.length : Int) + 1)).toNat, by omega⟩
    have hrem : binV .rem .none (.int .i64 z0) (.int .i64 ((x.2.vers.length + 1 : Nat) : Int)) = some (.int .i64 (k : Int)) := by
      rw [int_rem _ _ _ _ (by omega), Int.tmod_eq_emod_of_nonneg hu0.1, ← hk]; rfl
    have wz : IntKind.i64.wrap z0 = z0 := wrap64 (by omega) (by omega)
    have wn : IntKind.i64.wrap ((x.2.vers.length : Int) + 1) = ((x.2.vers.length + 1 : Nat) : Int) := by rw [wrap64 (by omega) (by omega)]; omega
    obtain ⟨nn, hnn⟩ : ∃ nn : Nat, nn = (z0 :: R).length := ⟨_, rfl⟩
    have hn1 : 1 ≤ nn := by rw [hnn]; simp
    rw [← hnn] at hwl
    have hd0 : decide ((nn : Int) > 0) = true := decide_eq_true (by omega)
    have wr : writeN K1 H.length 0 [w'] = some (K1.set H.length (.rw [w'])) := by
      rw [write_of p1, if_pos ⟨by simp, by simp [s5]⟩, splice_one]; rfl
    have f3 : Fr K1 (K1.set H.length (.rw [w'])) (· = H.length) := Fr.set _ _ rfl
    have m3 := m1.fr f3 fun b hb => by
      rcases hb with rfl | rfl | ⟨x', hx', hb⟩
      · omega
      · omega
      · rcases m1.vs.ver x' hx' with ⟨_, h0⟩ | ⟨h0', b', _, h0, hH⟩
        · rw [h0] at hb; cases hb
        · rw [h0] at hb; injection hb with hb; subst hb
          intro e; subst e
          rw [p1] at hH
          injection hH with hH; injection hH with hH
          have := congrArg List.length hH
          rw [rows_len (verR_len (m1.vs.ok x' hx'))] at this
          simp only [List.length_cons, List.length_nil] at this
          have pos : 1 ≤ (verR x'.2).length := by cases hq : verR x'.2 with | nil => exact absurd hq h0' | cons _ _ => simp
          omega
    have l3 : (K1.set H.length (.rw [w'])).length = H.length + 3 := by rw [List.length_set]; exact l1
    have p3 : (K1.set H.length (.rw [w']))[H.length]? = some (.rw [w']) := at_set _ _ _ (by omega)
    have b3 : (K1.set H.length (.rw [w']))[H.length + 2]? = _ := (at_set_ne _ _ _ _ (by omega)).trans b1
    have bx3 : cellsOf (K1.set H.length (.rw [w'])) (H.length + 1) = _ := (cells_set_ne _ _ _ _ (by omega)).trans bx1
    have o3 : ∀ b, b < H.length → b ≠ d → (K1.set H.length (.rw [w']))[b]? = H[b]? := fun b hb hne => (at_set_ne _ _ _ _ (by omega)).trans (o1 b hb hne)
    generalize hK3 : K1.set H.length (.rw [w']) = K3 at *
    obtain ⟨z, C, z1, z2, ct, ix, hle2, htk2, se⟩ := crashTail m3 hx2 (k := k) (by omega)
    obtain ⟨cs3, hc3, hv3, hle3, htk3, _⟩ := m3.row hx2
    have ob : Outs (runC (envL prog) (bq40x0 (envL prog)) (((t.set 9 (.int .i64 (i : Int))).set 10 (.ptr d (i * 65))).set 5 (.ptr d (i * 65))) K1) fun e _ K' => e = .normal ∧ K' = setD (K3 ++ [.rw (u8s x.2.there), .rw [.sl K3.length 0 64 1 1 true, x.1], .rw C]) d ((crL L zs i).set i (.nilSl, ⟨z, []⟩)) := by
      unfold bq40x0
      simp -implicitDefEqProofs (maxSteps := 5000000) only [go_sem, Nat.reduceShiftRight, Nat.reduceAnd, Nat.reduceBNe, Int.reduceEq, Nat.reduceAdd, Nat.reduceSub, Nat.reduceMul, Nat.reduceLeDiff, reduceIte, reduceCtorEq, Nat.reduceBEq, Nat.reduceEqDiff, getT_set, ht, ht3, List.length_set, Nat.reduceLT, hkp, hwl, hd0, ia, la, wz, hvl, wn, hrem, s1, store_one, s6, wr, hc, hc3, cells_old hc3, hv, hv3, hle3, htk3, w64, sp, hca, ct, ix, hle2, htk2, se, outs_normal]
    obtain ⟨e, t2, K2, er, rfl, rfl⟩ := ob
    have g : CrI H p d c L zs (.loop ⟨.busy, .normal, t, [9, 10], kaq40x0, kbq40x0⟩) i (i + 1) K3 := by
      have e : crashR (L.map (·.2)) zs (i + 1) = R := by
        rw [hR]; unfold crashZ; rw [if_neg h1, hz]; rfl
      exact ⟨l3, b3, bx3, ⟨w', p3, by rw [e]; exact s2, s3, by rw [s4]; exact w4, by rw [e]; rw [hz] at w5; exact fun z hz => w5 z (by simp [hz])⟩, m3, o3⟩
    obtain ⟨K', yk, e2⟩ := CrI.end (B := [.rw (u8s x.2.there), .rw [.sl K3.length 0 64 1 1 true, x.1], .rw C]) hd hp y g hx hx2 z2 (by
      unfold crashSec
      rw [if_neg h1, hz]
      show (⟨((x.2.there :: x.2.vers)[(z0 % ((x.2.vers.length : Int) + 1)).toNat]?).getD [], []⟩ : Sec) = _
      rw [hk, Int.toNat_natCast, z1]; rfl)
    refine ⟨K', yk, (st er ?_).trans e2⟩
    unfold setD
    rw [at_set_ne _ _ _ _ (by omega), List.getElem?_append_left (by omega), b3]
set_option maxHeartbeats 4000000 in
theorem diskCrashC {H : AHeap} {p d c : Nat} {L : List (AV × Sec)} (m : DK H p d c L) {v : AV} {zs : List Int} (b : BS H v zs) (hu : IsU8 zs) (hl : LenOk v) (hv : ∀ b, slb v = some b → b < H.length ∧ b ≠ d) (hvc : cellsA v = some [v]) :
    ∃ H', DK H' p d c ((crashS (L.map (·.2)) zs).map (fun s => (AV.nilSl, s))) ∧ KeepB H H' [d] ∧ (envL prog).call 40 [.ptr p 0, v] H = some (.tup [], H') := by
  have hd := lt_of_at m.blk
  have hp := lt_of_cells m.ptr
  have it : ∀ t : T, (t.length = 43 ∧ getT t 3 = .ptr H.length 0) → ∃ K, (envL prog).call 50 [.yld (H.length + 2), .ptr (H.length + 1) 0] (H ++ [.rw [v], .rw [.ptr p 0], .loop ⟨.ready, .normal, t, [9, 10], kaq40x0, kbq40x0⟩]) = some (.tup [], K) ∧
      CrI H p d c L zs (.loop ⟨.ready, .normal, t, [9, 10], kaq40x0, kbq40x0⟩) L.length L.length K := by
    rintro T ⟨hT, hT3⟩
    have hY : LooseY (H.length + 2) (H.length + 1) p d L.length (fun i K => CrI H p d c L zs (.loop ⟨.ready, .normal, T, [9, 10], kaq40x0, kbq40x0⟩) i i K) := by
      intro i K y hi
      obtain ⟨x, hx⟩ : ∃ x, L[i]? = some x := ⟨_, List.getElem?_eq_getElem hi⟩
      have hx2 : (crL L zs i)[i]? = some x := by rw [crL_get hi, hx]
      obtain ⟨_, hR⟩ := crashS_get (zs := zs) (get_map (fun y : AV × Sec => y.2) hx)
      refine ⟨c, crL L zs i, x, y.dk, crL_len L zs (by omega), y.bx, hx2, fun h0 => ?_, fun h1 => crashRound hd hp hT hT3 y hx hx2 h1⟩
      have ez : crashZ (crashR (L.map (·.2)) zs i) x.2 = crashR (L.map (·.2)) zs i := by unfold crashZ; rw [if_pos h0]
      have es : crashSec (crashR (L.map (·.2)) zs i) x.2 = x.2 := by unfold crashSec; rw [if_pos h0]
      have ev : x.1 = .nilSl := by
        rcases (y.dk.vs.at hx2).1 with ⟨_, hv⟩ | ⟨hv, _⟩
        · exact hv
        · exact absurd (by unfold verR; rw [h0]; rfl) hv
      obtain ⟨w, y6, y7, y8, y9, y10⟩ := y.pk
      refine ⟨y.len, y.lp, y.bx, ⟨w, y6, by rw [hR, ez]; exact y7, y8, y9, by rw [hR, ez]; exact y10⟩, ?_, y.old⟩
      rw [crL_step hx, es, ← ev, show (crL L zs i).set i (x.1, x.2) = crL L zs i from by
        apply List.ext_getElem?; intro j
        by_cases ej : i = j
        · subst ej; rw [List.getElem?_set_self (List.getElem?_eq_some_iff.1 hx2).1, hx2]
        · rw [List.getElem?_set_ne ej]]
      exact y.dk
    have m0 : DK (H ++ [.rw [v], .rw [.ptr p 0], .loop ⟨.ready, .normal, T, [9, 10], kaq40x0, kbq40x0⟩]) p d c L := m.fr (Fr.adds ⟨_, rfl⟩ (fun _ => False)) (fun _ _ h => h)
    have y0 : CrI H p d c L zs (.loop ⟨.ready, .normal, T, [9, 10], kaq40x0, kbq40x0⟩) 0 0 (H ++ [.rw [v], .rw [.ptr p 0], .loop ⟨.ready, .normal, T, [9, 10], kaq40x0, kbq40x0⟩]) := by
      have e : crashR (L.map (·.2)) zs 0 = zs := by cases L <;> rfl
      refine ⟨by simp, by simp, by unfold cellsOf; simp, ⟨v, by simp, by rw [e]; exact b, hl, hv, by rw [e]; exact hu⟩, ?_, fun b hb _ => List.getElem?_append_left hb⟩
      unfold crL
      rw [List.take_zero, List.map_nil, List.nil_append, List.drop_zero]
      exact m0
    obtain ⟨K, hK, e⟩ := looseC hY m.sz y0 y0.bx m0 rfl
    refine ⟨K, ?_, hK⟩
    rw [e]
    exact trim_same (by rw [hK.len]; simp)
  obtain ⟨KK, hKK⟩ := skolem_c it
  have e1 := fun t h1 h2 => (hKK t ⟨h1, h2⟩).1
  have e2 := fun t h1 h2 => (hKK t ⟨h1, h2⟩).2.lp
  have l0 := fun B => loose0 (p := p) (H ++ B)
  have o : Outs (runC (envL prog) (b40 (envL prog)) ([.ptr p 0, v] ++ List.replicate (43 - [AV.ptr p 0, v].length) .undef) H) fun e' t K' => (∃ t' : T, (t'.length = 43 ∧ getT t' 3 = .ptr H.length 0) ∧ K' = (KK t').set (H.length + 2) (.loop ⟨.exhausted, .normal, t', [9, 10], kaq40x0, kbq40x0⟩)) ∧ fin [] (some (e', t, K')) = some (.tup [], K') := by
    unfold b40
    generalize hQ : (fun (e' : Ex) (t : T) (K' : AHeap) => (∃ t' : T, (t'.length = 43 ∧ getT t' 3 = .ptr H.length 0) ∧ K' = (KK t').set (H.length + 2) (.loop ⟨.exhausted, .normal, t', [9, 10], kaq40x0, kbq40x0⟩)) ∧ fin [] (some (e', t, K')) = some (AV.tup [], K')) = Q
    simp -implicitDefEqProofs (maxSteps := 5000000) only [go_sem, Nat.reduceShiftRight, Nat.reduceAnd, Nat.reduceBNe, Int.reduceEq, Nat.reduceAdd, Nat.reduceSub, Nat.reduceMul, Nat.reduceLeDiff, reduceIte, reduceCtorEq, Nat.reduceBEq, Nat.reduceEqDiff, hvc, l0, runC_range, callF_fn, e1, rangeEnd, e2, outs_normal]
    subst hQ
    refine ⟨⟨_, ⟨rfl, rfl⟩, rfl⟩, ?_⟩
    simp -implicitDefEqProofs (maxSteps := 5000000) only [go_sem, Nat.reduceShiftRight, Nat.reduceAnd, Nat.reduceBNe, Int.reduceEq, Nat.reduceAdd, Nat.reduceSub, Nat.reduceMul, Nat.reduceLeDiff, reduceIte, reduceCtorEq, Nat.reduceBEq, Nat.reduceEqDiff]
  obtain ⟨e', t, K', hr, ⟨t', ht, rfl⟩, hf⟩ := o
  obtain ⟨_, kk⟩ := hKK t' ht
  have kl := kk.len
  have k4 := kk.dk
  rw [crL_all] at k4
  have hl2 : ((KK t').set (H.length + 2) (.loop ⟨.exhausted, .normal, t', [9, 10], kaq40x0, kbq40x0⟩)).length = H.length + 3 := by rw [List.length_set]; exact kl
  have fK : Fr H ((KK t').set (H.length + 2) (.loop ⟨.exhausted, .normal, t', [9, 10], kaq40x0, kbq40x0⟩)) (· = d) := ⟨by omega, fun b hb hn => by
    rw [at_set_ne _ _ _ _ (by omega)]; exact kk.old b hb hn⟩
  have dk : DK (((KK t').set (H.length + 2) (.loop ⟨.exhausted, .normal, t', [9, 10], kaq40x0, kbq40x0⟩)).take H.length) p d c ((crashS (L.map (·.2)) zs).map (fun s => (AV.nilSl, s))) := by
    refine ⟨?_, ?_, m.np, by simp [crashS_len]; exact m.sz, ⟨m.vs.cb, fun x hx => ?_, k4.vs.ok, k4.vs.cap, k4.vs.out, k4.vs.inj⟩⟩
    · rw [take_cells hp, cells_set_ne _ _ _ _ (by omega)]; exact k4.ptr
    · rw [take_get hd, at_set_ne _ _ _ _ (by omega)]; exact k4.blk
    · rcases k4.vs.ver x hx with h | ⟨_, b', _, h0, _⟩
      · exact .inl h
      · obtain ⟨y, _, rfl⟩ := List.mem_map.1 hx
        cases h0
  refine ⟨_, dk, ⟨take_len fK.1, fun b hb => ?_⟩, ?_⟩
  · by_cases hlt : b < H.length
    · exact (take_get hlt).trans (fK.2 b hlt (by simpa using hb))
    · rw [List.getElem?_eq_none (by rw [take_len fK.1]; omega), List.getElem?_eq_none (by omega)]
  · rw [c40, hr, hf]
    refine trim_take fK.1 rfl fun b k' hb hk => ?_
    by_cases e : b = d
    · subst e
      have hd2 := dk.blk
      rw [take_get hd] at hd2
      rw [hd2] at hk
      injection hk with hk; subst hk
      have := secR_under dk.vs
      rw [take_len fK.1] at this
      exact .inr this
    · exact .inl ((fK.2 b hb e).symm.trans hk)
end Go.Proofs.Ythjkfincekckhaa.G04

