/- What the functions that RigFuses reaches answer, for every argument. No condition but those in each statement. -/
import Derived.Test.YthjkfincekckhaaQ0
set_option linter.unusedSimpArgs false
set_option linter.unusedVariables false
set_option maxRecDepth 10000
namespace Go.Proofs.Ythjkfincekckhaa.G04
open Go Go.Proofs.Ythjkfincekckhaa.Eng
/-- A rig whose fuse was set: so many went through, of so many. -/
structure FzI (r : RgS) (k done : Nat) : Prop where
  la : r.a.length = 5
  lb : r.b.length = 5
  hd : r.done = done
  hk : done ≤ k
  k29 : k ≤ 29
  st : (r.down = false ∧ r.fuse = (k : Int) - done) ∨ (r.down = true ∧ r.fuse = 0 ∧ done = k)
theorem FzI.pass {r : RgS} {k done : Nat} (I : FzI r k done) : (done < k → r.pass.2 = 0 ∧ FzI r.pass.1 k (done + 1) ∧ r.pass.1.down = false) ∧ (done = k → r.pass.2 = 14 ∧ FzI r.pass.1 k done ∧ r.pass.1.down = true) := by
  obtain ⟨la, lb, hd, hk, k29, st⟩ := I
  have wr : ∀ x : Int, 0 ≤ x → x ≤ 100 → IntKind.i64.wrap x = x := fun x h1 h2 => wrap64 (by omega) (by omega)
  refine ⟨fun h => ?_, fun h => ?_⟩
  · rcases st with ⟨s1, s2⟩ | ⟨_, _, s3⟩
    · unfold RgS.pass
      rw [if_neg (by rw [s1, s2]; simp; omega)]
      refine ⟨rfl, ⟨la, lb, ?_, by omega, k29, .inl ⟨s1, ?_⟩⟩, s1⟩
      · show IntKind.i64.wrap (r.done + 1) = _
        rw [wr _ (by omega) (by omega), hd]; rfl
      · show (if r.fuse > 0 then IntKind.i64.wrap (r.fuse - 1) else r.fuse) = _
        rw [if_pos (by omega), wr _ (by omega) (by omega)]; omega
    · omega
  · unfold RgS.pass
    rw [if_pos (by rcases st with ⟨s1, s2⟩ | ⟨s1, s2, s3⟩; exact .inr (by omega); exact .inr s2)]
    refine ⟨rfl, ⟨la, lb, hd, hk, k29, .inr ⟨rfl, ?_, h⟩⟩, rfl⟩
    show r.fuse = 0
    rcases st with ⟨s1, s2⟩ | ⟨s1, s2, s3⟩
    · omega
    · exact s2
theorem FzI.put {r : RgS} {k done : Nat} (I : FzI r k done) {dev : Int} {l : List Sec} (hl : l.length = 5) : FzI (r.put dev l) k done ∧ (r.put dev l).down = r.down := by
  obtain ⟨q1, q2, q3⟩ := put_fields r dev l
  refine ⟨⟨?_, ?_, q3.trans I.hd, I.hk, I.k29, by rw [q1, q2]; exact I.st⟩, q2⟩
  · unfold RgS.put; split; exact hl; split; exact I.la; exact I.la
  · unfold RgS.put; split; exact I.lb; split; exact hl; exact I.lb
theorem FzI.dk {r : RgS} {k done : Nat} (I : FzI r k done) {dev : Int} (h : dev = 0 ∨ dev = 1) : (r.dk dev).length = 5 := by
  unfold RgS.dk
  rcases h with rfl | rfl
  · exact I.la
  · exact I.lb
theorem FzI.write {r : RgS} {k done : Nat} (I : FzI r k done) {dev i : Int} (h : dev = 0 ∨ dev = 1) (hi : 0 ≤ i ∧ i < 5) (z : List Int) : (done < k → (r.write dev i z).2 = 0 ∧ FzI (r.write dev i z).1 k (done + 1) ∧ (r.write dev i z).1.down = false) ∧ (done = k → (r.write dev i z).2 = 14 ∧ FzI (r.write dev i z).1 k done ∧ (r.write dev i z).1.down = true) := by
  have hd := I.dk h
  obtain ⟨p1, p2⟩ := I.pass
  unfold RgS.write
  rw [if_pos (by omega)]
  refine ⟨fun hk => ?_, fun hk => ?_⟩
  · obtain ⟨q1, q2, q3⟩ := p1 hk
    rw [if_pos q1]
    obtain ⟨i1, i2⟩ := q2.put (dev := dev) (l := (r.dk dev).modify i.toNat fun s => ⟨s.there, s.vers ++ [z]⟩) (by rw [List.length_modify]; exact hd)
    exact ⟨rfl, i1, i2.trans q3⟩
  · obtain ⟨q1, q2, q3⟩ := p2 hk
    rw [if_neg (by omega)]
    exact ⟨q1, q2, q3⟩
theorem FzI.flush {r : RgS} {k done : Nat} (I : FzI r k done) {dev : Int} (h : dev = 0 ∨ dev = 1) : (done < k → (r.flush dev).2 = 0 ∧ FzI (r.flush dev).1 k (done + 1) ∧ (r.flush dev).1.down = false) ∧ (done = k → (r.flush dev).2 = 14 ∧ FzI (r.flush dev).1 k done ∧ (r.flush dev).1.down = true) := by
  have hd := I.dk h
  obtain ⟨p1, p2⟩ := I.pass
  unfold RgS.flush
  rw [if_pos h]
  refine ⟨fun hk => ?_, fun hk => ?_⟩
  · obtain ⟨q1, q2, q3⟩ := p1 hk
    rw [if_pos q1]
    obtain ⟨i1, i2⟩ := q2.put (dev := dev) (l := (r.dk dev).map settled) (by rw [List.length_map]; exact hd)
    exact ⟨rfl, i1, i2.trans q3⟩
  · obtain ⟨q1, q2, q3⟩ := p2 hk
    rw [if_neg (by omega)]
    exact ⟨q1, q2, q3⟩
theorem FzI.read {r : RgS} {k done : Nat} (I : FzI r k done) {dev i : Int} (h : dev = 0 ∨ dev = 1) (hi : 0 ≤ i ∧ i < 5) : (r.down = false → (r.read dev i).2 = 0) ∧ (r.down = true → r.read dev i = (zeros64, 14)) := by
  have hd := I.dk h
  unfold RgS.read
  rw [if_pos (by omega)]
  refine ⟨fun h => ?_, fun h => ?_⟩
  · rw [h]; rfl
  · rw [if_pos h]
set_option maxHeartbeats 16000000 in
theorem fusesL {h0 : AHeap} {vl : AV} {rows : List (List AV)} (rs : RS 6 h0 vl rows) (rd : ∀ r ∈ rows, DatR h0 stepSh r) (hn : rows.length ≤ 200) {p m : Nat} (x0 x2 x3 x6 x17 x18 x19 x20 x21 x22 x23 x24 x25 x26 x27 x28 x29 x30 x31 x32 x33 x34 x35 x36 x37 x38 x39 x40 x41 x42 x43 x44 x45 x46 x121 x122 x123 x124 x125 x126 x127 : AV) : ∀ (k i : Nat) (H : AHeap) (r : RgS) (F : Nat → Prop) (done : Nat) (j10 j11 j12 j13 j14 j15 j16 j47 j48 j49 j50 j51 j52 j53 j54 j55 j56 j57 j58 j59 j60 j61 j62 j63 j64 j65 j66 j67 j68 j69 j70 j71 j72 j73 j74 j75 j76 j77 j78 j79 j80 j81 j82 j83 j84 j85 j86 j87 j88 j89 j90 j91 j92 j93 j94 j95 j96 j97 j98 j99 j100 j101 j102 j103 j104 j105 j106 j107 j108 j109 j110 j111 j112 j113 j114 j115 j116 j117 j118 j119 j120 : AV), LI h0 H p i r F → FzI r m done → i + k = rows.length →
    Outs (LP l4x0 [x0, vl, x2, x3, .bool false, .ptr p 0, x6, .int .i64 (m : Int), .int .i64 (done : Int), .int .i64 (i : Int), j10, j11, j12, j13, j14, j15, j16, x17, x18, x19, x20, x21, x22, x23, x24, x25, x26, x27, x28, x29, x30, x31, x32, x33, x34, x35, x36, x37, x38, x39, x40, x41, x42, x43, x44, x45, x46, j47, j48, j49, j50, j51, j52, j53, j54, j55, j56, j57, j58, j59, j60, j61, j62, j63, j64, j65, j66, j67, j68, j69, j70, j71, j72, j73, j74, j75, j76, j77, j78, j79, j80, j81, j82, j83, j84, j85, j86, j87, j88, j89, j90, j91, j92, j93, j94, j95, j96, j97, j98, j99, j100, j101, j102, j103, j104, j105, j106, j107, j108, j109, j110, j111, j112, j113, j114, j115, j116, j117, j118, j119, j120, x121, x122, x123, x124, x125, x126, x127] H) fun e t H' => e = .exit 0 ∧ ∃ r' F' done' c', RigIn H' p c' r' F' ∧ FzI r' m done' ∧ ∃ k : Nat → AV, t = [x0, vl, x2, x3, .bool false, .ptr p 0, x6, .int .i64 (m : Int), .int .i64 (done' : Int), (k 9), (k 10), (k 11), (k 12), (k 13), (k 14), (k 15), (k 16), x17, x18, x19, x20, x21, x22, x23, x24, x25, x26, x27, x28, x29, x30, x31, x32, x33, x34, x35, x36, x37, x38, x39, x40, x41, x42, x43, x44, x45, x46, (k 47), (k 48), (k 49), (k 50), (k 51), (k 52), (k 53), (k 54), (k 55), (k 56), (k 57), (k 58), (k 59), (k 60), (k 61), (k 62), (k 63), (k 64), (k 65), (k 66), (k 67), (k 68), (k 69), (k 70), (k 71), (k 72), (k 73), (k 74), (k 75), (k 76), (k 77), (k 78), (k 79), (k 80), (k 81), (k 82), (k 83), (k 84), (k 85), (k 86), (k 87), (k 88), (k 89), (k 90), (k 91), (k 92), (k 93), (k 94), (k 95), (k 96), (k 97), (k 98), (k 99), (k 100), (k 101), (k 102), (k 103), (k 104), (k 105), (k 106), (k 107), (k 108), (k 109), (k 110), (k 111), (k 112), (k 113), (k 114), (k 115), (k 116), (k 117), (k 118), (k 119), (k 120), x121, x122, x123, x124, x125, x126, x127] := by
  intro k
  obtain ⟨L, hL⟩ : ∃ L, L = LP l4x0 := ⟨_, rfl⟩
  have lo := loop_open hL
  rw [← hL]
  induction k with
  | zero =>
    intro i H r F done j10 j11 j12 j13 j14 j15 j16 j47 j48 j49 j50 j51 j52 j53 j54 j55 j56 j57 j58 j59 j60 j61 j62 j63 j64 j65 j66 j67 j68 j69 j70 j71 j72 j73 j74 j75 j76 j77 j78 j79 j80 j81 j82 j83 j84 j85 j86 j87 j88 j89 j90 j91 j92 j93 j94 j95 j96 j97 j98 j99 j100 j101 j102 j103 j104 j105 j106 j107 j108 j109 j110 j111 j112 j113 j114 j115 j116 j117 j118 j119 j120 l I hi
    obtain rfl : i = rows.length := by omega
    have hl := rs.len
    have hd : decide ((rows.length : Int) < (rows.length : Int)) = false := by simp
    rw [lo]
    unfold l4x0
    simp -implicitDefEqProofs (maxSteps := 5000000) only [go_sem, Nat.reduceShiftRight, Nat.reduceAnd, Nat.reduceBNe, Int.reduceEq, Nat.reduceAdd, Nat.reduceSub, Nat.reduceMul, Nat.reduceLeDiff, reduceIte, reduceCtorEq, Nat.reduceBEq, Nat.reduceEqDiff, hl, hd, seqR_exit', outs_normal]
    exact ⟨r, F, done, _, l.m, I, exF rfl⟩
  | succ k ih =>
    intro i H r F done j10 j11 j12 j13 j14 j15 j16 j47 j48 j49 j50 j51 j52 j53 j54 j55 j56 j57 j58 j59 j60 j61 j62 j63 j64 j65 j66 j67 j68 j69 j70 j71 j72 j73 j74 j75 j76 j77 j78 j79 j80 j81 j82 j83 j84 j85 j86 j87 j88 j89 j90 j91 j92 j93 j94 j95 j96 j97 j98 j99 j100 j101 j102 j103 j104 j105 j106 j107 j108 j109 j110 j111 j112 j113 j114 j115 j116 j117 j118 j119 j120 l I hi
    have hl := rs.len
    have hd : decide ((i : Int) < (rows.length : Int)) = true := decide_eq_true (by omega)
    have e2 : IntKind.i64.wrap ((i : Int) + 1) = ((i + 1 : Nat) : Int) := by rw [wrap64 (by omega) (by omega)]; omega
    have ih := fun H r F done j10 j11 j12 j13 j14 j15 j16 j47 j48 j49 j50 j51 j52 j53 j54 j55 j56 j57 j58 j59 j60 j61 j62 j63 j64 j65 j66 j67 j68 j69 j70 j71 j72 j73 j74 j75 j76 j77 j78 j79 j80 j81 j82 j83 j84 j85 j86 j87 j88 j89 j90 j91 j92 j93 j94 j95 j96 j97 j98 j99 j100 j101 j102 j103 j104 j105 j106 j107 j108 j109 j110 j111 j112 j113 j114 j115 j116 j117 j118 j119 j120 l h1 => ih (i + 1) H r F done j10 j11 j12 j13 j14 j15 j16 j47 j48 j49 j50 j51 j52 j53 j54 j55 j56 j57 j58 j59 j60 j61 j62 j63 j64 j65 j66 j67 j68 j69 j70 j71 j72 j73 j74 j75 j76 j77 j78 j79 j80 j81 j82 j83 j84 j85 j86 j87 j88 j89 j90 j91 j92 j93 j94 j95 j96 j97 j98 j99 j100 j101 j102 j103 j104 j105 j106 j107 j108 j109 j110 j111 j112 j113 j114 j115 j116 j117 j118 j119 j120 l h1 (by omega)
    obtain ⟨row, hr⟩ : ∃ r, rows[i]? = some r := ⟨_, List.getElem?_eq_getElem (by omega)⟩
    obtain ⟨s0, s1, s2, s3, s4, s5, rfl, w0, w1, w2, w3, f4, f5⟩ := step_dat (rd row (List.mem_of_getElem? hr))
    obtain ⟨b, cs, ix, hc0, hg, _, hsz, htk⟩ := rs.idx (by omega) hr .i64
    have c0 := l.old.cells hc0
    have c4 := (datc_sl f4).cell
    have c5 := (datc_sl f5).cell
    have hcc : ([.int .i64 s0, .int .i64 s1, .int .i64 s2, .int .u8 s3, s4, s5] : List AV).all AV.isCell = true := by simp only [List.all_cons, List.all_nil, c4, c5, cell_int, Bool.and_self]
    obtain ⟨H0, e0⟩ : ∃ H0, H0 = H ++ [ABlk.rw [.int .i64 s0, .int .i64 s1, .int .i64 s2, .int .u8 s3, s4, s5]] := ⟨_, rfl⟩
    have l0 : LI h0 H0 p i r F := by rw [e0]; exact l.adds _
    have nF : ¬ F H.length := fun h => Nat.lt_irrefl _ (l.m.lt _ h)
    have cc : cellsOf H0 H.length = some [.int .i64 s0, .int .i64 s1, .int .i64 s2, .int .u8 s3, s4, s5] := by rw [e0]; unfold cellsOf; simp
    have e0 := e0.symm
    have l0' : LI h0 H0 p (i + 1) r F := ⟨RigIn.up l0.m (Nat.le_succ _) (by omega), l0.old, l0.out⟩
    have nn : ∀ x : Int, (x != x) = false := fun x => by simp
    have nb : ∀ x : Bool, (!(x == x)) = false := fun x => by cases x <;> rfl
    have fu := fillU s3 H0
    have m2 := modC s1 2 (.inr w1) (by omega) (by omega) H0
    have m5 := modC s2 5 (.inr w2) (by omega) (by omega) H0
    have hdev : s1 % 2 = 0 ∨ s1 % 2 = 1 := by omega
    have hat : 0 ≤ s2 % 5 ∧ s2 % 5 < 5 := by omega
    generalize s1 % 2 = dev at *
    generalize s2 % 5 = at5 at *
    have hk := I.hk
    have z0 : ((0 : Int) == 0) = true := rfl
    have z14 : ((14 : Int) == 0) = false := rfl
    have z15 : ((14 : Int) == 14) = true := rfl
    have z16 : ((0 : Int) == 14) = false := rfl
    have eN0 := rinDown l0.m
    by_cases k2 : s0 = 2
    · subst k2
      have n0 : ((2 : Int) == 2) = true := rfl
      obtain ⟨H', m', s, _, e⟩ := rinFlush l0'.m dev
      have l1 := l0'.step m' s
      have c1 := s.1.cells cc nF
      have eN := rinDown m'
      obtain ⟨p1, p2⟩ := I.flush hdev
      by_cases hlt : done < m
      · obtain ⟨q1, q2, q3⟩ := p1 hlt
        have d1 : decide ((done : Int) ≥ (m : Int)) = false := decide_eq_false (by omega)
        have e3 : IntKind.i64.wrap ((done : Int) + 1) = ((done + 1 : Nat) : Int) := by have := I.k29; rw [wrap64 (by omega) (by omega)]; omega
        rw [q1] at e
        rw [q3] at eN
        have ih := fun j10 j11 j12 j13 j14 j15 j16 j47 j48 j49 j50 j51 j52 j53 j54 j55 j56 j57 j58 j59 j60 j61 j62 j63 j64 j65 j66 j67 j68 j69 j70 j71 j72 j73 j74 j75 j76 j77 j78 j79 j80 j81 j82 j83 j84 j85 j86 j87 j88 j89 j90 j91 j92 j93 j94 j95 j96 j97 j98 j99 j100 j101 j102 j103 j104 j105 j106 j107 j108 j109 j110 j111 j112 j113 j114 j115 j116 j117 j118 j119 j120 => ih H' _ F (done + 1) j10 j11 j12 j13 j14 j15 j16 j47 j48 j49 j50 j51 j52 j53 j54 j55 j56 j57 j58 j59 j60 j61 j62 j63 j64 j65 j66 j67 j68 j69 j70 j71 j72 j73 j74 j75 j76 j77 j78 j79 j80 j81 j82 j83 j84 j85 j86 j87 j88 j89 j90 j91 j92 j93 j94 j95 j96 j97 j98 j99 j100 j101 j102 j103 j104 j105 j106 j107 j108 j109 j110 j111 j112 j113 j114 j115 j116 j117 j118 j119 j120 l1 q2
        rw [lo]
        unfold l4x0
        simp -implicitDefEqProofs (maxSteps := 5000000) only [go_sem, Nat.reduceShiftRight, Nat.reduceAnd, Nat.reduceBNe, Int.reduceEq, Nat.reduceAdd, Nat.reduceSub, Nat.reduceMul, Nat.reduceLeDiff, reduceIte, reduceCtorEq, Nat.reduceBEq, Nat.reduceEqDiff, wrap64, runC_loop, runC_range, callF_fn, callV_fn, callV_yld, yield_eq, yieldBody, yieldRaw, roundMid, roundEnd, rangeEnd, Bool.not_not, put_cons, put_nil, trim_same, at_zero, at_add, set_zero, set_add, store_one, write_zero, write_add, write_head, write_succ, splice_one, splice_more, List.drop_nil, List.take_nil, cell_int, cell_bool, fillS, splice_one, idxA, Ex.isNormal, List.set_nil, List.length_set, List.all_cons, List.all_nil, Bool.and_self, and_self, true_and, and_true, List.getElem?_nil, Int.reduceLT, Int.reduceLE, Int.reduceToNat, Int.toNat_zero, Int.toNat_one, Int.reduceAdd, Int.reduceSub, Int.reduceMul, Int.reduceNeg, Int.reduceBEq, Int.reduceBNe, Int.reduceGE, Int.reduceGT, Nat.reduceLT, trim_keep, under_fn, under_ptr, under_sl, Nat.lt_irrefl, not_lt_add, trim_tail, keepOk, ABlk.vals, Int.cast_ofNat_Int, decide_true, decide_false, List.all_cons, List.all_nil, Nat.zero_mul, Nat.mul_one, Nat.one_mul, o_call, hl, hd, e2, e3, ix, c0, htk, hsz, hcc, c4, c5, e0, cc, c1, m2, m5, n0, e, eN, d1, z0, z16, nn]
        exact ih ..
      · obtain ⟨q1, q2, q3⟩ := p2 (by omega)
        have d1 : decide ((done : Int) ≥ (m : Int)) = true := decide_eq_true (by omega)
        rw [q1] at e
        rw [q3] at eN
        have ih := fun j10 j11 j12 j13 j14 j15 j16 j47 j48 j49 j50 j51 j52 j53 j54 j55 j56 j57 j58 j59 j60 j61 j62 j63 j64 j65 j66 j67 j68 j69 j70 j71 j72 j73 j74 j75 j76 j77 j78 j79 j80 j81 j82 j83 j84 j85 j86 j87 j88 j89 j90 j91 j92 j93 j94 j95 j96 j97 j98 j99 j100 j101 j102 j103 j104 j105 j106 j107 j108 j109 j110 j111 j112 j113 j114 j115 j116 j117 j118 j119 j120 => ih H' _ F done j10 j11 j12 j13 j14 j15 j16 j47 j48 j49 j50 j51 j52 j53 j54 j55 j56 j57 j58 j59 j60 j61 j62 j63 j64 j65 j66 j67 j68 j69 j70 j71 j72 j73 j74 j75 j76 j77 j78 j79 j80 j81 j82 j83 j84 j85 j86 j87 j88 j89 j90 j91 j92 j93 j94 j95 j96 j97 j98 j99 j100 j101 j102 j103 j104 j105 j106 j107 j108 j109 j110 j111 j112 j113 j114 j115 j116 j117 j118 j119 j120 l1 q2
        rw [lo]
        unfold l4x0
        simp -implicitDefEqProofs (maxSteps := 5000000) only [go_sem, Nat.reduceShiftRight, Nat.reduceAnd, Nat.reduceBNe, Int.reduceEq, Nat.reduceAdd, Nat.reduceSub, Nat.reduceMul, Nat.reduceLeDiff, reduceIte, reduceCtorEq, Nat.reduceBEq, Nat.reduceEqDiff, wrap64, runC_loop, runC_range, callF_fn, callV_fn, callV_yld, yield_eq, yieldBody, yieldRaw, roundMid, roundEnd, rangeEnd, Bool.not_not, put_cons, put_nil, trim_same, at_zero, at_add, set_zero, set_add, store_one, write_zero, write_add, write_head, write_succ, splice_one, splice_more, List.drop_nil, List.take_nil, cell_int, cell_bool, fillS, splice_one, idxA, Ex.isNormal, List.set_nil, List.length_set, List.all_cons, List.all_nil, Bool.and_self, and_self, true_and, and_true, List.getElem?_nil, Int.reduceLT, Int.reduceLE, Int.reduceToNat, Int.toNat_zero, Int.toNat_one, Int.reduceAdd, Int.reduceSub, Int.reduceMul, Int.reduceNeg, Int.reduceBEq, Int.reduceBNe, Int.reduceGE, Int.reduceGT, Nat.reduceLT, trim_keep, under_fn, under_ptr, under_sl, Nat.lt_irrefl, not_lt_add, trim_tail, keepOk, ABlk.vals, Int.cast_ofNat_Int, decide_true, decide_false, List.all_cons, List.all_nil, Nat.zero_mul, Nat.mul_one, Nat.one_mul, o_call, hl, hd, e2, ix, c0, htk, hsz, hcc, c4, c5, e0, cc, c1, m2, m5, n0, e, eN, d1, z14, z15, nn]
        exact ih ..
    have n2 : (s0 == 2) = false := by simp [k2]
    by_cases k0 : s0 = 0
    · subst k0
      obtain ⟨H', F', m', s, e⟩ := rinWrite l0.m dev at5 (fz_ok w3) (by omega)
      have l1 := l0.step m' s
      have c1 := s.1.cells cc nF
      have eN := rinDown m'
      obtain ⟨p1, p2⟩ := I.write hdev hat (fz s3)
      by_cases hlt : done < m
      · obtain ⟨q1, q2, q3⟩ := p1 hlt
        have d1 : decide ((done : Int) ≥ (m : Int)) = false := decide_eq_false (by omega)
        have e3 : IntKind.i64.wrap ((done : Int) + 1) = ((done + 1 : Nat) : Int) := by have := I.k29; rw [wrap64 (by omega) (by omega)]; omega
        rw [q1] at e
        rw [q3] at eN
        have ih := fun j10 j11 j12 j13 j14 j15 j16 j47 j48 j49 j50 j51 j52 j53 j54 j55 j56 j57 j58 j59 j60 j61 j62 j63 j64 j65 j66 j67 j68 j69 j70 j71 j72 j73 j74 j75 j76 j77 j78 j79 j80 j81 j82 j83 j84 j85 j86 j87 j88 j89 j90 j91 j92 j93 j94 j95 j96 j97 j98 j99 j100 j101 j102 j103 j104 j105 j106 j107 j108 j109 j110 j111 j112 j113 j114 j115 j116 j117 j118 j119 j120 => ih H' _ F' (done + 1) j10 j11 j12 j13 j14 j15 j16 j47 j48 j49 j50 j51 j52 j53 j54 j55 j56 j57 j58 j59 j60 j61 j62 j63 j64 j65 j66 j67 j68 j69 j70 j71 j72 j73 j74 j75 j76 j77 j78 j79 j80 j81 j82 j83 j84 j85 j86 j87 j88 j89 j90 j91 j92 j93 j94 j95 j96 j97 j98 j99 j100 j101 j102 j103 j104 j105 j106 j107 j108 j109 j110 j111 j112 j113 j114 j115 j116 j117 j118 j119 j120 l1 q2
        rw [lo]
        unfold l4x0
        simp -implicitDefEqProofs (maxSteps := 5000000) only [go_sem, Nat.reduceShiftRight, Nat.reduceAnd, Nat.reduceBNe, Int.reduceEq, Nat.reduceAdd, Nat.reduceSub, Nat.reduceMul, Nat.reduceLeDiff, reduceIte, reduceCtorEq, Nat.reduceBEq, Nat.reduceEqDiff, wrap64, runC_loop, runC_range, callF_fn, callV_fn, callV_yld, yield_eq, yieldBody, yieldRaw, roundMid, roundEnd, rangeEnd, Bool.not_not, put_cons, put_nil, trim_same, at_zero, at_add, set_zero, set_add, store_one, write_zero, write_add, write_head, write_succ, splice_one, splice_more, List.drop_nil, List.take_nil, cell_int, cell_bool, fillS, splice_one, idxA, Ex.isNormal, List.set_nil, List.length_set, List.all_cons, List.all_nil, Bool.and_self, and_self, true_and, and_true, List.getElem?_nil, Int.reduceLT, Int.reduceLE, Int.reduceToNat, Int.toNat_zero, Int.toNat_one, Int.reduceAdd, Int.reduceSub, Int.reduceMul, Int.reduceNeg, Int.reduceBEq, Int.reduceBNe, Int.reduceGE, Int.reduceGT, Nat.reduceLT, trim_keep, under_fn, under_ptr, under_sl, Nat.lt_irrefl, not_lt_add, trim_tail, keepOk, ABlk.vals, Int.cast_ofNat_Int, decide_true, decide_false, List.all_cons, List.all_nil, Nat.zero_mul, Nat.mul_one, Nat.one_mul, o_call, hl, hd, e2, e3, ix, c0, htk, hsz, hcc, c4, c5, e0, cc, c1, m2, m5, n2, fu, e, eN, d1, z0, z16, nn]
        exact ih ..
      · obtain ⟨q1, q2, q3⟩ := p2 (by omega)
        have d1 : decide ((done : Int) ≥ (m : Int)) = true := decide_eq_true (by omega)
        rw [q1] at e
        rw [q3] at eN
        have ih := fun j10 j11 j12 j13 j14 j15 j16 j47 j48 j49 j50 j51 j52 j53 j54 j55 j56 j57 j58 j59 j60 j61 j62 j63 j64 j65 j66 j67 j68 j69 j70 j71 j72 j73 j74 j75 j76 j77 j78 j79 j80 j81 j82 j83 j84 j85 j86 j87 j88 j89 j90 j91 j92 j93 j94 j95 j96 j97 j98 j99 j100 j101 j102 j103 j104 j105 j106 j107 j108 j109 j110 j111 j112 j113 j114 j115 j116 j117 j118 j119 j120 => ih H' _ F' done j10 j11 j12 j13 j14 j15 j16 j47 j48 j49 j50 j51 j52 j53 j54 j55 j56 j57 j58 j59 j60 j61 j62 j63 j64 j65 j66 j67 j68 j69 j70 j71 j72 j73 j74 j75 j76 j77 j78 j79 j80 j81 j82 j83 j84 j85 j86 j87 j88 j89 j90 j91 j92 j93 j94 j95 j96 j97 j98 j99 j100 j101 j102 j103 j104 j105 j106 j107 j108 j109 j110 j111 j112 j113 j114 j115 j116 j117 j118 j119 j120 l1 q2
        rw [lo]
        unfold l4x0
        simp -implicitDefEqProofs (maxSteps := 5000000) only [go_sem, Nat.reduceShiftRight, Nat.reduceAnd, Nat.reduceBNe, Int.reduceEq, Nat.reduceAdd, Nat.reduceSub, Nat.reduceMul, Nat.reduceLeDiff, reduceIte, reduceCtorEq, Nat.reduceBEq, Nat.reduceEqDiff, wrap64, runC_loop, runC_range, callF_fn, callV_fn, callV_yld, yield_eq, yieldBody, yieldRaw, roundMid, roundEnd, rangeEnd, Bool.not_not, put_cons, put_nil, trim_same, at_zero, at_add, set_zero, set_add, store_one, write_zero, write_add, write_head, write_succ, splice_one, splice_more, List.drop_nil, List.take_nil, cell_int, cell_bool, fillS, splice_one, idxA, Ex.isNormal, List.set_nil, List.length_set, List.all_cons, List.all_nil, Bool.and_self, and_self, true_and, and_true, List.getElem?_nil, Int.reduceLT, Int.reduceLE, Int.reduceToNat, Int.toNat_zero, Int.toNat_one, Int.reduceAdd, Int.reduceSub, Int.reduceMul, Int.reduceNeg, Int.reduceBEq, Int.reduceBNe, Int.reduceGE, Int.reduceGT, Nat.reduceLT, trim_keep, under_fn, under_ptr, under_sl, Nat.lt_irrefl, not_lt_add, trim_tail, keepOk, ABlk.vals, Int.cast_ofNat_Int, decide_true, decide_false, List.all_cons, List.all_nil, Nat.zero_mul, Nat.mul_one, Nat.one_mul, o_call, hl, hd, e2, ix, c0, htk, hsz, hcc, c4, c5, e0, cc, c1, m2, m5, n2, fu, e, eN, d1, z0, z14, z15, nn]
        exact ih ..
    have n0 : (s0 == 0) = false := by simp [k0]
    have e := rinRead l0.m dev at5
    obtain ⟨r1, r2⟩ := I.read hdev hat
    have ok : B64 (r.read dev at5).1 := read_ok l0.m dev at5
    have l64 := ok.1
    have w64 : (u8s (r.read dev at5).1).length = 64 := by rw [u8s_len]; exact l64
    have uc := u8s_cell (r.read dev at5).1
    have sp := splice_u8 (.int .u8 0) l64 (by omega)
    have tk := u8s_take l64
    have wr : writeN (H0 ++ [.rw (rep 64 (.int .u8 0))]) H0.length 0 (u8s (r.read dev at5).1) = some (H0 ++ [.rw (u8s (r.read dev at5).1)]) := by
      rw [write_zero, if_pos ⟨by rw [w64, rep_len]; exact Nat.le_refl _, uc⟩, sp]
    have eN := rinDown (l0.adds [.rw (u8s (r.read dev at5).1)]).m
    have lA : LI h0 (H0 ++ [.rw (u8s (r.read dev at5).1)]) p (i + 1) r F := l0'.adds _
    have ih := fun j10 j11 j12 j13 j14 j15 j16 j47 j48 j49 j50 j51 j52 j53 j54 j55 j56 j57 j58 j59 j60 j61 j62 j63 j64 j65 j66 j67 j68 j69 j70 j71 j72 j73 j74 j75 j76 j77 j78 j79 j80 j81 j82 j83 j84 j85 j86 j87 j88 j89 j90 j91 j92 j93 j94 j95 j96 j97 j98 j99 j100 j101 j102 j103 j104 j105 j106 j107 j108 j109 j110 j111 j112 j113 j114 j115 j116 j117 j118 j119 j120 => ih _ _ F done j10 j11 j12 j13 j14 j15 j16 j47 j48 j49 j50 j51 j52 j53 j54 j55 j56 j57 j58 j59 j60 j61 j62 j63 j64 j65 j66 j67 j68 j69 j70 j71 j72 j73 j74 j75 j76 j77 j78 j79 j80 j81 j82 j83 j84 j85 j86 j87 j88 j89 j90 j91 j92 j93 j94 j95 j96 j97 j98 j99 j100 j101 j102 j103 j104 j105 j106 j107 j108 j109 j110 j111 j112 j113 j114 j115 j116 j117 j118 j119 j120 lA I
    cases hdn : r.down with
    | false =>
      have q := r1 hdn
      rw [q] at e
      rw [hdn] at eN
      rw [lo]
      unfold l4x0
      have tf : (true == false) = false := rfl
      simp -implicitDefEqProofs (maxSteps := 5000000) only [go_sem, Nat.reduceShiftRight, Nat.reduceAnd, Nat.reduceBNe, Int.reduceEq, Nat.reduceAdd, Nat.reduceSub, Nat.reduceMul, Nat.reduceLeDiff, reduceIte, reduceCtorEq, Nat.reduceBEq, Nat.reduceEqDiff, wrap64, runC_loop, runC_range, callF_fn, callV_fn, callV_yld, yield_eq, yieldBody, yieldRaw, roundMid, roundEnd, rangeEnd, Bool.not_not, put_cons, put_nil, trim_same, at_zero, at_add, set_zero, set_add, store_one, write_zero, write_add, write_head, write_succ, splice_one, splice_more, List.drop_nil, List.take_nil, cell_int, cell_bool, fillS, splice_one, idxA, Ex.isNormal, List.set_nil, List.length_set, List.all_cons, List.all_nil, Bool.and_self, and_self, true_and, and_true, List.getElem?_nil, Int.reduceLT, Int.reduceLE, Int.reduceToNat, Int.toNat_zero, Int.toNat_one, Int.reduceAdd, Int.reduceSub, Int.reduceMul, Int.reduceNeg, Int.reduceBEq, Int.reduceBNe, Int.reduceGE, Int.reduceGT, Nat.reduceLT, trim_keep, under_fn, under_ptr, under_sl, Nat.lt_irrefl, not_lt_add, trim_tail, keepOk, ABlk.vals, Int.cast_ofNat_Int, decide_true, decide_false, List.all_cons, List.all_nil, Nat.zero_mul, Nat.mul_one, Nat.one_mul, o_call, hl, hd, e2, ix, c0, htk, hsz, hcc, c4, c5, e0, cc, m2, m5, n0, n2, e, store_one, w64, uc, sp, eN, z0, tf, nn, blockR_exit, seqR_exit']
      exact ih ..
    | true =>
      have q := r2 hdn
      have hz : u8s zeros64 = rep 64 (.int .u8 0) := (rep_u8s 64 0).symm
      rw [q] at e wr eN ih w64
      simp only [hz] at e wr eN ih w64
      rw [hdn] at eN
      rw [lo]
      unfold l4x0
      have tf : (false == true) = false := rfl
      have zc : cellsOf (H0 ++ [.rw (rep 64 (.int .u8 0))]) H0.length = some (rep 64 (.int .u8 0)) := by unfold cellsOf; simp
      simp -implicitDefEqProofs (maxSteps := 5000000) only [go_sem, Nat.reduceShiftRight, Nat.reduceAnd, Nat.reduceBNe, Int.reduceEq, Nat.reduceAdd, Nat.reduceSub, Nat.reduceMul, Nat.reduceLeDiff, reduceIte, reduceCtorEq, Nat.reduceBEq, Nat.reduceEqDiff, wrap64, runC_loop, runC_range, callF_fn, callV_fn, callV_yld, yield_eq, yieldBody, yieldRaw, roundMid, roundEnd, rangeEnd, Bool.not_not, put_cons, put_nil, trim_same, at_zero, at_add, set_zero, set_add, store_one, write_zero, write_add, write_head, write_succ, splice_one, splice_more, List.drop_nil, List.take_nil, cell_int, cell_bool, fillS, splice_one, idxA, Ex.isNormal, List.set_nil, List.length_set, List.all_cons, List.all_nil, Bool.and_self, and_self, true_and, and_true, List.getElem?_nil, Int.reduceLT, Int.reduceLE, Int.reduceToNat, Int.toNat_zero, Int.toNat_one, Int.reduceAdd, Int.reduceSub, Int.reduceMul, Int.reduceNeg, Int.reduceBEq, Int.reduceBNe, Int.reduceGE, Int.reduceGT, Nat.reduceLT, trim_keep, under_fn, under_ptr, under_sl, Nat.lt_irrefl, not_lt_add, trim_tail, keepOk, ABlk.vals, Int.cast_ofNat_Int, decide_true, decide_false, List.all_cons, List.all_nil, Nat.zero_mul, Nat.mul_one, Nat.one_mul, o_call, hl, hd, e2, ix, c0, htk, hsz, hcc, c4, c5, e0, cc, m2, m5, n0, n2, e, store_one, rep_cell 64 (.int .u8 0) rfl, splice_rep _ 64 (.int .u8 0) (by omega) (rep_len _ _), eN, z14, tf, nn, ne_rep, zc, blockR_exit, seqR_exit']
      exact ih ..
set_option maxHeartbeats 8000000 in
theorem rigFuses (n : Int) (hn0 : 0 ≤ n ∧ n ≤ 255) (vl : AV) (h : AHeap) (d : DatC h (.sl stepSh) vl) : ∃ h', callBody prog EO 4 [.int .u8 n, vl] h = some (.bool true, h') := by
  obtain ⟨rows, rs, rd, hn⟩ := d.rows
  have rs : RS 6 h vl rows := rs
  rw [d4]
  unfold b4 EO
  refine of_outs ?_
  generalize hQ : (fun (e : Ex) (t : T) (h1 : AHeap) => fin [.tmp 4] (some (e, t, h1)) = some (AV.bool true, h1)) = Q
  obtain ⟨H1, F, l, en⟩ := rinNew (n0 := 5) (n1 := 5) (by omega) (by omega) (by omega) (by omega) h
  rw [show ((5 : Nat) : Int) = 5 from rfl] at en
  obtain ⟨x, ef, hx⟩ := fairC (rs.adds l.old) (fun r hr => (rd r hr).adds l.old) hn
  have z0 : ((0 : Int) != 0) = false := rfl
  have z1 : ((0 : Int) == 0) = true := rfl
  cases x with
  | false =>
    simp -implicitDefEqProofs (maxSteps := 5000000) only [go_sem, Nat.reduceShiftRight, Nat.reduceAnd, Nat.reduceBNe, Int.reduceEq, Nat.reduceAdd, Nat.reduceSub, Nat.reduceMul, Nat.reduceLeDiff, reduceIte, reduceCtorEq, Nat.reduceBEq, Nat.reduceEqDiff, wrap64, runC_loop, runC_range, callF_fn, callV_fn, callV_yld, yield_eq, yieldBody, yieldRaw, roundMid, roundEnd, rangeEnd, Bool.not_not, put_cons, put_nil, trim_same, at_zero, at_add, set_zero, set_add, store_one, write_zero, write_add, write_head, write_succ, splice_one, splice_more, List.drop_nil, List.take_nil, cell_int, cell_bool, fillS, splice_one, idxA, Ex.isNormal, List.set_nil, List.length_set, List.all_cons, List.all_nil, Bool.and_self, and_self, true_and, and_true, List.getElem?_nil, Int.reduceLT, Int.reduceLE, Int.reduceToNat, Int.toNat_zero, Int.toNat_one, Int.reduceAdd, Int.reduceSub, Int.reduceMul, Int.reduceNeg, Int.reduceBEq, Int.reduceBNe, Int.reduceGE, Int.reduceGT, Nat.reduceLT, trim_keep, under_fn, under_ptr, under_sl, Nat.lt_irrefl, not_lt_add, trim_tail, keepOk, ABlk.vals, Int.cast_ofNat_Int, decide_true, decide_false, List.all_cons, List.all_nil, Nat.zero_mul, Nat.mul_one, Nat.one_mul, o_wakes, o_call, en, ef, z0, z1, outs_normal]
    subst hQ
    simp -implicitDefEqProofs (maxSteps := 5000000) only [go_sem, Nat.reduceShiftRight, Nat.reduceAnd, Nat.reduceBNe, Int.reduceEq, Nat.reduceAdd, Nat.reduceSub, Nat.reduceMul, Nat.reduceLeDiff, reduceIte, reduceCtorEq, Nat.reduceBEq, Nat.reduceEqDiff]
  | true =>
    have wn : IntKind.i64.wrap n = n := wrap64 (by omega) (by omega)
    have r30 := int_rem .none .i64 n 30 (by omega)
    rw [Int.tmod_eq_emod_of_nonneg hn0.1] at r30
    obtain ⟨m, hm⟩ : ∃ m : Nat, n % 30 = m := ⟨(n % 30).toNat, by omega⟩
    rw [hm] at r30
    obtain ⟨H', mA, sA, eA⟩ := rinArm l.m (m : Int)
    have lA := l.step mA sA
    have I : FzI ((newRg 5 5).arm m) m 0 := by
      refine ⟨rfl, rfl, rfl, Nat.zero_le _, by omega, .inl ⟨rfl, ?_⟩⟩
      unfold RgS.arm
      rw [if_neg (by omega)]; simp
    have dl := fusesL rs rd (hx rfl) (p := h.length) (m := m) (k := rows.length) (i := 0) (H := H') (F := F) (done := 0)
    rw [show ((0 : Nat) : Int) = 0 from rfl] at dl
    simp -implicitDefEqProofs (maxSteps := 5000000) only [go_sem, Nat.reduceShiftRight, Nat.reduceAnd, Nat.reduceBNe, Int.reduceEq, Nat.reduceAdd, Nat.reduceSub, Nat.reduceMul, Nat.reduceLeDiff, reduceIte, reduceCtorEq, Nat.reduceBEq, Nat.reduceEqDiff, wrap64, runC_loop, runC_range, callF_fn, callV_fn, callV_yld, yield_eq, yieldBody, yieldRaw, roundMid, roundEnd, rangeEnd, Bool.not_not, put_cons, put_nil, trim_same, at_zero, at_add, set_zero, set_add, store_one, write_zero, write_add, write_head, write_succ, splice_one, splice_more, List.drop_nil, List.take_nil, cell_int, cell_bool, fillS, splice_one, idxA, Ex.isNormal, List.set_nil, List.length_set, List.all_cons, List.all_nil, Bool.and_self, and_self, true_and, and_true, List.getElem?_nil, Int.reduceLT, Int.reduceLE, Int.reduceToNat, Int.toNat_zero, Int.toNat_one, Int.reduceAdd, Int.reduceSub, Int.reduceMul, Int.reduceNeg, Int.reduceBEq, Int.reduceBNe, Int.reduceGE, Int.reduceGT, Nat.reduceLT, trim_keep, under_fn, under_ptr, under_sl, Nat.lt_irrefl, not_lt_add, trim_tail, keepOk, ABlk.vals, Int.cast_ofNat_Int, decide_true, decide_false, List.all_cons, List.all_nil, Nat.zero_mul, Nat.mul_one, Nat.one_mul, runC_loop, o_wakes, o_call, en, ef, z0, z1, wn, r30, eA]
    unfold LP at dl
    generalize (envL prog).loop (runC (envO prog (knows 9)) (l4x0 (envO prog (knows 9)))) = L at dl ⊢
    refine outs_ctx (fun r => seqR (blockR 0 r) _) (dl _ _ _ _ _ _ _ _ _ _ _ _ _ _ _ _ _ _ _ _ _ _ _ _ _ _ _ _ _ _ _ _ _ _ _ _ _ _ _ _ _ _ _ _ _ _ _ _ _ _ _ _ _ _ _ _ _ _ _ _ _ _ _ _ _ _ _ _ _ _ _ _ _ _ _ _ _ _ _ _ _ _ _ _ _ _ _ _ _ _ _ _ _ _ _ _ _ _ _ _ _ _ _ _ _ _ _ _ _ _ _ _ _ _ _ _ _ _ _ _ _ _ _ lA I (by omega)) ?_
    rintro e t H' ⟨rfl, r', F', done', c', m', I', k, rfl⟩
    have eD := rinDone m'
    rw [I'.hd] at eD
    have zz : ((done' : Int) == (done' : Int)) = true := by simp
    simp -implicitDefEqProofs (maxSteps := 5000000) only [go_sem, Nat.reduceShiftRight, Nat.reduceAnd, Nat.reduceBNe, Int.reduceEq, Nat.reduceAdd, Nat.reduceSub, Nat.reduceMul, Nat.reduceLeDiff, reduceIte, reduceCtorEq, Nat.reduceBEq, Nat.reduceEqDiff, o_wakes, o_call, eD, zz, outs_normal]
    subst hQ
    simp -implicitDefEqProofs (maxSteps := 5000000) only [go_sem, Nat.reduceShiftRight, Nat.reduceAnd, Nat.reduceBNe, Int.reduceEq, Nat.reduceAdd, Nat.reduceSub, Nat.reduceMul, Nat.reduceLeDiff, reduceIte, reduceCtorEq, Nat.reduceBEq, Nat.reduceEqDiff]
end Go.Proofs.Ythjkfincekckhaa.G04

