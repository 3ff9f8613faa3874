/- What the functions that RigPlays reaches answer, for every argument. No condition but those in each statement. -/
import Derived.Test.YthjkfincekckhaaQ0
import Derived.Test.YthjkfincekckhaaX5
set_option linter.unusedSimpArgs false
set_option linter.unusedVariables false
set_option linter.unusedSectionVars false
set_option maxRecDepth 10000
namespace Go.Proofs.Ythjkfincekckhaa.G04
open Go Go.Proofs.Ythjkfincekckhaa.Eng
section
variable {H : AHeap} {p c : Nat} {r : RgS} {F : Nat → Prop} (m : RefIn H p c r F)
include m
theorem rqnRead (dev i : Int) : (envL prog).call 16 [.ptr p 0, .int .i64 dev, .int .i64 i] H = some (.tup [.agg (u8s (r.read dev i).1), .int .i64 (r.read dev i).2], H) := by
  obtain ⟨x, y, L0, L1, m, _, _⟩ := m
  exact rqReadC m dev i
theorem rqnWrite (dev i : Int) {z : List Int} (hz : B64 z) (hc : c + 1 ≤ 1000000000) : ∃ H' F', RefIn H' p (c + 1) (r.write dev i z).1 F' ∧ RStep H F H' F' ∧ (envL prog).call 14 [.ptr p 0, .int .i64 dev, .int .i64 i, .agg (u8s z)] H = some (.int .i64 (r.write dev i z).2, H') := by
  obtain ⟨x, y, L0, L1, m, h1, h2⟩ := m
  obtain ⟨H', L0', L1', m', f, n, e⟩ := rqWriteC m dev i hz hc
  refine ⟨H', fun b => F b ∨ (H.length ≤ b ∧ b < H'.length), ⟨x, y, L0', L1', m', fun b hb => ?_, fun b hb => ?_⟩, ⟨f.mono fun b _ hb => h1 b hb, fun b hb => hb.elim .inl fun h => .inr h.1⟩, e⟩
  · rcases n b hb with h | h
    · exact .inl (h1 b h)
    · exact .inr ⟨h, m'.lt hb⟩
  · rcases hb with h | h
    · exact Nat.lt_of_lt_of_le (h2 b h) f.1
    · exact h.2
theorem rqnFlush (dev : Int) : ∃ H', RefIn H' p c (r.flush dev).1 F ∧ RStep H F H' F ∧ H'.length = H.length ∧ (envL prog).call 18 [.ptr p 0, .int .i64 dev] H = some (.int .i64 (r.flush dev).2, H') := by
  obtain ⟨x, y, L0, L1, m, h1, h2⟩ := m
  obtain ⟨H', L0', L1', m', f, hl, n, e⟩ := rqFlushC m dev
  exact ⟨H', ⟨x, y, L0', L1', m', fun b hb => h1 b (n b hb), fun b hb => by rw [hl]; exact h2 b hb⟩, ⟨f.mono fun b _ hb => h1 b hb, fun b hb => .inl hb⟩, hl, e⟩
theorem rqnCrash {v0 v1 : AV} {z0 z1 : List Int} (b0 : BS H v0 z0) (b1 : BS H v1 z1) (u0 : IsU8 z0) (u1 : IsU8 z1) (n0 : ∀ b, slb v0 = some b → ¬ F b) (n1 : ∀ b, slb v1 = some b → ¬ F b) :
    ∃ H', RefIn H' p c (r.crash z0 z1) F ∧ RStep H F H' F ∧ H'.length = H.length ∧ (envL prog).call 20 [.ptr p 0, v0, v1] H = some (.tup [], H') := by
  obtain ⟨x, y, L0, L1, m, h1, h2⟩ := m
  obtain ⟨H', L0', L1', m', f, hl, n, e⟩ := rqCrashC m b0 b1 u0 u1 (fun b hb h => n0 b hb (h1 b h)) (fun b hb h => n1 b hb (h1 b h))
  exact ⟨H', ⟨x, y, L0', L1', m', fun b hb => h1 b (n b hb), fun b hb => by rw [hl]; exact h2 b hb⟩, ⟨f.mono fun b _ hb => h1 b hb, fun b hb => .inl hb⟩, hl, e⟩
/-- The fuse, set from outside. -/
theorem rqnFuse (n : Int) : ∃ H', RefIn H' p c { r with fuse := n } F ∧ RStep H F H' F ∧ H'.length = H.length ∧ writeN H p 2 [.int .i64 n] = some H' := by
  obtain ⟨x, y, L0, L1, m, h1, h2⟩ := m
  refine ⟨_, ⟨x, y, L0, L1, m.set { r with fuse := n } rfl rfl, h1, fun b hb => by rw [List.length_set]; exact h2 b hb⟩, ⟨Fr.set _ _ (h1 p (.inl rfl)), fun b hb => .inl hb⟩, by simp, ?_⟩
  rw [write_of m.blk, if_pos ⟨by simp [rgCells], rfl⟩, splice_one]; rfl
/-- What the law looks at. -/
theorem rqnSee : ∃ q0 q1 s0 v0 s1 v1, cellsOf H p = some [.ptr q0 0, .ptr q1 0, .int .i64 r.fuse, .bool r.down, .int .i64 r.done] ∧ cellsOf H q0 = some [.sl s0 0 64 r.a.length r.a.length true, v0] ∧ cellsOf H q1 = some [.sl s1 0 64 r.b.length r.b.length true, v1] ∧
    (∀ n : Nat, (h : n < r.a.length) → (r.a[n]).vers = [] → ∃ cs, cellsOf H s0 = some cs ∧ n * 64 + 64 ≤ cs.length ∧ (cs.drop (n * 64)).take 64 = u8s (r.a[n]).last) ∧ (∀ n : Nat, (h : n < r.b.length) → (r.b[n]).vers = [] → ∃ cs, cellsOf H s1 = some cs ∧ n * 64 + 64 ≤ cs.length ∧ (cs.drop (n * 64)).take 64 = u8s (r.b[n]).last) := by
  obtain ⟨x, y, L0, L1, m, h1, h2⟩ := m
  have key : ∀ {q : Pl} {L : List (AV × Sec)} {l : List Sec} (k : RD H q.p q.s q.v c L) (e : L.map (·.2) = l) (n : Nat) (h : n < l.length), (l[n]).vers = [] → ∃ cs, cellsOf H q.s = some cs ∧ n * 64 + 64 ≤ cs.length ∧ (cs.drop (n * 64)).take 64 = u8s (l[n]).last := by
    intro q L l k e n h hv
    obtain ⟨w, w1, w2⟩ := get_sec e h
    obtain ⟨⟨cs, c1, c2, c3⟩, _⟩ := k.row w1
    have ew : l[n] = w.2 := (List.getElem?_eq_some_iff.1 w2).2
    refine ⟨cs, c1, c2, ?_⟩
    rw [ew] at hv ⊢
    have : w.2.last = w.2.there := by unfold Sec.last; rw [hv]; rfl
    rw [this]; exact c3
  have la : r.a.length = L0.length := by rw [← m.e0, List.length_map]
  have lb : r.b.length = L1.length := by rw [← m.e1, List.length_map]
  exact ⟨x.p, y.p, x.s, _, y.s, _, cells_rw m.blk, by rw [la]; exact m.k0.ptr, by rw [lb]; exact m.k1.ptr, key m.k0 m.e0, key m.k1 m.e1⟩
end
/-! ### Two rigs that are alike -/
structure Sim (r q : RgS) : Prop where
  a : r.a = q.a
  b : r.b = q.b
  down : r.down = q.down
  done : r.done = q.done
  fuse : r.fuse = q.fuse ∨ (r.fuse < 0 ∧ q.fuse < 0)
section
variable {r q : RgS} (s : Sim r q)
include s
theorem Sim.dk (dev : Int) : r.dk dev = q.dk dev := by unfold RgS.dk; rw [s.a, s.b]
theorem Sim.read (dev i : Int) : r.read dev i = q.read dev i := by unfold RgS.read; rw [s.dk, s.down]
theorem Sim.put (dev : Int) (l : List Sec) : Sim (r.put dev l) (q.put dev l) := by
  unfold RgS.put
  split
  · exact ⟨rfl, s.b, s.down, s.done, s.fuse⟩
  · split
    · exact ⟨s.a, rfl, s.down, s.done, s.fuse⟩
    · exact s
theorem Sim.pass : r.pass.2 = q.pass.2 ∧ Sim r.pass.1 q.pass.1 := by
  unfold RgS.pass
  by_cases h : r.down = true ∨ r.fuse = 0
  · have h2 : q.down = true ∨ q.fuse = 0 := by
      rcases h with h | h
      · exact .inl (s.down ▸ h)
      · rcases s.fuse with e | e
        · exact .inr (by omega)
        · omega
    rw [if_pos h, if_pos h2]
    exact ⟨rfl, s.a, s.b, rfl, s.done, s.fuse⟩
  · have h2 : ¬ (q.down = true ∨ q.fuse = 0) := by
      intro h2
      apply h
      rcases h2 with h2 | h2
      · exact .inl (s.down ▸ h2)
      · rcases s.fuse with e | e
        · exact .inr (by omega)
        · omega
    rw [if_neg h, if_neg h2]
    refine ⟨rfl, s.a, s.b, s.down, ?_, ?_⟩
    · show IntKind.i64.wrap (r.done + 1) = IntKind.i64.wrap (q.done + 1)
      rw [s.done]
    · show (if r.fuse > 0 then _ else _) = (if q.fuse > 0 then _ else _) ∨ ((if r.fuse > 0 then _ else _) < 0 ∧ (if q.fuse > 0 then _ else _) < 0)
      rcases s.fuse with e | e
      · rw [e]; exact .inl rfl
      · rw [if_neg (by omega), if_neg (by omega)]; exact .inr e
theorem Sim.write (dev i : Int) (z : List Int) : (r.write dev i z).2 = (q.write dev i z).2 ∧ Sim (r.write dev i z).1 (q.write dev i z).1 := by
  obtain ⟨p1, p2⟩ := s.pass
  unfold RgS.write
  rw [s.dk]
  split
  · rw [p1]
    split
    · exact ⟨rfl, p2.put _ _⟩
    · exact ⟨p1, p2⟩
  · exact ⟨rfl, s⟩
theorem Sim.flush (dev : Int) : (r.flush dev).2 = (q.flush dev).2 ∧ Sim (r.flush dev).1 (q.flush dev).1 := by
  obtain ⟨p1, p2⟩ := s.pass
  unfold RgS.flush
  rw [s.dk]
  split
  · rw [p1]
    split
    · exact ⟨rfl, p2.put _ _⟩
    · exact ⟨p1, p2⟩
  · exact ⟨rfl, s⟩
theorem Sim.crash (za zb : List Int) : Sim (r.crash za zb) (q.crash za zb) := by
  unfold RgS.crash
  exact ⟨by show crashS r.a za = _; rw [s.a], by show crashS r.b zb = _; rw [s.b], rfl, s.done, .inl rfl⟩
theorem Sim.arm (n : Int) : Sim (r.arm n) { q with fuse := n } := by
  unfold RgS.arm
  refine ⟨s.a, s.b, s.down, s.done, ?_⟩
  show (if -1 > n then -1 else n) = n ∨ ((if -1 > n then (-1 : Int) else n) < 0 ∧ n < 0)
  split
  · exact .inr ⟨by omega, by omega⟩
  · exact .inl rfl
end
theorem crash_settled : ∀ (ss : List Sec) (zs : List Int), ∀ s ∈ crashS ss zs, s.vers = []
  | [], _, s, h => by cases h
  | a :: ss, zs, s, h => by
    simp only [crashS, List.mem_cons] at h
    rcases h with rfl | h
    · unfold crashSec; split
      · assumption
      · rfl
    · exact crash_settled ss _ s h
/-! ### Both in one heap -/
structure Both (h0 H : AHeap) (p pq c : Nat) (r q : RgS) (F G : Nat → Prop) : Prop where
  l : LI h0 H p c r F
  lq : LQI h0 H pq c q G
  dis : ∀ b, F b → ¬ G b
  sim : Sim r q
  la : r.a.length ≤ 60
  lb : r.b.length ≤ 60
section
variable {h0 H : AHeap} {p pq c : Nat} {r q : RgS} {F G : Nat → Prop}
theorem Both.adds (b : Both h0 H p pq c r q F G) (B : AHeap) : Both h0 (H ++ B) p pq c r q F G := ⟨b.l.adds B, ⟨b.lq.m.adds B, b.lq.old.trans ⟨B, rfl⟩, b.lq.out⟩, b.dis, b.sim, b.la, b.lb⟩
/-- The program's rig went on. -/
theorem both_a (l : LI h0 H p c r F) (lq : LQI h0 H pq c q G) (dis : ∀ b, F b → ¬ G b) {H' : AHeap} {c' : Nat} {r' : RgS} {F' : Nat → Prop} (m' : RigIn H' p c' r' F') (s : RStep H F H' F') : LI h0 H' p c' r' F' ∧ LQI h0 H' pq c q G ∧ ∀ b, F' b → ¬ G b := by
  refine ⟨l.step m' s, ⟨lq.m.fr s.1 fun b hb hf => dis b hf hb, s.1.old lq.old fun b hb hf => (by have := l.out b hf; omega), lq.out⟩, fun b hb hg => ?_⟩
  rcases s.2 b hb with h | h
  · exact dis b h hg
  · have := lq.m.lt b hg; omega
/-- The document's rig went on. -/
theorem both_b (l : LI h0 H p c r F) {c2 : Nat} (lq : LQI h0 H pq c2 q G) (dis : ∀ b, F b → ¬ G b) {H' : AHeap} {c' : Nat} {q' : RgS} {G' : Nat → Prop} (m' : RefIn H' pq c' q' G') (s : RStep H G H' G') : LI h0 H' p c r F ∧ LQI h0 H' pq c' q' G' ∧ ∀ b, F b → ¬ G' b := by
  have hl := lq.old.len
  refine ⟨⟨l.m.fr s.1 fun b hb hf => dis b hb hf, s.1.old l.old fun b hb hf => (by have := lq.out b hf; omega), l.out⟩, ⟨m', s.1.old lq.old fun b hb hf => (by have := lq.out b hf; omega), fun b hb => (s.2 b hb).elim (lq.out b) fun h => by omega⟩, fun b hb hg => ?_⟩
  rcases s.2 b hg with h | h
  · exact dis b hb h
  · have := l.m.lt b hb; omega
end
/-- Bytes, copied anew. -/
theorem copy_bytes {G : AHeap} {b : Nat} (hb : cellsOf G b = some []) {v : AV} {zs : List Int} (h : BS G v zs) (hn : zs.length ≤ 1000000) : ∃ w G', app (ty 1 false 1 [.int .u8 0]) (.sl b 0 1 0 0 true) v G = some (w, G') ∧ Adds G G' ∧ BS G' w zs ∧ (∀ b o s n l e, w = .sl b o s n l e → n ≤ l) ∧ ∀ b', slb w = some b' → b' < G'.length ∧ (b' = b ∨ G.length ≤ b') := by
  have s := h.src
  have rd : readN G b 0 (0 * 1) = some [] := by unfold readN; rw [hb]; rfl
  obtain ⟨d, hd⟩ : ∃ d, d = ty 1 false 1 [.int .u8 0] := ⟨_, rfl⟩
  have d1 : d.size = 1 := by rw [hd]; rfl
  have d2 : d.bytes = 1 := by rw [hd]; rfl
  rw [← hd]
  cases zs with
  | nil =>
    refine ⟨.sl b 0 1 0 0 true, G, ?_, Adds.refl G, .inr ⟨b, 0, 0, true, [], rfl, hb, fun i z hz => by simp at hz, by simp⟩, fun b o s n l e h => by injection h; omega, fun b' hb' => by injection hb' with hb'; subst hb'; exact ⟨lt_of_cells hb, .inl rfl⟩⟩
    unfold app
    rw [s.sl]
    have sc := s.cells
    simp only [List.length_nil] at sc ⊢
    simp only [Option.bind_some, d1, sc]
    unfold appendV
    simp only [d1]
    rw [if_neg (by omega), if_pos trivial]
  | cons z zs =>
    refine ⟨.sl G.length 0 1 (z :: zs).length (z :: zs).length false, G ++ [.rw (u8s (z :: zs))], ?_, ⟨_, rfl⟩, BS.block (by simp), fun b o s n l e h => by injection h; omega, fun b' hb' => by injection hb' with hb'; subst hb'; exact ⟨by simp, .inr (Nat.le_refl _)⟩⟩
    unfold app
    rw [s.sl]
    have sc := s.cells
    simp only [List.length_cons] at sc hn ⊢
    simp only [Option.bind_some, d1, sc]
    unfold appendV
    simp only [d1, d2]
    rw [if_neg (by omega), if_neg (by omega), if_neg (by omega), if_pos (by unfold roomy; omega), rd]
    simp
theorem put_len (r : RgS) (dev : Int) (l : List Sec) (h : l.length = (r.dk dev).length) : (r.put dev l).a.length = r.a.length ∧ (r.put dev l).b.length = r.b.length := by
  unfold RgS.put
  unfold RgS.dk at h
  by_cases h0 : dev = 0
  · rw [if_pos h0] at h ⊢; exact ⟨h, rfl⟩
  · rw [if_neg h0] at h ⊢
    by_cases h1 : dev = 1
    · rw [if_pos h1] at h ⊢; exact ⟨rfl, h⟩
    · rw [if_neg h1]; exact ⟨rfl, rfl⟩
theorem pass_ab (r : RgS) : r.pass.1.a = r.a ∧ r.pass.1.b = r.b := by unfold RgS.pass; split <;> exact ⟨rfl, rfl⟩
theorem pass_dk (r : RgS) (dev : Int) : r.pass.1.dk dev = r.dk dev := by unfold RgS.dk; rw [(pass_ab r).1, (pass_ab r).2]
theorem write_lens (r : RgS) (dev i : Int) (z : List Int) : (r.write dev i z).1.a.length = r.a.length ∧ (r.write dev i z).1.b.length = r.b.length := by
  unfold RgS.write
  split
  · split
    · obtain ⟨q1, q2⟩ := put_len r.pass.1 dev ((r.dk dev).modify i.toNat fun s => ⟨s.there, s.vers ++ [z]⟩) (by rw [List.length_modify, pass_dk])
      rw [(pass_ab r).1] at q1
      rw [(pass_ab r).2] at q2
      exact ⟨q1, q2⟩
    · exact ⟨by rw [(pass_ab r).1], by rw [(pass_ab r).2]⟩
  · exact ⟨rfl, rfl⟩
theorem write_len (r : RgS) (dev i : Int) (z : List Int) : (r.write dev i z).1.a.length = r.a.length := (write_lens r dev i z).1
theorem write_lenb (r : RgS) (dev i : Int) (z : List Int) : (r.write dev i z).1.b.length = r.b.length := (write_lens r dev i z).2
theorem flush_lens (r : RgS) (dev : Int) : (r.flush dev).1.a.length = r.a.length ∧ (r.flush dev).1.b.length = r.b.length := by
  unfold RgS.flush
  split
  · split
    · obtain ⟨q1, q2⟩ := put_len r.pass.1 dev ((r.dk dev).map settled) (by rw [List.length_map, pass_dk])
      rw [(pass_ab r).1] at q1
      rw [(pass_ab r).2] at q2
      exact ⟨q1, q2⟩
    · exact ⟨by rw [(pass_ab r).1], by rw [(pass_ab r).2]⟩
  · exact ⟨rfl, rfl⟩
theorem flush_len (r : RgS) (dev : Int) : (r.flush dev).1.a.length = r.a.length := (flush_lens r dev).1
theorem flush_lenb (r : RgS) (dev : Int) : (r.flush dev).1.b.length = r.b.length := (flush_lens r dev).2
end Go.Proofs.Ythjkfincekckhaa.G04

