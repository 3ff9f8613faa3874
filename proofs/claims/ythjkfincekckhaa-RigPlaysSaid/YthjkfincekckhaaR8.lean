/- What the functions that RigPlays reaches answer, for every argument. No condition but those in each statement. -/
import Derived.Test.YthjkfincekckhaaR7
import Derived.Test.YthjkfincekckhaaE6
set_option linter.unusedSimpArgs false
set_option linter.unusedVariables false
set_option linter.unusedSectionVars false
set_option maxRecDepth 10000
namespace Go.Proofs.Ythjkfincekckhaa.G04
open Go Go.Proofs.Ythjkfincekckhaa.Eng
/-- A rig of a law's own, beside what was there at first. -/
structure LI (h0 H : AHeap) (p c : Nat) (r : RgS) (F : Nat → Prop) : Prop where
  m : RigIn H p c r F
  old : Adds h0 H
  out : ∀ b, F b → h0.length ≤ b
section
variable {h0 H : AHeap} {p c : Nat} {r : RgS} {F : Nat → Prop} (l : LI h0 H p c r F)
include l
theorem LI.step {H' : AHeap} {c' : Nat} {r' : RgS} {F' : Nat → Prop} (m' : RigIn H' p c' r' F') (s : RStep H F H' F') : LI h0 H' p c' r' F' := by
  have hl := l.old.len
  exact ⟨m', s.1.old l.old fun b hb hf => (by have := l.out b hf; omega), fun b hb => (s.2 b hb).elim (l.out b) fun h => by omega⟩
theorem LI.adds (B : AHeap) : LI h0 (H ++ B) p c r F := ⟨l.m.adds B, l.old.trans ⟨B, rfl⟩, l.out⟩
end
section
variable {H : AHeap} {p c : Nat} {r : RgS} {F : Nat → Prop} (m : RigIn H p c r F)
include m
theorem rinRead (dev i : Int) : (envL prog).call 15 [.ptr p 0, .int .i64 dev, .int .i64 i] H = some (.tup [.agg (u8s (r.read dev i).1), .int .i64 (r.read dev i).2], H) := by
  obtain ⟨p0, d0, p1, d1, L0, L1, m, _, _⟩ := m
  exact rigReadC m dev i
theorem rinLen (dev : Int) : (envL prog).call 24 [.ptr p 0, .int .i64 dev] H = some (.int .i64 ((r.dk dev).length : Int), H) := by
  obtain ⟨p0, d0, p1, d1, L0, L1, m, _, _⟩ := m
  exact rigLenC m dev
theorem rinDown : (envL prog).call 22 [.ptr p 0] H = some (.bool r.down, H) := by
  obtain ⟨p0, d0, p1, d1, L0, L1, m, _, _⟩ := m
  exact rigDownC m
theorem rinDone : (envL prog).call 23 [.ptr p 0] H = some (.int .i64 r.done, H) := by
  obtain ⟨p0, d0, p1, d1, L0, L1, m, _, _⟩ := m
  exact rigDoneC m
theorem rinArm (n : Int) : ∃ H', RigIn H' p c (r.arm n) F ∧ RStep H F H' F ∧ (envL prog).call 21 [.ptr p 0, .int .i64 n] H = some (.tup [], H') := by
  obtain ⟨p0, d0, p1, d1, L0, L1, m, h1, h2⟩ := m
  obtain ⟨m', e⟩ := rigArmC m n
  exact ⟨_, ⟨p0, d0, p1, d1, L0, L1, m', h1, fun b hb => by rw [List.length_set]; exact h2 b hb⟩, ⟨Fr.set _ _ (h1 p (.inl rfl)), fun b hb => .inl hb⟩, e⟩
theorem rinWrite (dev i : Int) {z : List Int} (hz : B64 z) (hc : c + 1 ≤ 1000000000) : ∃ H' F', RigIn H' p (c + 1) (r.write dev i z).1 F' ∧ RStep H F H' F' ∧ (envL prog).call 12 [.ptr p 0, .int .i64 dev, .int .i64 i, .agg (u8s z)] H = some (.int .i64 (r.write dev i z).2, H') := by
  obtain ⟨p0, d0, p1, d1, L0, L1, m, h1, h2⟩ := m
  obtain ⟨H', L0', L1', m', f, n, e⟩ := rigWriteC m dev i hz hc
  refine ⟨H', fun b => F b ∨ (H.length ≤ b ∧ b < H'.length), ⟨p0, d0, p1, d1, L0', L1', m', fun b hb => ?_, fun b hb => ?_⟩, ⟨f.mono fun b _ hb => h1 b hb, fun b hb => hb.elim .inl fun h => .inr h.1⟩, e⟩
  · rcases n b hb with h | h
    · exact .inl (h1 b h)
    · exact .inr ⟨h, m'.lt hb⟩
  · rcases hb with h | h
    · exact Nat.lt_of_lt_of_le (h2 b h) f.1
    · exact h.2
theorem rinFlush (dev : Int) : ∃ H', RigIn H' p c (r.flush dev).1 F ∧ RStep H F H' F ∧ H'.length = H.length ∧ (envL prog).call 17 [.ptr p 0, .int .i64 dev] H = some (.int .i64 (r.flush dev).2, H') := by
  obtain ⟨p0, d0, p1, d1, L0, L1, m, h1, h2⟩ := m
  obtain ⟨H', L0', L1', m', f, hl, n, e⟩ := rigFlushC m dev
  exact ⟨H', ⟨p0, d0, p1, d1, L0', L1', m', fun b hb => h1 b (n b hb), fun b hb => by rw [hl]; exact h2 b hb⟩, ⟨f.mono fun b _ hb => h1 b hb, fun b hb => .inl hb⟩, hl, e⟩
theorem rinCrash {v0 v1 : AV} {z0 z1 : List Int} (b0 : BS H v0 z0) (b1 : BS H v1 z1) (u0 : IsU8 z0) (u1 : IsU8 z1) (l0 : LenOk v0) (l1 : LenOk v1) (n0 : ∀ b, slb v0 = some b → b < H.length ∧ ¬ F b) (n1 : ∀ b, slb v1 = some b → b < H.length ∧ ¬ F b) :
    ∃ H', RigIn H' p c (r.crash z0 z1) F ∧ RStep H F H' F ∧ H'.length = H.length ∧ (envL prog).call 19 [.ptr p 0, v0, v1] H = some (.tup [], H') := by
  obtain ⟨p0, d0, p1, d1, L0, L1, m, h1, h2⟩ := m
  obtain ⟨H', L0', L1', m', f, hl, n, e⟩ := rigCrashC m b0 b1 u0 u1 l0 l1 (fun b hb => ⟨(n0 b hb).1, fun h => (n0 b hb).2 (h1 b h)⟩) (fun b hb => ⟨(n1 b hb).1, fun h => (n1 b hb).2 (h1 b h)⟩)
  exact ⟨H', ⟨p0, d0, p1, d1, L0', L1', m', fun b hb => h1 b (n b hb), fun b hb => by rw [hl]; exact h2 b hb⟩, ⟨f.mono fun b _ hb => h1 b hb, fun b hb => .inl hb⟩, hl, e⟩
end
theorem rinNew {n0 n1 : Nat} (a1 : 1 ≤ n0) (a2 : n0 ≤ 4096) (b1 : 1 ≤ n1) (b2 : n1 ≤ 4096) (H : AHeap) : ∃ H' F, LI H H' H.length 0 (newRg n0 n1) F ∧ (envL prog).call 10 [.int .i64 (n0 : Int), .int .i64 (n1 : Int)] H = some (.tup [.ptr H.length 0, .int .i64 0], H') := by
  obtain ⟨H', m, a, e⟩ := rigNewC a1 a2 b1 b2 H
  refine ⟨H', fun b => H.length ≤ b ∧ b < H'.length, ⟨⟨_, _, _, _, _, _, m, fun b hb => ⟨?_, m.lt hb⟩, fun b hb => hb.2⟩, a, fun b hb => hb.1⟩, e⟩
  rcases hb with rfl | hb | hb
  · exact Nat.le_refl _
  · have := fpD_zL hb; omega
  · have := fpD_zL hb; omega
theorem RigIn.up {H : AHeap} {p c c' : Nat} {r : RgS} {F : Nat → Prop} (m : RigIn H p c r F) (h : c ≤ c') (hb : c' ≤ 1000000000) : RigIn H p c' r F := by
  obtain ⟨p0, d0, p1, d1, L0, L1, m, h1, h2⟩ := m
  exact ⟨p0, d0, p1, d1, L0, L1, m.up h hb, h1, h2⟩
end Go.Proofs.Ythjkfincekckhaa.G04

