/- What the functions that GeomGrows reaches answer, for every argument. No condition but those in each statement. -/
import Derived.Test.YtbkjhapaacamnaaL4
set_option linter.unusedSimpArgs false
set_option linter.unusedVariables false
set_option maxRecDepth 10000
namespace Go.Proofs.Ytbkjhapaacamnaa.G07
open Go Go.Proofs.Ytbkjhapaacamnaa.Eng

theorem btw_true {n a b : Int} (h : btw n a b = true) : a ≤ n ∧ n ≤ b := by
  unfold btw at h
  simp only [Bool.and_eq_true, decide_eq_true_eq, ge_iff_le] at h
  exact h

theorem shape_true {b s w a : Int} (h : shapeB b s w a = true) : (1 ≤ b ∧ b ≤ 64) ∧ (1 ≤ s ∧ s ≤ 8) ∧ (1 ≤ w ∧ w ≤ 4) ∧ (0 ≤ a ∧ a ≤ 200) := by
  unfold shapeB at h
  simp only [Bool.and_eq_true] at h
  exact ⟨btw_true h.1.1.1, btw_true h.1.1.2, btw_true h.1.2, btw_true h.2⟩

/-- How many bytes, of a shape that may be. -/
theorem bytes_num {b s w : Int} (hb : 1 ≤ b ∧ b ≤ 64) (hs : 1 ≤ s ∧ s ≤ 9) (hw : 1 ≤ w ∧ w ≤ 4) : (1 ≤ s * w ∧ s * w ≤ 36) ∧ bytesW b s w = 10 + s * w + b + 8 * (4 + (b + 7) / 8 + b) := by
  have h1 : s * w ≤ 9 * 4 := Int.mul_le_mul hs.2 hw.2 (by omega) (by omega)
  have h2 : 1 * 1 ≤ s * w := Int.mul_le_mul hs.1 hw.1 (by omega) (by omega)
  refine ⟨⟨by omega, by omega⟩, ?_⟩
  unfold bytesW
  generalize s * w = n at *
  have e1 : IntKind.i64.wrap n = n := wrap64 (by omega) (by omega)
  have e2 : IntKind.i64.wrap (b + 7) = b + 7 := wrap64 (by omega) (by omega)
  have e3 : (b + 7).tdiv 8 = (b + 7) / 8 := Int.tdiv_eq_ediv_of_nonneg (by omega)
  rw [e1, e2, e3]
  have e4 : IntKind.i64.wrap ((b + 7) / 8) = (b + 7) / 8 := wrap64 (by omega) (by omega)
  have e5 : IntKind.i64.wrap (10 + n) = 10 + n := wrap64 (by omega) (by omega)
  rw [e4, e5]
  have e6 : IntKind.i64.wrap (4 + (b + 7) / 8) = 4 + (b + 7) / 8 := wrap64 (by omega) (by omega)
  have e7 : IntKind.i64.wrap (10 + n + b) = 10 + n + b := wrap64 (by omega) (by omega)
  rw [e6, e7]
  have e8 : IntKind.i64.wrap (4 + (b + 7) / 8 + b) = 4 + (b + 7) / 8 + b := wrap64 (by omega) (by omega)
  rw [e8]
  have e9 : IntKind.i64.wrap (8 * (4 + (b + 7) / 8 + b)) = 8 * (4 + (b + 7) / 8 + b) := wrap64 (by omega) (by omega)
  rw [e9]
  exact wrap64 (by omega) (by omega)

theorem count_num {n : Int} (h1 : 1 ≤ n) (h2 : n ≤ 100000) : countW n = (n - 1) / 48 + 1 := by
  unfold countW
  have e0 : decide (n < 1) = false := by simp; omega
  rw [e0, cond_false]
  have e2 : IntKind.i64.wrap (n - 1) = n - 1 := wrap64 (by omega) (by omega)
  have e3 : (n - 1).tdiv 48 = (n - 1) / 48 := Int.tdiv_eq_ediv_of_nonneg (by omega)
  rw [e2, e3]
  have e4 : IntKind.i64.wrap ((n - 1) / 48) = (n - 1) / 48 := wrap64 (by omega) (by omega)
  rw [e4]
  exact wrap64 (by omega) (by omega)

structure Nums (b s w a r n y c : Int) : Prop where
  hb : 1 ≤ b ∧ b ≤ 64
  hs : 1 ≤ s ∧ s ≤ 8
  hw : 1 ≤ w ∧ w ≤ 4
  ha : 0 ≤ a ∧ a ≤ 200
  hn : 1 ≤ n ∧ n ≤ 32
  en : s * w = n
  ey : y = 10 + n + b + 8 * (4 + (b + 7) / 8 + b)
  eb : bytesW b s w = y
  ec : c = (y - 1) / 48 + 1
  ep : countW y = c
  hr : c + 2 ≤ r ∧ r ≤ 256
  g : goodB b s w a r = true

theorem nums {b s w a r : Int} (hg : goodB b s w a r = true) : ∃ n y c, Nums b s w a r n y c := by
  have hg' := hg
  unfold goodB at hg
  simp only [Bool.and_eq_true] at hg
  obtain ⟨hb, hs, hw, ha⟩ := shape_true hg.1
  obtain ⟨hn, hy⟩ := bytes_num hb ⟨hs.1, by omega⟩ hw
  have h1 : s * w ≤ 8 * 4 := Int.mul_le_mul hs.2 hw.2 (by omega) (by omega)
  have hc := count_num (n := bytesW b s w) (by omega) (by omega)
  have hr := btw_true hg.2
  have e : IntKind.i64.wrap (countW (bytesW b s w) + 2) = countW (bytesW b s w) + 2 := wrap64 (by omega) (by omega)
  rw [e] at hr
  exact ⟨s * w, bytesW b s w, countW (bytesW b s w), hb, hs, hw, ha, ⟨hn.1, by omega⟩, rfl, hy, rfl, hc, rfl, hr, hg'⟩

section
variable {b s w a r n y c : Int} (N : Nums b s w a r n y c) (h : AHeap)
include N
theorem Nums.good : (envL prog).call 7 [geo b s w a r] h = some (.bool true, h) := by rw [goodL, N.g]
theorem Nums.goodr : (envL prog).call 8 [geo b s w a r] h = some (.bool true, h) := by rw [goodR, N.g]
theorem Nums.bytes : (envL prog).call 9 [geo b s w a r] h = some (.int .i64 y, h) := by
  rw [bytesG]; unfold byB; rw [N.g, cond_true, N.eb]
theorem Nums.pages : (envL prog).call 10 [geo b s w a r] h = some (.int .i64 c, h) := by
  rw [pagesG]; unfold pagesB byB; rw [N.g, cond_true, N.eb, N.ep]
theorem Nums.ring : (envL prog).call 11 [geo b s w a r] h = some (.int .i64 2, h) := by rw [ringG, N.g, cond_true]
theorem Nums.e2 : at2 r = 2 + r := wrap64 (by have := N.hr; have := N.ec; have := N.ey; have := N.hb; have := N.hn; omega) (by have := N.hr; omega)
theorem Nums.e3 : at3 b s w a r = 2 + r + c := by
  unfold at3 pagesB byB
  rw [N.e2, N.g, cond_true, N.eb, N.ep]
  have := N.hr; have := N.ec; have := N.ey; have := N.hb; have := N.hn
  exact wrap64 (by omega) (by omega)
theorem Nums.e4 : at4 b s w a r = 2 + r + c + n := by
  unfold at4
  have := N.hr; have := N.ec; have := N.ey; have := N.hb; have := N.hn
  rw [N.e3, N.en, show IntKind.i64.wrap n = n from wrap64 (by omega) (by omega)]
  exact wrap64 (by omega) (by omega)
theorem Nums.home : (envL prog).call 12 [geo b s w a r] h = some (.int .i64 (2 + r), h) := by rw [homeG, N.g, cond_true, N.e2]
theorem Nums.fast : (envL prog).call 13 [geo b s w a r] h = some (.int .i64 (2 + r + c + n), h) := by rw [fastZ, N.g, cond_true, N.e4]
theorem Nums.slow : (envL prog).call 14 [geo b s w a r] h = some (.int .i64 (b + a), h) := by
  have := N.hb; have := N.ha
  rw [slowZ, N.g, cond_true, show IntKind.i64.wrap (b + a) = b + a from wrap64 (by omega) (by omega)]
theorem Nums.wn : IntKind.i64.wrap (s * w) = n := by
  have := N.hn
  rw [N.en]; exact wrap64 (by omega) (by omega)
theorem Nums.slot {i : Int} (h1 : 0 ≤ i) (h2 : i < n) : (envL prog).call 15 [geo b s w a r, .int .i64 i] h = some (.int .i64 (2 + r + c + i), h) := by
  have := N.hr; have := N.ec; have := N.ey; have := N.hb; have := N.hn
  rw [slotG]; unfold slotW
  rw [N.g, N.wn, show decide (i < 0) = false by simp; omega, show decide (i ≥ n) = false by simp; omega, N.e3]
  simp only [Bool.not_true, Bool.or_self, cond_false, cond_true]
  rw [show IntKind.i64.wrap (2 + r + c + i) = 2 + r + c + i from wrap64 (by omega) (by omega)]
theorem Nums.slotn : (envL prog).call 15 [geo b s w a r, .int .i64 n] h = some (.int .i64 0, h) := by
  rw [slotG]; unfold slotW
  rw [N.g, N.wn, show decide (n ≥ n) = true by simp]
  simp only [Bool.or_true, cond_true]
theorem Nums.area {i : Int} (h1 : 0 ≤ i) (h2 : i < a) : (envL prog).call 17 [geo b s w a r, .int .i64 i] h = some (.int .i64 (b + i), h) := by
  have := N.hb; have := N.ha
  rw [areaG]; unfold areaW
  rw [N.g, show decide (i < 0) = false by simp; omega, show decide (i ≥ a) = false by simp; omega]
  simp only [Bool.not_true, Bool.or_self, cond_false]
  rw [show IntKind.i64.wrap (b + i) = b + i from wrap64 (by omega) (by omega)]
theorem Nums.arean : (envL prog).call 17 [geo b s w a r, .int .i64 a] h = some (.int .i64 0, h) := by
  rw [areaG]; unfold areaW
  rw [N.g, show decide (a ≥ a) = true by simp]
  simp only [Bool.or_true, cond_true]
end

end Go.Proofs.Ytbkjhapaacamnaa.G07

