/- What the functions that WaysPlays reaches answer, for every argument. No condition but those in each statement. -/
import Derived.Test.YtodoakeifdiidaaW6
import Derived.Test.YtodoakeifdiidaaE5
set_option linter.unusedSimpArgs false
set_option linter.unusedVariables false
set_option maxRecDepth 10000
namespace Go.Proofs.Ytodoakeifdiidaa.G13
open Go Go.Proofs.Ytodoakeifdiidaa.Eng

/-! ### What the clock does, in numbers alone -/
theorem findW_none {S : List Slot} {base : Nat} {blk : Int} : ∀ {m w : Nat}, findW S base blk m w = none → ∀ j, w ≤ j → j < w + m → (sl S (base + j)).b ≠ blk
  | 0, w, _, j, h1, h2 => by omega
  | m + 1, w, h, j, h1, h2 => by
    simp only [findW] at h
    split at h
    · cases h
    · by_cases e : j = w
      · subst e; assumption
      · exact findW_none h j (by omega) (by omega)
theorem findW_some {S : List Slot} {base : Nat} {blk : Int} {m w j : Nat} (h1 : w ≤ j) (h2 : j < w + m) (h : (sl S (base + j)).b = blk) : ∃ i, findW S base blk m w = some i := by
  cases hf : findW S base blk m w with
  | none => exact absurd h (findW_none hf j h1 h2)
  | some i => exact ⟨i, rfl⟩
def Agree (base ways : Nat) (S T : List Slot) : Prop := ∀ w, w < ways → sl S (base + w) = sl T (base + w)
theorem findW_congr {base ways : Nat} {S T : List Slot} (a : Agree base ways S T) (blk : Int) : ∀ m w, w + m ≤ ways → findW S base blk m w = findW T base blk m w
  | 0, _, _ => rfl
  | m + 1, w, h => by
    simp only [findW]
    rw [a w (by omega), findW_congr a blk m (w + 1) (by omega)]
theorem agree_set {base ways : Nat} {S T : List Slot} (a : Agree base ways S T) {h : Nat} (hS : base + h < S.length) (hT : base + h < T.length) (x : Slot) : Agree base ways (S.set (base + h) x) (T.set (base + h) x) := by
  intro w hw
  rw [sl_set _ _ _ _ hS, sl_set _ _ _ _ hT, a w hw]
theorem agree_out {base ways : Nat} {S T : List Slot} (a : Agree base ways S T) {i : Nat} (hS : i < S.length) (hi : i < base ∨ base + ways ≤ i) (x : Slot) : Agree base ways (S.set i x) T := by
  intro w hw
  rw [sl_set _ _ _ _ hS, if_neg (by omega), a w hw]
theorem clock_len (ways base : Nat) : ∀ k S h, (clockW ways base k S h).1.length = S.length
  | 0, _, _ => rfl
  | k + 1, S, h => by
    simp only [clockW]
    split
    · exact clock_len ways base k S _
    · split
      · rw [clock_len ways base k]; simp
      · simp
theorem clock_congr {base ways : Nat} (w1 : 1 ≤ ways) : ∀ k S T h, h < ways → base + ways ≤ S.length → base + ways ≤ T.length → Agree base ways S T →
    Agree base ways (clockW ways base k S h).1 (clockW ways base k T h).1 ∧ (clockW ways base k S h).2 = (clockW ways base k T h).2
  | 0, S, T, h, _, _, _, a => ⟨a, rfl⟩
  | k + 1, S, T, h, hh, hS, hT, a => by
    have hm : (h + 1) % ways < ways := Nat.mod_lt _ (by omega)
    simp only [clockW]
    rw [← a h hh]
    split
    · exact clock_congr w1 k S T _ hm hS hT a
    · split
      · exact clock_congr w1 k _ _ _ hm (by simp; omega) (by simp; omega) (agree_set a (by omega) (by omega) _)
      · exact ⟨agree_set a (by omega) (by omega) _, rfl⟩
theorem clock_frame {base ways : Nat} (w1 : 1 ≤ ways) : ∀ k S h, h < ways → base + ways ≤ S.length → ∀ j, (j < base ∨ base + ways ≤ j) → sl (clockW ways base k S h).1 j = sl S j
  | 0, _, _, _, _, _, _ => rfl
  | k + 1, S, h, hh, hS, j, hj => by
    have hm : (h + 1) % ways < ways := Nat.mod_lt _ (by omega)
    simp only [clockW]
    split
    · exact clock_frame w1 k S _ hm hS j hj
    · split
      · rw [clock_frame w1 k _ _ hm (by simp; omega) j hj, sl_set _ _ _ _ (by omega), if_neg (by omega)]
      · show sl (S.set (base + h) none') j = _
        rw [sl_set _ _ _ _ (by omega), if_neg (by omega)]
theorem clock_hand {base ways : Nat} (w1 : 1 ≤ ways) : ∀ k S h, h < ways → (clockW ways base k S h).2.1 < ways
  | 0, _, _, hh => hh
  | k + 1, S, h, hh => by
    have hm : (h + 1) % ways < ways := Nat.mod_lt _ (by omega)
    simp only [clockW]
    split
    · exact clock_hand w1 k _ _ hm
    · split
      · exact clock_hand w1 k _ _ hm
      · exact hm
/-- The slot that is told: one of the set's, not dirty; it is free now, and else only marks are other ones. -/
theorem clock_some {base ways : Nat} (w1 : 1 ≤ ways) : ∀ k S h i, h < ways → base + ways ≤ S.length → (clockW ways base k S h).2.2 = some i →
    base ≤ i ∧ i < base + ways ∧ (sl S i).d = false ∧ sl (clockW ways base k S h).1 i = none' ∧ ∀ j, j ≠ i → (sl (clockW ways base k S h).1 j).b = (sl S j).b ∧ (sl (clockW ways base k S h).1 j).d = (sl S j).d
  | 0, _, _, _, _, _, e => by simp [clockW] at e
  | k + 1, S, h, i, hh, hS, e => by
    have hm : (h + 1) % ways < ways := Nat.mod_lt _ (by omega)
    simp only [clockW] at e ⊢
    split at e
    · rename_i h1; rw [if_pos h1]; exact clock_some w1 k S _ i hm hS e
    · rename_i h1; rw [if_neg h1]
      split at e
      · rename_i h2; rw [if_pos h2]
        obtain ⟨a1, a2, a3, a4, a5⟩ := clock_some w1 k _ _ i hm (by simp; omega) e
        refine ⟨a1, a2, ?_, a4, fun j hj => ?_⟩
        · rw [sl_set _ _ _ _ (by omega)] at a3
          split at a3
          · rename_i e2; subst e2; exact a3
          · exact a3
        · have := a5 j hj
          rw [sl_set _ _ _ _ (by omega)] at this
          split at this
          · rename_i e2; subst e2; exact this
          · exact this
      · rename_i h2; rw [if_neg h2]
        injection e with e; subst e
        refine ⟨by omega, by omega, by simpa using h1, ?_, fun j hj => ?_⟩
        · show sl (S.set (base + h) none') (base + h) = _
          rw [sl_set _ _ _ _ (by omega), if_pos rfl]
        · show (sl (S.set (base + h) none') j).b = _ ∧ (sl (S.set (base + h) none') j).d = _
          rw [sl_set _ _ _ _ (by omega), if_neg hj]; exact ⟨rfl, rfl⟩
theorem clock_none {base ways : Nat} (w1 : 1 ≤ ways) : ∀ k S h, h < ways → base + ways ≤ S.length → (clockW ways base k S h).2.2 = none →
    ∀ j, (sl (clockW ways base k S h).1 j).b = (sl S j).b ∧ (sl (clockW ways base k S h).1 j).d = (sl S j).d
  | 0, _, _, _, _, _, _ => ⟨rfl, rfl⟩
  | k + 1, S, h, hh, hS, e, j => by
    have hm : (h + 1) % ways < ways := Nat.mod_lt _ (by omega)
    simp only [clockW] at e ⊢
    split at e
    · rename_i h1; rw [if_pos h1]; exact clock_none w1 k S _ hm hS e j
    · rename_i h1; rw [if_neg h1]
      split at e
      · rename_i h2; rw [if_pos h2]
        have := clock_none w1 k _ _ hm (by simp; omega) e j
        rw [sl_set _ _ _ _ (by omega)] at this
        split at this
        · rename_i e2; subst e2; exact this
        · exact this
      · cases e
theorem mod_step (h j ways : Nat) (w1 : 1 ≤ ways) : ((h + 1) % ways + j) % ways = (h + (j + 1)) % ways := by
  rw [Nat.mod_add_mod, Nat.add_assoc, Nat.add_comm 1 j]
/-- A clean slot without a mark is not passed over. -/
theorem clock_take {base ways : Nat} (w1 : 1 ≤ ways) {w : Nat} (hw : w < ways) : ∀ k S h j, h < ways → base + ways ≤ S.length → (sl S (base + w)).d = false → (sl S (base + w)).m = false → j < k → (h + j) % ways = w → (clockW ways base k S h).2.2 ≠ none
  | 0, _, _, _, _, _, _, _, h, _ => by omega
  | k + 1, S, h, j, hh, hS, hd, hmm, hj, e => by
    have hm : (h + 1) % ways < ways := Nat.mod_lt _ (by omega)
    by_cases hw' : h = w
    · subst hw'
      simp [clockW, hd, hmm]
    · have hj0 : j ≠ 0 := by
        intro h0; subst h0; rw [Nat.add_zero, Nat.mod_eq_of_lt hh] at e; exact hw' e
      have e' : ((h + 1) % ways + (j - 1)) % ways = w := by rw [mod_step h (j - 1) ways w1, show j - 1 + 1 = j by omega]; exact e
      simp only [clockW]
      split
      · exact clock_take w1 hw k S _ (j - 1) hm hS hd hmm (by omega) e'
      · split
        · refine clock_take w1 hw k _ _ (j - 1) hm (by simp; omega) ?_ ?_ (by omega) e'
          · rw [sl_set _ _ _ _ (by omega), if_neg (by omega)]; exact hd
          · rw [sl_set _ _ _ _ (by omega), if_neg (by omega)]; exact hmm
        · simp
theorem clock_twice {base ways : Nat} (w1 : 1 ≤ ways) {w : Nat} (hw : w < ways) : ∀ k S h j, h < ways → base + ways ≤ S.length → (sl S (base + w)).d = false → j + ways < k → (h + j) % ways = w → (clockW ways base k S h).2.2 ≠ none
  | 0, _, _, _, _, _, _, h, _ => by omega
  | k + 1, S, h, j, hh, hS, hd, hj, e => by
    have hm : (h + 1) % ways < ways := Nat.mod_lt _ (by omega)
    by_cases hw' : h = w
    · subst hw'
      cases hmm : (sl S (base + h)).m with
      | false => exact clock_take w1 hh (k + 1) S h 0 hh hS hd hmm (by omega) (by rw [Nat.add_zero, Nat.mod_eq_of_lt hh])
      | true =>
        simp only [clockW, hd, hmm]
        refine clock_take w1 hh k _ _ (ways - 1) hm (by simp; omega) ?_ ?_ (by omega) ?_
        · rw [sl_set _ _ _ _ (by omega), if_pos rfl]
        · rw [sl_set _ _ _ _ (by omega), if_pos rfl]
        · rw [mod_step h (ways - 1) ways w1, show ways - 1 + 1 = ways by omega, Nat.add_mod_right, Nat.mod_eq_of_lt hh]
    · have hj0 : j ≠ 0 := by
        intro h0; subst h0; rw [Nat.add_zero, Nat.mod_eq_of_lt hh] at e; exact hw' e
      have e' : ((h + 1) % ways + (j - 1)) % ways = w := by rw [mod_step h (j - 1) ways w1, show j - 1 + 1 = j by omega]; exact e
      simp only [clockW]
      split
      · exact clock_twice w1 hw k S _ (j - 1) hm hS hd (by omega) e'
      · split
        · refine clock_twice w1 hw k _ _ (j - 1) hm (by simp; omega) ?_ (by omega) e'
          rw [sl_set _ _ _ _ (by omega), if_neg (by omega)]; exact hd
        · simp
/-- Without room all of a set are dirty. -/
theorem clock_full {base ways : Nat} (w1 : 1 ≤ ways) {S : List Slot} {h : Nat} (hh : h < ways) (hS : base + ways ≤ S.length) (e : (clockW ways base (2 * ways) S h).2.2 = none) (w : Nat) (hw : w < ways) : (sl S (base + w)).d = true := by
  cases hd : (sl S (base + w)).d with
  | true => rfl
  | false =>
    have : (h + (w + ways - h) % ways) % ways = w := by
      rw [Nat.add_mod_mod, show h + (w + ways - h) = w + ways by omega, Nat.add_mod_right, Nat.mod_eq_of_lt hw]
    have hlt : (w + ways - h) % ways < ways := Nat.mod_lt _ (by omega)
    exact absurd e (clock_twice w1 hw (2 * ways) S h ((w + ways - h) % ways) hh hS hd (by omega) this)
end Go.Proofs.Ytodoakeifdiidaa.G13

