/- What the functions that BitsSets reaches answer, for every argument. No condition but those in each statement. -/
import Derived.Test.YtgggepohkdmjeaaLA
set_option linter.unusedSimpArgs false
set_option linter.unusedVariables false
set_option maxRecDepth 10000
namespace Go.Proofs.Ytgggepohkdmjeaa.G09
open Go Go.Proofs.Ytgggepohkdmjeaa.Eng

/-! ### What sets of bits are -/
theorem u8_nat (x y : Nat) (hx : x < 256) (hy : y < 256) : orI (x : Int) (y : Int) = ((x ||| y : Nat) : Int) := by
  have hlt : x ||| y < 2 ^ 8 := Nat.or_lt_two_pow (by simpa using hx) (by simpa using hy)
  unfold orI
  have e : (BitVec.ofInt 8 (x : Int) ||| BitVec.ofInt 8 (y : Int)).toNat = x ||| y := by
    rw [BitVec.toNat_or]
    simp only [BitVec.ofInt_natCast, BitVec.toNat_ofNat]
    rw [Nat.mod_eq_of_lt (by simpa using hx), Nat.mod_eq_of_lt (by simpa using hy)]
  rw [e]
  unfold IntKind.wrap
  simp only [show IntKind.u8.signed = false from rfl, show IntKind.u8.bits = 8 from rfl, Bool.false_and, Bool.false_eq_true, if_false]
  have : ((x ||| y : Nat) : Int) < 256 := by
    have : x ||| y < 256 := by simpa using hlt
    omega
  omega
theorem bit_test : ∀ z : Fin 256, ∀ r : Fin 8, bitB ((z.1 : Nat) : Int) ((r.1 : Nat) : Int) = z.1.testBit r.1 := by decide +kernel
theorem bit_in : ∀ z : Fin 256, ∀ r : Fin 8, bitB ((z.1 : Nat) : Int) ((r.1 : Nat) : Int) = true → orI ((z.1 : Nat) : Int) (IntKind.u8.wrap (1 * 2 ^ min (((r.1 : Nat) : Int)).toNat 8)) = ((z.1 : Nat) : Int) := by decide +kernel
theorem bit_put : ∀ z : Fin 256, ∀ r s : Fin 8, bitB (orI ((z.1 : Nat) : Int) (IntKind.u8.wrap (1 * 2 ^ min (((r.1 : Nat) : Int)).toNat 8))) ((s.1 : Nat) : Int) = (bitB ((z.1 : Nat) : Int) ((s.1 : Nat) : Int) || decide (r = s)) := by decide +kernel
theorem u8_ex {z : Int} (h : 0 ≤ z ∧ z ≤ 255) : ∃ n : Nat, n < 256 ∧ z = n := ⟨z.toNat, by omega, by omega⟩
theorem bit_or {x y : Int} (hx : 0 ≤ x ∧ x ≤ 255) (hy : 0 ≤ y ∧ y ≤ 255) {r : Nat} (hr : r < 8) : bitB (orI x y) (r : Int) = (bitB x r || bitB y r) := by
  obtain ⟨a, ha, rfl⟩ := u8_ex hx
  obtain ⟨b, hb, rfl⟩ := u8_ex hy
  rw [u8_nat a b ha hb]
  have hlt : a ||| b < 2 ^ 8 := Nat.or_lt_two_pow (by simpa using ha) (by simpa using hb)
  rw [bit_test ⟨a ||| b, by simpa using hlt⟩ ⟨r, hr⟩, bit_test ⟨a, ha⟩ ⟨r, hr⟩, bit_test ⟨b, hb⟩ ⟨r, hr⟩]
  simp
def byteAt (zs : List Int) (q : Nat) : Int := (zs[q]?).getD 0
theorem byteAt_u8 {zs : List Int} (h : IsU8 zs) (q : Nat) : 0 ≤ byteAt zs q ∧ byteAt zs q ≤ 255 := by
  unfold byteAt
  cases e : zs[q]? with
  | none => simp
  | some z => exact h z (List.mem_of_getElem? e)
theorem hasS_nat (zs : List Int) (j : Nat) : hasS zs (j : Int) = bitB (byteAt zs (j / 8)) ((j % 8 : Nat) : Int) := by
  unfold hasS byteAt
  have e1 : ((j : Int)).tdiv 8 = ((j / 8 : Nat) : Int) := by rw [Int.tdiv_eq_ediv_of_nonneg (by omega)]; omega
  have e2 : ((j : Int)).tmod 8 = ((j % 8 : Nat) : Int) := by rw [Int.tmod_eq_emod_of_nonneg (by omega)]; omega
  rw [e1, e2, Int.toNat_natCast]
  by_cases h : j / 8 < zs.length
  · have d1 : decide ((j : Int) ≥ 0) = true := by simp
    have d2 : decide (((j / 8 : Nat) : Int) < (zs.length : Int)) = true := by simp only [decide_eq_true_eq]; omega
    rw [d1, d2]; rfl
  · have d2 : decide (((j / 8 : Nat) : Int) < (zs.length : Int)) = false := by simp only [decide_eq_false_iff_not]; omega
    rw [d2, List.getElem?_eq_none (by omega)]
    have := bit_test ⟨0, by omega⟩ ⟨j % 8, by omega⟩
    simp only [Bool.and_false, Bool.false_and, Option.getD_none]
    exact (this.trans (by simp)).symm
theorem hasS_neg (zs : List Int) {j : Int} (h : j < 0) : hasS zs j = false := by
  unfold hasS
  have d1 : decide (j ≥ 0) = false := by simp; omega
  rw [d1]; rfl
theorem orI_zero {x : Int} (hx : 0 ≤ x ∧ x ≤ 255) : orI x 0 = x := by
  obtain ⟨a, ha, rfl⟩ := u8_ex hx
  have := u8_nat a 0 ha (by omega)
  simpa using this
theorem orI_comm (x y : Int) : orI x y = orI y x := by unfold orI; rw [BitVec.or_comm]
theorem orI_assoc {x y z : Int} (hx : 0 ≤ x ∧ x ≤ 255) (hy : 0 ≤ y ∧ y ≤ 255) (hz : 0 ≤ z ∧ z ≤ 255) : orI x (orI y z) = orI (orI x y) z := by
  obtain ⟨a, ha, rfl⟩ := u8_ex hx
  obtain ⟨b, hb, rfl⟩ := u8_ex hy
  obtain ⟨c, hc, rfl⟩ := u8_ex hz
  have h1 : b ||| c < 2 ^ 8 := Nat.or_lt_two_pow (by simpa using hb) (by simpa using hc)
  have h2 : a ||| b < 2 ^ 8 := Nat.or_lt_two_pow (by simpa using ha) (by simpa using hb)
  rw [u8_nat b c hb hc, u8_nat a b ha hb, u8_nat a _ ha (by simpa using h1), u8_nat _ c (by simpa using h2) hc, Nat.or_assoc]
theorem orI_self {x : Int} (hx : 0 ≤ x ∧ x ≤ 255) : orI x x = x := by
  obtain ⟨a, ha, rfl⟩ := u8_ex hx
  rw [u8_nat a a ha ha, Nat.or_self]
theorem orL_at : ∀ (p q : List Int) (i : Nat), IsU8 p → q.length ≤ p.length → byteAt (orL p q) i = orI (byteAt p i) (byteAt q i)
  | [], [], i, _, _ => by simp [orL, byteAt, orI_zero]
  | [], _ :: _, _, _, h => by simp at h
  | x :: p, [], i, hp, _ => by rw [orL_nil]; exact (orI_zero (byteAt_u8 hp i)).symm
  | x :: p, y :: q, 0, _, _ => by simp [orL, byteAt]
  | x :: p, y :: q, i + 1, hp, h => by
    have := orL_at p q i (fun z hz => hp z (by simp [hz])) (by simpa using h)
    simpa [orL, byteAt] using this
theorem orS_at {xs ys : List Int} (hx : IsU8 xs) (hy : IsU8 ys) (i : Nat) : byteAt (orS xs ys) i = orI (byteAt xs i) (byteAt ys i) := by
  unfold orS
  split
  · rw [orL_at _ _ _ hy (by omega), orI_comm]
  · rw [orL_at _ _ _ hx (by omega)]
theorem orS_len (xs ys : List Int) : (orS xs ys).length = max xs.length ys.length := by
  unfold orS
  split <;> rw [orL_len] <;> omega
theorem bytes_ext {xs ys : List Int} (hl : xs.length = ys.length) (h : ∀ i, byteAt xs i = byteAt ys i) : xs = ys := by
  apply List.ext_getElem hl
  intro i h1 h2
  have := h i
  unfold byteAt at this
  rwa [List.getElem?_eq_getElem h1, List.getElem?_eq_getElem h2] at this
theorem orS_comm {xs ys : List Int} (hx : IsU8 xs) (hy : IsU8 ys) : orS xs ys = orS ys xs :=
  bytes_ext (by rw [orS_len, orS_len]; omega) fun i => by rw [orS_at hx hy, orS_at hy hx, orI_comm]
theorem orS_assoc {xs ys zs : List Int} (hx : IsU8 xs) (hy : IsU8 ys) (hz : IsU8 zs) : orS xs (orS ys zs) = orS (orS xs ys) zs :=
  bytes_ext (by rw [orS_len, orS_len, orS_len, orS_len]; omega) fun i => by
    rw [orS_at hx (orS_u8 hy hz), orS_at hy hz, orS_at (orS_u8 hx hy) hz, orS_at hx hy, orI_assoc (byteAt_u8 hx i) (byteAt_u8 hy i) (byteAt_u8 hz i)]
theorem orS_self {xs : List Int} (hx : IsU8 xs) : orS xs xs = xs :=
  bytes_ext (by rw [orS_len]; omega) fun i => by rw [orS_at hx hx, orI_self (byteAt_u8 hx i)]
theorem has_or {xs ys : List Int} (hx : IsU8 xs) (hy : IsU8 ys) (j : Int) : hasS (orS xs ys) j = (hasS xs j || hasS ys j) := by
  by_cases h : j < 0
  · rw [hasS_neg _ h, hasS_neg _ h, hasS_neg _ h]; rfl
  · obtain ⟨n, rfl⟩ : ∃ n : Nat, j = n := ⟨j.toNat, by omega⟩
    rw [hasS_nat, hasS_nat, hasS_nat, orS_at hx hy, bit_or (byteAt_u8 hx _) (byteAt_u8 hy _) (Nat.mod_lt _ (by omega))]
theorem hasS_high {zs : List Int} {j : Nat} (h : 8 * zs.length ≤ j) : hasS zs (j : Int) = false := by
  rw [hasS_nat]
  unfold byteAt
  rw [List.getElem?_eq_none (by omega)]
  exact (bit_test ⟨0, by omega⟩ ⟨j % 8, by omega⟩).trans (by simp)

theorem allU_mem {zs : List Int} : ∀ {i : Nat} {z : Int}, z ∈ allU zs i → 0 ≤ z ∧ z < i ∧ hasS zs z = true
  | 0, z, h => by simp [allU] at h
  | i + 1, z, h => by
    simp only [allU] at h
    split at h
    · rename_i hh
      rcases List.mem_append.1 h with h | h
      · obtain ⟨h1, h2, h3⟩ := allU_mem h
        exact ⟨h1, by omega, h3⟩
      · simp at h; subst h; exact ⟨by omega, by omega, hh⟩
    · obtain ⟨h1, h2, h3⟩ := allU_mem h
      exact ⟨h1, by omega, h3⟩
theorem allU_sorted (zs : List Int) : ∀ i, (allU zs i).Pairwise (· < ·)
  | 0 => by simp [allU]
  | i + 1 => by
    simp only [allU]
    split
    · refine List.pairwise_append.2 ⟨allU_sorted zs i, by simp, fun a ha b hb => ?_⟩
      simp at hb; subst hb
      exact (allU_mem ha).2.1
    · exact allU_sorted zs i
theorem allU_le {xs ys : List Int} (h : ∀ j : Nat, hasS xs j = true → hasS ys j = true) : ∀ i, (allU xs i).length ≤ (allU ys i).length
  | 0 => by simp [allU]
  | i + 1 => by
    have ih := allU_le h i
    simp only [allU]
    cases hx : hasS xs i with
    | false => simp only [Bool.false_eq_true, if_false]; split <;> simp <;> omega
    | true => simp [h i hx, ih]
theorem allU_or {xs ys zs : List Int} (h : ∀ j : Nat, hasS zs j = (hasS xs j || hasS ys j)) : ∀ i, (allU zs i).length ≤ (allU xs i).length + (allU ys i).length
  | 0 => by simp [allU]
  | i + 1 => by
    have ih := allU_or h i
    simp only [allU, h i]
    cases hx : hasS xs i <;> cases hy : hasS ys i <;> simp <;> omega
theorem allU_mono (zs : List Int) (i : Nat) : ∀ m, (allU zs i).length ≤ (allU zs (i + m)).length
  | 0 => Nat.le_refl _
  | m + 1 => by
    have := allU_mono zs i m
    rw [← Nat.add_assoc]
    simp only [allU]; split <;> simp <;> omega
theorem allU_all (zs : List Int) : ∀ m, allU zs (8 * zs.length + m) = allS zs
  | 0 => rfl
  | m + 1 => by
    rw [← Nat.add_assoc]
    simp only [allU]
    rw [hasS_high (by omega)]
    exact allU_all zs m
theorem allU_ge {zs : List Int} {i : Nat} (h : 8 * zs.length ≤ i) : allU zs i = allS zs := by
  obtain ⟨m, rfl⟩ : ∃ m, i = 8 * zs.length + m := ⟨i - 8 * zs.length, by omega⟩
  exact allU_all zs m
theorem count_or {xs ys : List Int} (hx : IsU8 xs) (hy : IsU8 ys) : sumO (orS xs ys) ≤ sumO xs + sumO ys := by
  rw [count_all hx, count_all hy, count_all (orS_u8 hx hy)]
  have := allU_or (fun j => has_or hx hy (j : Int)) (8 * (orS xs ys).length)
  have l := orS_len xs ys
  rw [allU_ge (zs := xs) (by omega), allU_ge (zs := ys) (by omega), allU_ge (zs := orS xs ys) (by omega)] at this
  omega
theorem count_le {xs ys : List Int} (hx : IsU8 xs) (hy : IsU8 ys) : sumO xs ≤ sumO (orS xs ys) := by
  rw [count_all hx, count_all (orS_u8 hx hy)]
  have := allU_le (xs := xs) (ys := orS xs ys) (fun j h => by rw [has_or hx hy, h]; rfl) (8 * (orS xs ys).length)
  have l := orS_len xs ys
  rw [allU_ge (zs := xs) (by omega), allU_ge (zs := orS xs ys) (by omega)] at this
  omega
/-- What is in, put in, changes nothing. -/
theorem with_in {zs : List Int} (hu : IsU8 zs) {j : Int} (h : hasS zs j = true) : withS zs j = zs := by
  unfold withS
  split
  · rename_i hc
    obtain ⟨n, rfl⟩ : ∃ n : Nat, j = n := ⟨j.toNat, by omega⟩
    rw [hasS_nat] at h
    have e : (((n : Int) / 8).toNat) = n / 8 := by omega
    have e2 : ((n : Int) % 8) = ((n % 8 : Nat) : Int) := by omega
    rw [e, e2]
    show zs.set (n / 8) (orI (byteAt zs (n / 8)) _) = zs
    have hz := byteAt_u8 hu (n / 8)
    have := bit_in ⟨(byteAt zs (n / 8)).toNat, by omega⟩ ⟨n % 8, by omega⟩
    simp only [Int.toNat_of_nonneg hz.1] at this
    rw [this h]
    have hlt : n / 8 < zs.length := by omega
    unfold byteAt
    rw [List.getElem?_eq_getElem hlt, Option.getD_some, List.set_getElem_self]
  · rfl
end Go.Proofs.Ytgggepohkdmjeaa.G09

