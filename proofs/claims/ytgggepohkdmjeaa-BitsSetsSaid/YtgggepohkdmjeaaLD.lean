/- What the functions that BitsSets reaches answer, for every argument. No condition but those in each statement. -/
import Derived.Test.YtgggepohkdmjeaaLB
import Derived.Test.YtgggepohkdmjeaaE5
set_option linter.unusedSimpArgs false
set_option linter.unusedVariables false
set_option maxRecDepth 10000
namespace Go.Proofs.Ytgggepohkdmjeaa.G09
open Go Go.Proofs.Ytgggepohkdmjeaa.Eng

theorem byteAt_set (zs : List Int) (q : Nat) (v : Int) (p : Nat) (hq : q < zs.length) : byteAt (zs.set q v) p = if p = q then v else byteAt zs p := by
  unfold byteAt
  by_cases h : p = q
  · subst h; rw [if_pos rfl, List.getElem?_set_self hq, Option.getD_some]
  · rw [if_neg h, List.getElem?_set_ne (fun e => h e.symm)]
theorem has_with {zs : List Int} (hu : IsU8 zs) {j : Nat} (hj : j < 8 * zs.length) (i : Nat) : hasS (withS zs (j : Int)) (i : Int) = (hasS zs (i : Int) || decide (i = j)) := by
  have e : (((j : Int) / 8).toNat) = j / 8 := by omega
  have e2 : ((j : Int) % 8) = ((j % 8 : Nat) : Int) := by omega
  have hw : withS zs (j : Int) = zs.set (j / 8) (orI (byteAt zs (j / 8)) (IntKind.u8.wrap (1 * 2 ^ min (((j % 8 : Nat) : Int)).toNat 8))) := by
    unfold withS
    rw [if_pos ⟨by omega, by omega⟩, e, e2]; rfl
  rw [hasS_nat, hasS_nat, hw, byteAt_set _ _ _ _ (by omega)]
  by_cases h : i / 8 = j / 8
  · rw [if_pos h, h]
    have hz := byteAt_u8 hu (j / 8)
    have := bit_put ⟨(byteAt zs (j / 8)).toNat, by omega⟩ ⟨j % 8, by omega⟩ ⟨i % 8, by omega⟩
    simp only [Int.toNat_of_nonneg hz.1] at this
    rw [this]
    congr 1
    rw [Bool.eq_iff_iff, decide_eq_true_eq, decide_eq_true_eq, Fin.mk.injEq]
    omega
  · rw [if_neg h]
    have : decide (i = j) = false := by simp; intro h2; subst h2; exact h rfl
    rw [this, Bool.or_false]
theorem has_zero (n i : Nat) : hasS (List.replicate n 0) (i : Int) = false := by
  rw [hasS_nat]
  have : byteAt (List.replicate n 0) (i / 8) = 0 := by
    unfold byteAt
    rw [List.getElem?_replicate]; split <;> rfl
  rw [this]
  exact (bit_test ⟨0, by omega⟩ ⟨i % 8, by omega⟩).trans (by simp)

/-- Numbers put in, one behind the other. -/
def puts (size : Int) (s : List Int) (l : List Int) : List Int := l.foldl (fun s z => withS s (z.tmod size)) s
theorem puts_snoc (size : Int) (s : List Int) (l : List Int) (z : Int) : puts size s (l ++ [z]) = withS (puts size s l) (z.tmod size) := by simp [puts]
theorem puts_len (size : Int) : ∀ (l s : List Int), (puts size s l).length = s.length
  | [], _ => rfl
  | z :: l, s => by
    show (puts size (withS s (z.tmod size)) l).length = _
    rw [puts_len size l, withS_len]
theorem puts_u8 (size : Int) : ∀ (l s : List Int), IsU8 s → IsU8 (puts size s l)
  | [], _, h => h
  | z :: l, s, h => puts_u8 size l _ (withS_u8 h _)
theorem tmod_nat {z size : Int} (hz : 0 ≤ z) (hs : 0 < size) : ∃ j : Nat, z.tmod size = j ∧ (j : Int) < size := by
  refine ⟨(z.tmod size).toNat, ?_, ?_⟩
  · have := Int.tmod_nonneg size hz; omega
  · have := Int.tmod_lt_of_pos z hs
    have := Int.tmod_nonneg size hz; omega
theorem has_puts {size : Int} (hs : 0 < size) (i : Nat) : ∀ (l s : List Int), IsU8 s → IsU8 l → size ≤ 8 * s.length → hasS (puts size s l) (i : Int) = (hasS s (i : Int) || l.any fun z => z.tmod size == (i : Int))
  | [], s, _, _, _ => by simp [puts]
  | z :: l, s, hu, hl, h => by
    show hasS (puts size (withS s (z.tmod size)) l) (i : Int) = _
    obtain ⟨j, ej, hj⟩ := tmod_nat (hl z (by simp)).1 hs
    rw [has_puts hs i l _ (withS_u8 hu _) (fun z hz => hl z (by simp [hz])) (by rw [withS_len]; exact h), ej, has_with hu (by omega), List.any_cons, ej, Bool.or_assoc]
    congr 2
    rw [Bool.eq_iff_iff, decide_eq_true_eq, beq_iff_eq]
    omega
theorem size_fits {size : Int} (h1 : 1 ≤ size) (h2 : size ≤ 256) : size ≤ 8 * (newN size : Nat) ∧ newN size ≤ 32 := by
  unfold newN
  rw [if_neg (by omega)]
  omega
theorem puts_good {size : Int} (h1 : 1 ≤ size) (h2 : size ≤ 256) {l : List Int} (hl : IsU8 l) : goodS (puts size (List.replicate (newN size) 0) l) size = true := by
  unfold goodS
  have hlen := puts_len size l (List.replicate (newN size) 0)
  rw [List.length_replicate] at hlen
  have d : decide ((puts size (List.replicate (newN size) 0) l).length = newN size) = true := by simp [hlen]
  rw [d, Bool.true_and, okF_iff]
  intro j _ hj hh
  rw [has_puts (by omega) j l _ (rep_u8 _) hl (by rw [List.length_replicate]; exact (size_fits h1 h2).1), has_zero, Bool.false_or, List.any_eq_true] at hh
  obtain ⟨z, hz, e⟩ := hh
  have e := (beq_iff_eq ..).1 e
  have := Int.tmod_lt_of_pos z (show 0 < size by omega)
  omega
theorem any_snoc (l : List Int) (z : Int) (f : Int → Bool) : (l ++ [z]).any f = (l.any f || f z) := by simp
end Go.Proofs.Ytgggepohkdmjeaa.G09

