/- What the functions that WaysApart reaches answer, for every argument. No condition but those in each statement. -/
import Derived.Test.YtodoakeifdiidaaWB
import Derived.Test.YtodoakeifdiidaaW8
set_option linter.unusedSimpArgs false
set_option linter.unusedVariables false
set_option maxRecDepth 10000
namespace Go.Proofs.Ytodoakeifdiidaa.G13
open Go Go.Proofs.Ytodoakeifdiidaa.Eng
/-- Each block in its own set, and in one slot alone. -/
structure Inv (sets ways : Nat) (S : List Slot) : Prop where
  own : ∀ x, x < S.length → (sl S x).b ≠ -1 → 0 ≤ (sl S x).b ∧ ((sl S x).b % sets).toNat = x / ways
  one : ∀ x y, x < S.length → y < S.length → x ≠ y → (sl S x).b ≠ -1 → (sl S x).b ≠ (sl S y).b
theorem div_of {s ways w : Nat} (hw : w < ways) : (s * ways + w) / ways = s := by
  rw [Nat.mul_comm, Nat.mul_add_div (by omega), Nat.div_eq_of_lt hw, Nat.add_zero]
theorem inv_put {sets ways : Nat} {S : List Slot} (h : Inv sets ways S) {a : Nat} (ha : a < S.length) {b : Int} (hb : 0 ≤ b) (hs : (b % sets).toNat = a / ways) (hn : ∀ y, y < S.length → y ≠ a → (sl S y).b ≠ b) (d m : Bool) : Inv sets ways (S.set a ⟨b, d, m⟩) := by
  constructor
  · intro x hx hx1
    rw [List.length_set] at hx
    rw [sl_set _ _ _ _ ha] at hx1 ⊢
    split
    · rename_i e; subst e; exact ⟨hb, hs⟩
    · rename_i e; rw [if_neg e] at hx1; exact h.own x hx hx1
  · intro x y hx hy hxy hx1
    rw [List.length_set] at hx hy
    rw [sl_set _ _ _ _ ha] at hx1 ⊢
    rw [sl_set _ _ _ _ ha]
    by_cases e1 : x = a
    · subst e1
      rw [if_pos rfl, if_neg (fun e => hxy e.symm)]
      exact fun e => hn y hy (fun e => hxy e.symm) e.symm
    · rw [if_neg e1] at hx1 ⊢
      by_cases e2 : y = a
      · subst e2; rw [if_pos rfl]; exact hn x hx e1
      · rw [if_neg e2]; exact h.one x y hx hy hxy hx1
theorem inv_same {sets ways : Nat} {S T : List Slot} (h : Inv sets ways S) (hl : T.length = S.length) (e : ∀ j, (sl T j).b = (sl S j).b ∨ (sl T j).b = -1) : Inv sets ways T := by
  constructor
  · intro x hx hx1
    rcases e x with e1 | e1
    · rw [e1] at hx1 ⊢; exact h.own x (by omega) hx1
    · exact absurd e1 hx1
  · intro x y hx hy hxy hx1
    rcases e x with e1 | e1
    · rw [e1] at hx1 ⊢
      rcases e y with e2 | e2
      · rw [e2]; exact h.one x y (by omega) (by omega) hxy hx1
      · rw [e2]; exact hx1
    · exact absurd e1 hx1
/-- A block that is not found is nowhere. -/
theorem find_none {sets ways : Nat} {S : List Slot} (w1 : 1 ≤ ways) (h : Inv sets ways S) {b : Int} (hb : 0 ≤ b) (hf : findS sets ways S b = none) : ∀ y, y < S.length → (sl S y).b ≠ b := by
  intro y hy e
  unfold findS at hf
  rw [if_neg (by omega)] at hf
  obtain ⟨_, o2⟩ := h.own y hy (by rw [e]; omega)
  rw [e] at o2
  have hm := Nat.div_add_mod y ways
  have hlt := Nat.mod_lt y (show 0 < ways by omega)
  refine findW_none hf (y % ways) (by omega) (by omega) ?_
  rw [o2, Nat.mul_comm, hm]; exact e
theorem find_of {sets ways : Nat} {S : List Slot} {b : Int} (hb : 0 ≤ b) {w : Nat} (hw : w < ways) (h : (sl S ((b % sets).toNat * ways + w)).b = b) : ∃ i, findS sets ways S b = some i := by
  unfold findS
  rw [if_neg (by omega)]
  exact findW_some (by omega) (by omega) h
theorem find_some {sets ways : Nat} {S : List Slot} {b : Int} {i : Nat} (hf : findS sets ways S b = some i) : 0 ≤ b ∧ (sl S i).b = b ∧ ∃ w, w < ways ∧ i = (b % sets).toNat * ways + w := by
  unfold findS at hf
  split at hf
  · cases hf
  · obtain ⟨h1, h2, h3⟩ := findW_lt hf
    exact ⟨by omega, h3, i - (b % sets).toNat * ways, by omega, by omega⟩
/-- A slot that is free, in the block's own set, takes it. -/
theorem take_free {sets ways : Nat} {S : List Slot} (w1 : 1 ≤ ways) (h : Inv sets ways S) {b : Int} (hb : 0 ≤ b) {w : Nat} (hw : w < ways) (hl : (b % sets).toNat * ways + w < S.length) (hf : findS sets ways S b = none) (d : Bool) :
    Inv sets ways (putS sets ways S ((b % sets).toNat * ways + w : Nat) b d) ∧ ∃ i, findS sets ways (putS sets ways S ((b % sets).toNat * ways + w : Nat) b d) b = some i := by
  have e : putS sets ways S ((b % sets).toNat * ways + w : Nat) b d = S.set ((b % sets).toNat * ways + w) ⟨b, d, true⟩ := by
    unfold putS
    rw [Int.toNat_natCast, if_pos ⟨by omega, by omega, hb, div_of hw, .inl hf⟩]
  rw [e]
  refine ⟨inv_put h hl hb (div_of hw).symm (fun y hy _ => find_none w1 h hb hf y hy) _ _, find_of hb hw ?_⟩
  rw [sl_set _ _ _ _ hl, if_pos rfl]
theorem take_same {sets ways : Nat} {S : List Slot} (w1 : 1 ≤ ways) (h : Inv sets ways S) {b : Int} {k : Nat} (hl : k < S.length) (hf : findS sets ways S b = some k) (d : Bool) :
    Inv sets ways (putS sets ways S k b d) ∧ ∃ i, findS sets ways (putS sets ways S k b d) b = some i := by
  obtain ⟨hb, h3, w, hw, rfl⟩ := find_some hf
  have e : putS sets ways S ((b % sets).toNat * ways + w : Nat) b d = S.set ((b % sets).toNat * ways + w) ⟨b, d, true⟩ := by
    unfold putS
    rw [Int.toNat_natCast, if_pos ⟨by omega, by omega, hb, div_of hw, .inr hf⟩]
  rw [e]
  refine ⟨inv_put h hl hb (div_of hw).symm (fun y hy hy2 e => h.one _ y hl hy (fun q => hy2 q.symm) (by rw [h3]; omega) (by rw [h3, e])) _ _, find_of hb hw ?_⟩
  rw [sl_set _ _ _ _ hl, if_pos rfl]
/-- Room that is told: a slot of the set, free now; nothing else has turned but marks. -/
theorem room_some {sets ways : Nat} {S : List Slot} {hs : List Nat} (w1 : 1 ≤ ways) (hw : ∀ h ∈ hs, h < ways) {b : Int} (hb : 0 ≤ b) (hl : (b % sets).toNat * ways + ways ≤ S.length) {a : Nat} (hr : (roomS sets ways S hs b).2.2 = some a) :
    (∃ w, w < ways ∧ a = (b % sets).toNat * ways + w) ∧ (∀ j, (sl (roomS sets ways S hs b).1 j).b = (sl S j).b ∨ (sl (roomS sets ways S hs b).1 j).b = -1) ∧ ((sl S a).b = -1 ∨ (sl S a).d = false) := by
  rw [room_set _ _ _ _ _ hb] at hr ⊢
  have hh := hand_lt (s := (b % sets).toNat) w1 hw
  generalize (hs[(b % sets).toNat]?).getD 0 = h at *
  cases hf : findW S ((b % sets).toNat * ways) (-1) ways 0 with
  | some i =>
    rw [hf] at hr
    injection hr with hr; subst hr
    obtain ⟨q1, q2, q3⟩ := findW_lt hf
    exact ⟨⟨i - (b % sets).toNat * ways, by omega, by omega⟩, fun j => .inl rfl, .inl q3⟩
  | none =>
    rw [hf] at hr
    simp only at hr ⊢
    obtain ⟨q1, q2, q3, q4, q5⟩ := clock_some w1 _ _ _ _ hh hl hr
    refine ⟨⟨a - (b % sets).toNat * ways, by omega, by omega⟩, fun j => ?_, .inr q3⟩
    by_cases e : j = a
    · subst e; rw [q4]; exact .inr rfl
    · exact .inl (q5 j e).1
/-- Where there is none, all are dirty; then the first one at the hand is told, and, cleaned, it is the room. -/
theorem room_none {sets ways : Nat} {S : List Slot} {hs : List Nat} (s1 : 1 ≤ sets) (w1 : 1 ≤ ways) (hlen : hs.length = sets) (hw : ∀ h ∈ hs, h < ways) {b : Int} (hb : 0 ≤ b) (hl : (b % sets).toNat * ways + ways ≤ S.length) (hr : (roomS sets ways S hs b).2.2 = none) :
    (∀ w, w < ways → (sl S ((b % sets).toNat * ways + w)).d = true ∧ (sl S ((b % sets).toNat * ways + w)).b ≠ -1) ∧ (∀ j, (sl (roomS sets ways S hs b).1 j).b = (sl S j).b ∧ (sl (roomS sets ways S hs b).1 j).d = (sl S j).d) ∧
    ∃ w, w < ways ∧ (dirtyS sets ways (roomS sets ways S hs b).1 (roomS sets ways S hs b).2.1 b).2 = some ((b % sets).toNat * ways + w) := by
  have hs2 : (b % sets).toNat < hs.length := by
    have h1 := Int.emod_nonneg b (show (sets : Int) ≠ 0 by omega)
    have h2 := Int.emod_lt_of_pos b (show (0 : Int) < sets by omega)
    omega
  rw [room_set _ _ _ _ _ hb] at hr ⊢
  have hh := hand_lt (s := (b % sets).toNat) w1 hw
  generalize (hs[(b % sets).toNat]?).getD 0 = h at *
  cases hf : findW S ((b % sets).toNat * ways) (-1) ways 0 with
  | some i => rw [hf] at hr; cases hr
  | none =>
    rw [hf] at hr
    simp only at hr ⊢
    have full := clock_full w1 hh hl hr
    have same := clock_none w1 _ _ _ hh hl hr
    have hand := clock_hand (base := (b % sets).toNat * ways) w1 (2 * ways) S h hh
    generalize clockW ways ((b % sets).toNat * ways) (2 * ways) S h = C at *
    refine ⟨fun w hw' => ⟨full w hw', findW_none hf w (by omega) (by omega)⟩, same, C.2.1, hand, ?_⟩
    have d : (sl C.1 ((b % sets).toNat * ways + C.2.1)).d = true := by rw [(same _).2]; exact full _ hand
    unfold dirtyS
    rw [if_neg (by omega), List.getElem?_set_self hs2, Option.getD_some]
    obtain ⟨n, hn1⟩ : ∃ n, ways = n + 1 := ⟨ways - 1, by omega⟩
    have wA : dirtyW ways ((b % sets).toNat * ways) C.1 ways C.2.1 = some C.2.1 := by
      conv => lhs; arg 4; rw [hn1]
      simp only [dirtyW, d, if_true]
    rw [wA]
theorem room_clean {sets ways : Nat} {S : List Slot} {hs : List Nat} (w1 : 1 ≤ ways) (hw : ∀ h ∈ hs, h < ways) {b : Int} (hb : 0 ≤ b) (hl : (b % sets).toNat * ways + ways ≤ S.length) {w : Nat} (hw' : w < ways)
    (h : ∀ j, j < ways → (sl S ((b % sets).toNat * ways + j)).b ≠ -1 ∧ ((sl S ((b % sets).toNat * ways + j)).d = true ↔ j ≠ w)) : (roomS sets ways S hs b).2.2 = some ((b % sets).toNat * ways + w) := by
  cases hr : (roomS sets ways S hs b).2.2 with
  | some a =>
    obtain ⟨⟨v, hv, rfl⟩, _, q⟩ := room_some w1 hw hb hl hr
    have hv2 := h v hv
    rcases q with q | q
    · exact absurd q hv2.1
    · by_cases e : v = w
      · rw [e]
      · rw [hv2.2.2 e] at q; cases q
  | none =>
    rw [room_set _ _ _ _ _ hb] at hr
    have hh := hand_lt (s := (b % sets).toNat) w1 hw
    generalize (hs[(b % sets).toNat]?).getD 0 = hnd at *
    cases hf : findW S ((b % sets).toNat * ways) (-1) ways 0 with
    | some i => rw [hf] at hr; cases hr
    | none =>
      rw [hf] at hr
      have := clock_full w1 hh hl hr w hw'
      exact absurd rfl ((h w hw').2.1 this)
end Go.Proofs.Ytodoakeifdiidaa.G13

