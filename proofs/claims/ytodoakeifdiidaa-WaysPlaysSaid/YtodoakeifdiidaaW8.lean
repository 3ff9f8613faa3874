/- What the functions that WaysPlays reaches answer, for every argument. No condition but those in each statement. -/
import Derived.Test.YtodoakeifdiidaaW7
set_option linter.unusedSimpArgs false
set_option linter.unusedVariables false
set_option maxRecDepth 10000
namespace Go.Proofs.Ytodoakeifdiidaa.G13
open Go Go.Proofs.Ytodoakeifdiidaa.Eng
/-- Alike in the first set. -/
structure Rel0 (ways : Nat) (Sa Sb : List Slot) (ha hb : List Nat) : Prop where
  ag : Agree 0 ways Sa Sb
  hd : ha[0]? = hb[0]?
theorem room_set (sets ways : Nat) (S : List Slot) (hs : List Nat) (x : Int) (hx : 0 ≤ x) : roomS sets ways S hs x = match findW S ((x % sets).toNat * ways) (-1) ways 0 with
    | some i => (S, hs, some i)
    | none => ((clockW ways ((x % sets).toNat * ways) (2 * ways) S ((hs[(x % sets).toNat]?).getD 0)).1, hs.set (x % sets).toNat (clockW ways ((x % sets).toNat * ways) (2 * ways) S ((hs[(x % sets).toNat]?).getD 0)).2.1, (clockW ways ((x % sets).toNat * ways) (2 * ways) S ((hs[(x % sets).toNat]?).getD 0)).2.2) := by
  unfold roomS; rw [if_neg (by omega)]; rfl
theorem hand_lt {hs : List Nat} {ways s : Nat} (w1 : 1 ≤ ways) (hw : ∀ h ∈ hs, h < ways) : (hs[s]?).getD 0 < ways := by
  cases h : hs[s]? with
  | none => simp; omega
  | some x => exact hw x (List.mem_of_getElem? h)
theorem room0 {ways : Nat} (w1 : 1 ≤ ways) {Sa Sb : List Slot} {ha hb : List Nat} (la : Sa.length = 2 * ways) (lb : Sb.length = 2 * ways) (na : ha.length = 2) (nb : hb.length = 2) (wa : ∀ h ∈ ha, h < ways) (r : Rel0 ways Sa Sb ha hb) {x : Int} (hx : 0 ≤ x) (h2 : x % 2 = 0) :
    (roomS 2 ways Sa ha x).2.2 = (roomS 2 ways Sb hb x).2.2 ∧ Rel0 ways (roomS 2 ways Sa ha x).1 (roomS 2 ways Sb hb x).1 (roomS 2 ways Sa ha x).2.1 (roomS 2 ways Sb hb x).2.1 ∧ (∀ i, (roomS 2 ways Sa ha x).2.2 = some i → i < ways) := by
  have e0 : (x % ((2 : Nat) : Int)).toNat = 0 := by omega
  rw [room_set _ _ _ _ _ hx, room_set _ _ _ _ _ hx, e0, Nat.zero_mul, ← r.hd, ← findW_congr r.ag (-1) ways 0 (by omega)]
  have hh := hand_lt (s := 0) w1 wa
  generalize (ha[0]?).getD 0 = h at *
  cases hf : findW Sa 0 (-1) ways 0 with
  | some i => exact ⟨rfl, r, fun j hj => by injection hj with hj; subst hj; have := findW_lt hf; omega⟩
  | none =>
    obtain ⟨q1, q2⟩ := clock_congr w1 (2 * ways) Sa Sb h hh (by omega) (by omega) r.ag
    refine ⟨by simp only; rw [q2], ⟨q1, ?_⟩, fun i hi => ?_⟩
    · simp only
      rw [q2, List.getElem?_set_self (by omega), List.getElem?_set_self (by omega)]
    · have := clock_some w1 _ _ _ i hh (by omega) hi
      omega
theorem room1 {ways : Nat} (w1 : 1 ≤ ways) {Sa Sb : List Slot} {ha hb : List Nat} (la : Sa.length = 2 * ways) (na : ha.length = 2) (wa : ∀ h ∈ ha, h < ways) (r : Rel0 ways Sa Sb ha hb) {x : Int} (hx : 0 ≤ x) (h2 : x % 2 ≠ 0) :
    Rel0 ways (roomS 2 ways Sa ha x).1 Sb (roomS 2 ways Sa ha x).2.1 hb ∧ (∀ i, (roomS 2 ways Sa ha x).2.2 = some i → ways ≤ i) := by
  have e0 : (x % ((2 : Nat) : Int)).toNat = 1 := by omega
  rw [room_set _ _ _ _ _ hx, e0, Nat.one_mul]
  have hh := hand_lt (s := 1) w1 wa
  generalize (ha[1]?).getD 0 = h at *
  cases hf : findW Sa ways (-1) ways 0 with
  | some i => exact ⟨r, fun j hj => by injection hj with hj; subst hj; have := findW_lt hf; omega⟩
  | none =>
    refine ⟨⟨fun w hw => ?_, ?_⟩, fun i hi => ?_⟩
    · have := clock_frame (base := ways) w1 (2 * ways) Sa h hh (by omega) (0 + w) (by omega)
      exact this.trans (r.ag w hw)
    · simp only
      rw [List.getElem?_set_ne (by omega)]; exact r.hd
    · have := clock_some w1 _ _ _ i hh (by omega) hi
      omega
theorem find0 {ways : Nat} {Sa Sb : List Slot} (a : Agree 0 ways Sa Sb) {x : Int} (hx : 0 ≤ x) (h2 : x % 2 = 0) : findS 2 ways Sa x = findS 2 ways Sb x := by
  have e0 : (x % ((2 : Nat) : Int)).toNat = 0 := by omega
  unfold findS
  rw [if_neg (by omega), if_neg (by omega), e0, Nat.zero_mul, findW_congr a x ways 0 (by omega)]
theorem put0 {ways : Nat} {Sa Sb : List Slot} {ha hb : List Nat} (la : Sa.length = 2 * ways) (lb : Sb.length = 2 * ways) (r : Rel0 ways Sa Sb ha hb) {x : Int} (hx : 0 ≤ x) (h2 : x % 2 = 0) {i : Nat} (hi : i < ways) (d : Bool) :
    Rel0 ways (putS 2 ways Sa i x d) (putS 2 ways Sb i x d) ha hb := by
  refine ⟨?_, r.hd⟩
  unfold putS
  rw [find0 r.ag hx h2, la, lb, Int.toNat_natCast]
  split
  · have := agree_set (h := i) r.ag (by omega) (by omega) ⟨x, d, true⟩
    rwa [Nat.zero_add] at this
  · exact r.ag
theorem put1 {ways : Nat} {Sa Sb : List Slot} {ha hb : List Nat} (r : Rel0 ways Sa Sb ha hb) {x : Int} {i : Nat} (hi : ways ≤ i) (d : Bool) : Rel0 ways (putS 2 ways Sa i x d) Sb ha hb := by
  refine ⟨?_, r.hd⟩
  unfold putS
  split
  · rw [Int.toNat_natCast]; exact agree_out r.ag (by omega) (by omega) _
  · exact r.ag
theorem put_len (sets ways : Nat) (S : List Slot) (i x : Int) (d : Bool) : (putS sets ways S i x d).length = S.length := by unfold putS; split <;> simp
theorem clean_len (S : List Slot) (i : Int) : (cleanS S i).length = S.length := by unfold cleanS; split <;> simp
theorem room_len (sets ways : Nat) (S : List Slot) (hs : List Nat) (x : Int) : (roomS sets ways S hs x).1.length = S.length := by
  unfold roomS; split
  · rfl
  · split
    · rfl
    · exact clock_len ..
theorem clean0 {ways : Nat} {Sa Sb : List Slot} {ha hb : List Nat} (la : Sa.length = 2 * ways) (lb : Sb.length = 2 * ways) (r : Rel0 ways Sa Sb ha hb) {i : Nat} (hi : i < ways) : Rel0 ways (cleanS Sa i) (cleanS Sb i) ha hb := by
  refine ⟨?_, r.hd⟩
  unfold cleanS
  rw [if_pos (by omega), if_pos (by omega), Int.toNat_natCast]
  have e := r.ag i hi
  rw [Nat.zero_add] at e
  rw [e]
  have := agree_set (h := i) r.ag (by omega) (by omega) { sl Sb i with d := false }
  rwa [Nat.zero_add] at this
/-- Where there is no room, there is a dirty one. -/
theorem dirty0 {ways : Nat} (w1 : 1 ≤ ways) {Sa Sb : List Slot} {ha hb : List Nat} (la : Sa.length = 2 * ways) (lb : Sb.length = 2 * ways) (na : ha.length = 2) (nb : hb.length = 2) (wa : ∀ h ∈ ha, h < ways) (r : Rel0 ways Sa Sb ha hb) {x : Int} (hx : 0 ≤ x) (h2 : x % 2 = 0) (hn : (roomS 2 ways Sa ha x).2.2 = none) :
    ∃ i, i < ways ∧ (dirtyS 2 ways (roomS 2 ways Sa ha x).1 (roomS 2 ways Sa ha x).2.1 x).2 = some i ∧ (dirtyS 2 ways (roomS 2 ways Sb hb x).1 (roomS 2 ways Sb hb x).2.1 x).2 = some i ∧
      (dirtyS 2 ways (roomS 2 ways Sa ha x).1 (roomS 2 ways Sa ha x).2.1 x).1[0]? = (dirtyS 2 ways (roomS 2 ways Sb hb x).1 (roomS 2 ways Sb hb x).2.1 x).1[0]? := by
  have e0 : (x % ((2 : Nat) : Int)).toNat = 0 := by omega
  obtain ⟨k1, k2, _⟩ := room0 w1 la lb na nb wa r hx h2
  have hh := hand_lt (s := 0) w1 wa
  rw [room_set _ _ _ _ _ hx, e0, Nat.zero_mul] at hn k2 ⊢
  rw [room_set _ _ _ _ _ hx, e0, Nat.zero_mul, ← r.hd] at k2 ⊢
  rw [← findW_congr r.ag (-1) ways 0 (by omega)] at k2 ⊢
  generalize (ha[0]?).getD 0 = h at *
  cases hf : findW Sa 0 (-1) ways 0 with
  | some i => rw [hf] at hn; cases hn
  | none =>
    rw [hf] at hn k2
    simp only at hn k2 ⊢
    obtain ⟨q1, q2⟩ := clock_congr w1 (2 * ways) Sa Sb h hh (by omega) (by omega) r.ag
    have hl := clock_hand (base := 0) w1 (2 * ways) Sa h hh
    have full := clock_full w1 hh (by omega) hn
    have same := clock_none w1 _ _ _ hh (by omega) hn
    rw [← q2]
    generalize hk : (clockW ways 0 (2 * ways) Sa h).2.1 = h' at *
    have da : (sl (clockW ways 0 (2 * ways) Sa h).1 (0 + h')).d = true := by rw [(same _).2]; exact full h' hl
    have db : (sl (clockW ways 0 (2 * ways) Sb h).1 (0 + h')).d = true := by rw [← q1 h' hl]; exact da
    obtain ⟨n, hn1⟩ : ∃ n, ways = n + 1 := ⟨ways - 1, by omega⟩
    have wA : dirtyW ways 0 (clockW ways 0 (2 * ways) Sa h).1 ways h' = some h' := by
      conv => lhs; arg 4; rw [hn1]
      simp only [dirtyW, da, if_true]
    have wB : dirtyW ways 0 (clockW ways 0 (2 * ways) Sb h).1 ways h' = some h' := by
      conv => lhs; arg 4; rw [hn1]
      simp only [dirtyW, db, if_true]
    unfold dirtyS
    rw [if_neg (by omega), if_neg (by omega), e0, Nat.zero_mul, List.getElem?_set_self (by omega), List.getElem?_set_self (by omega), Option.getD_some, wA, wB]
    refine ⟨h', hl, by simp, by simp, ?_⟩
    simp only
    rw [List.getElem?_set_self (by simp; omega), List.getElem?_set_self (by simp; omega)]
theorem block0 {ways : Nat} {Sa Sb : List Slot} (la : Sa.length = 2 * ways) (lb : Sb.length = 2 * ways) (a : Agree 0 ways Sa Sb) {w : Nat} (hw : w < ways) : blockA Sa w = blockA Sb w := by
  have e := a w hw
  rw [Nat.zero_add] at e
  unfold blockA
  rw [Int.toNat_natCast, e, la, lb]
end Go.Proofs.Ytodoakeifdiidaa.G13

