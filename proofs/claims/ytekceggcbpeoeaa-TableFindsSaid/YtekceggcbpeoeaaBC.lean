/- What the functions that TableFinds reaches answer, for every argument. No condition but those in each statement. -/
import Derived.Test.YtekceggcbpeoeaaBY
set_option linter.unusedSimpArgs false
set_option linter.unusedVariables false
set_option linter.unusedSectionVars false
set_option maxRecDepth 10000
namespace Go.Proofs.Ytekceggcbpeoeaa.G10
open Go Go.Proofs.Ytekceggcbpeoeaa.Eng
noncomputable def X4 : Over := X3.with 7 wakeR
theorem x4_ok : X4.Ok prog := with_ok x3_ok (wake_ok goodP x3_ok wakesC.choose_spec)
theorem x4_call (f : Nat) (args : List AV) (h : AHeap) (ew : (f == 7) = false) (em : (f == 10) = false) (e0 : (f == 15) = false) (e1 : (f == 21) = false) (e2 : (f == 25) = false) : (envX prog X4).call f args h = (envL prog).call f args h := by
 unfold X4; rw [x_miss _ _ ew, x3_call _ _ _ em e0 e1 e2]
theorem x4_put {args : List AV} {h : AHeap} {r : AV × AHeap} (e : callBody prog (envX prog X1) 15 args h = some r) : (envX prog X4).call 15 args h = some r := by
 unfold X4; rw [x_miss _ _ (by decide)]; exact x3_put e
theorem x4_wakes (h : AHeap) : (envX prog X4).call 7 [] h = some (.bool true, h) := x_hit rfl
theorem copyP {H : AHeap} {v : AV} {l : List PrS} (g : IsP H v l) (hl : l.length ≤ 1000000) : ∃ v' K, app (ty 2 true 16 [.int .i64 0, .int .i64 0]) (.sl H.length 0 2 0 0 true) v (H ++ [.rw []]) = some (v', K) ∧ Adds H K ∧ Gp K H.length v' l := by
 have hr : (roomy : Nat) = 140737488355328 := rfl
 have g0 : Gp (H ++ [.rw []]) H.length (.sl H.length 0 2 0 0 true) [] := .inr (.inl ⟨rfl, H.length, Nat.le_refl _, rfl, by simp⟩)
 have gi := g.adds (⟨[.rw []], rfl⟩ : Adds H (H ++ [.rw []]))
 obtain ⟨v', K, ea, gk, fr, _, _⟩ := gp_app g0 (by simp) gi.src.1 gi.src.2 (by simp; omega)
 rw [List.nil_append] at gk
 exact ⟨v', K, ea, fr.old ⟨_, rfl⟩ fun x hx h => by (injection h with h; omega), gk⟩
end Go.Proofs.Ytekceggcbpeoeaa.G10
