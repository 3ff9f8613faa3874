/- What the functions that TableMerges reaches answer, for every argument. No condition but those in each statement. -/
import Derived.Test.YtekceggcbpeoeaaBY
set_option linter.unusedSimpArgs false
set_option linter.unusedVariables false
set_option linter.unusedSectionVars false
set_option maxRecDepth 10000
namespace Go.Proofs.Ytekceggcbpeoeaa.G10
open Go Go.Proofs.Ytekceggcbpeoeaa.Eng
noncomputable def X4 : Over := X3.with 7 wakeR
theorem x4_ok : X4.Ok prog := with_ok x3_ok (wake_ok goodP x3_ok wakesC.choose_spec)
theorem x4_call (f : Nat) (args : List AV) (h : AHeap) (ew : (f == 7) = false) (em : (f == 10) = false) (e0 : (f == 15) = false) (e1 : (f == 21) = false) (e2 : (f == 25) = false) : (envX prog X4).call f args h = (envL prog).call f args h := by
 unfold X4; rw [x_miss _ _ ew, x3_call _ _ _ em e0 e1 e2]
theorem x4_merge {args : List AV} {h : AHeap} {r : AV × AHeap} (e : callBody prog (envX prog X2) 10 args h = some r) : (envX prog X4).call 10 args h = some r := by
 unfold X4; rw [x_miss _ _ (by decide)]; exact x3_merge e
theorem x4_wakes (h : AHeap) : (envX prog X4).call 7 [] h = some (.bool true, h) := x_hit rfl
end Go.Proofs.Ytekceggcbpeoeaa.G10
