/- What the functions that TableMerges reaches answer, for every argument. No condition but those in each statement. -/
import Derived.Test.YtekceggcbpeoeaaBD
set_option linter.unusedSimpArgs false
set_option linter.unusedVariables false
set_option linter.unusedSectionVars false
set_option maxRecDepth 10000
namespace Go.Proofs.Ytekceggcbpeoeaa.G10
open Go Go.Proofs.Ytekceggcbpeoeaa.Eng
section
variable {H : AHeap} {v : AV} {l : List PrS} (g : IsP H v l) (hl : l.length ≤ 1000)
include g hl
end
structure Split (l m r : List PrS) : Prop where
 up : asc l
 um : asc m
 ur : asc r
 all : ∀ p, p ∈ l ↔ p ∈ m ∨ p ∈ r
 len : m.length ≤ 1000
section
variable {H : AHeap} {l : List PrS}
end
end Go.Proofs.Ytekceggcbpeoeaa.G10
