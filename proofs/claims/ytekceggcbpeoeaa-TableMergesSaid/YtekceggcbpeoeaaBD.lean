/- What the functions that TableMerges reaches answer, for every argument. No condition but those in each statement. -/
import Derived.Test.YtekceggcbpeoeaaBC
import Derived.Test.YtekceggcbpeoeaaE6
set_option linter.unusedSimpArgs false
set_option linter.unusedVariables false
set_option linter.unusedSectionVars false
set_option maxRecDepth 10000
namespace Go.Proofs.Ytekceggcbpeoeaa.G10
open Go Go.Proofs.Ytekceggcbpeoeaa.Eng
noncomputable abbrev LZ (l : Env → CT) := (envL prog).loop (runC (envX prog X4) (l (envX prog X4)))
theorem findF {H : AHeap} {v : AV} {l : List PrS} (g : IsP H v l) (hl : l.length ≤ 1000000) (b : Int) : (envL prog).call 8 [v, .int .i64 b] H = some (.tup [.int .i64 (fnd l b), .bool (decide (0 ≤ idxS l b))], H) := findC g hl b
section
variable {H : AHeap} {v w : AV} {l m : List PrS} (g : IsP H v l) (f : IsP H w m) (hl : l.length ≤ 1000) (hm : m.length ≤ 1001)
include g f hl hm
end
end Go.Proofs.Ytekceggcbpeoeaa.G10
