/-
  No cell of these rows narrows 'for every input' (looked for: loops, veiled, ifaces, maps, wideKeys, modest, calm, conditions, laid).
  DERIVED. THE GIVEN ROWS OF THIS SEAT. 4 by the template 'for every input the law returns true; each argument reads behind the call as it read before'; 0 by the template 'total and deterministic' (their statements: YtekceggcbpeoeaaTotals.lean).
  GIVEN WITH THE SEED: the statements are not yours to turn. If you find one false, say at which input.
  Laid BY PROGRAM, IN A SANDBOX (cutbox-rows.mjs): the forced cells as the released guide's own fill.sh prints them over the translation f43e24969011d4d4… (all of the seat's roots in one cut). By AI agents, Wed Nov 11 2026. No macro, syntax, notation, axiom, sorry.
-/
import Derived.Test.YtekceggcbpeoeaaChecked
import GoSem.Claim
import GoSem.ClaimJoined
import GoSem.ClaimMapViews
import Derived.JoinedTies
import Derived.KernelRfl
namespace Go.Proofs.Ytekceggcbpeoeaa
/- THE CELL 'sum', in the pinned program and in every row, IS THE sha256 OF THE DUMP (.gsa) THAT YtekceggcbpeoeaaProg.lean LOADS. Nothing in Lean hashes anything: it is a label: what it is worth is what the hold of that sum in a sandbox is worth. -/
noncomputable def Try.pinned : Pinned := { name := "ytekceggcbpeoeaa", sum := "f43e24969011d4d4d3a2cf66b1e4a70e75913f1327a84f51eb3d37302121cf24", checked := Try.checked }
namespace Rows
def none {H : Type} : Left H := { results := [], args := [] }

/-- 'revetmentlaw10.TableTells': WHATEVER THE INPUT: true; the input reads as it did. -/
def tableTellsSpec : ChangeSpec := { name := "tableTells", fn := fun _ => fun
  | [d1, d2, d3] => { results := [.lit (.bool true)], args := [d1, d2, d3] }
  | _ => none }
def tableTellsRow : OpenClaim := { program := "ytekceggcbpeoeaa", sum := "f43e24969011d4d4d3a2cf66b1e4a70e75913f1327a84f51eb3d37302121cf24", func := "revetment/revetmentlaw10.TableTells", spec := "tableTells", inPlace := ["slices.overlaps[revetment/api.Pair]"], unfollowed := true, recurses := true, apart := false }
def TableTellsSaid : Prop := tableTellsRow.holds Try.pinned (OpenSpec.ofChange tableTellsSpec)

/-- ITS FALSE NEIGHBOUR: 'it returns false'. Refute it at one input. -/
def tableTellsWrong : ChangeSpec := { name := "tableTells", fn := fun _ => fun
  | [d1, d2, d3] => { results := [.lit (.bool false)], args := [d1, d2, d3] }
  | _ => none }
def TableTellsWrongFalsely : Prop := tableTellsRow.holds Try.pinned (OpenSpec.ofChange tableTellsWrong)

/-- 'revetmentlaw10.TableMerges': WHATEVER THE INPUT: true; the input reads as it did. -/
def tableMergesSpec : ChangeSpec := { name := "tableMerges", fn := fun _ => fun
  | [d1, d2] => { results := [.lit (.bool true)], args := [d1, d2] }
  | _ => none }
def tableMergesRow : OpenClaim := { program := "ytekceggcbpeoeaa", sum := "f43e24969011d4d4d3a2cf66b1e4a70e75913f1327a84f51eb3d37302121cf24", func := "revetment/revetmentlaw10.TableMerges", spec := "tableMerges", inPlace := ["slices.overlaps[revetment/api.Pair]"], unfollowed := true, recurses := true, apart := false }
def TableMergesSaid : Prop := tableMergesRow.holds Try.pinned (OpenSpec.ofChange tableMergesSpec)

/-- ITS FALSE NEIGHBOUR: 'it returns false'. Refute it at one input. -/
def tableMergesWrong : ChangeSpec := { name := "tableMerges", fn := fun _ => fun
  | [d1, d2] => { results := [.lit (.bool false)], args := [d1, d2] }
  | _ => none }
def TableMergesWrongFalsely : Prop := tableMergesRow.holds Try.pinned (OpenSpec.ofChange tableMergesWrong)

/-- 'revetmentlaw10.TablePuts': WHATEVER THE INPUT: true; the input reads as it did. -/
def tablePutsSpec : ChangeSpec := { name := "tablePuts", fn := fun _ => fun
  | [d1, d2] => { results := [.lit (.bool true)], args := [d1, d2] }
  | _ => none }
def tablePutsRow : OpenClaim := { program := "ytekceggcbpeoeaa", sum := "f43e24969011d4d4d3a2cf66b1e4a70e75913f1327a84f51eb3d37302121cf24", func := "revetment/revetmentlaw10.TablePuts", spec := "tablePuts", inPlace := ["slices.overlaps[revetment/api.Pair]"], unfollowed := true, recurses := true, apart := false }
def TablePutsSaid : Prop := tablePutsRow.holds Try.pinned (OpenSpec.ofChange tablePutsSpec)

/-- ITS FALSE NEIGHBOUR: 'it returns false'. Refute it at one input. -/
def tablePutsWrong : ChangeSpec := { name := "tablePuts", fn := fun _ => fun
  | [d1, d2] => { results := [.lit (.bool false)], args := [d1, d2] }
  | _ => none }
def TablePutsWrongFalsely : Prop := tablePutsRow.holds Try.pinned (OpenSpec.ofChange tablePutsWrong)

/-- 'revetmentlaw10.TableFinds': WHATEVER THE INPUT: true; the input reads as it did. -/
def tableFindsSpec : ChangeSpec := { name := "tableFinds", fn := fun _ => fun
  | [d1, d2] => { results := [.lit (.bool true)], args := [d1, d2] }
  | _ => none }
def tableFindsRow : OpenClaim := { program := "ytekceggcbpeoeaa", sum := "f43e24969011d4d4d3a2cf66b1e4a70e75913f1327a84f51eb3d37302121cf24", func := "revetment/revetmentlaw10.TableFinds", spec := "tableFinds", inPlace := ["slices.overlaps[revetment/api.Pair]"], unfollowed := true, recurses := true, apart := false }
def TableFindsSaid : Prop := tableFindsRow.holds Try.pinned (OpenSpec.ofChange tableFindsSpec)

/-- ITS FALSE NEIGHBOUR: 'it returns false'. Refute it at one input. -/
def tableFindsWrong : ChangeSpec := { name := "tableFinds", fn := fun _ => fun
  | [d1, d2] => { results := [.lit (.bool false)], args := [d1, d2] }
  | _ => none }
def TableFindsWrongFalsely : Prop := tableFindsRow.holds Try.pinned (OpenSpec.ofChange tableFindsWrong)

/- THE SECOND FORM. 'bulk': how many values and letters a reading holds, each counted each time it is reached (what is shared counts as often as it is met; a slice's spare places count too). A statement '..UptoSaid' is the law's where the arguments, and the package variables that the reading takes, are together of bulk at most 1048576: NARROWER than '..Said'. Prove '..Said' where nothing that the law and all that it calls make is longer than what came in: it says more and counts as full. Else prove '..UptoSaid'. A law counts once. -/
mutual
def uptoBulk {H : Type} : DataW H → Nat
  | .lit (.string bytes) => bytes.length + 1
  | .lit _ => 1
  | .nil => 1
  | .ptr d => uptoBulk d + 1
  | .slice elems spare => uptoBulkAll elems + uptoBulkAll spare + 1
  | .agg parts => uptoBulkAll parts + 1
  | .iface _ d => uptoBulk d + 1
  | .map entries => uptoBulkEntries entries + 1
  | .held _ => 1
def uptoBulkAll {H : Type} : List (DataW H) → Nat
  | [] => 0
  | d :: r => uptoBulk d + uptoBulkAll r
def uptoBulkEntries {H : Type} : List (Lit × DataW H) → Nat
  | [] => 0
  | x :: r => uptoBulkEntry x + uptoBulkEntries r
def uptoBulkEntry {H : Type} : Lit × DataW H → Nat
  | (.string bytes, d) => bytes.length + uptoBulk d + 1
  | (_, d) => uptoBulk d + 1
 end
def uptoSmall : (H : Type) → List (DataW H) → Bool := fun _ ds => decide (uptoBulkAll ds ≤ 1048576)
def OpenSpec.upto (s : _root_.Go.ChangeSpec) : _root_.Go.OpenSpec := { _root_.Go.OpenSpec.ofChange s with cond := some uptoSmall }

/-- 'revetmentlaw10.TableTells', WHERE WHAT IT READS IS OF BULK AT MOST 1048576: true; the input reads as it did. -/
def tableTellsUptoRow : OpenClaim := { program := "ytekceggcbpeoeaa", sum := "f43e24969011d4d4d3a2cf66b1e4a70e75913f1327a84f51eb3d37302121cf24", func := "revetment/revetmentlaw10.TableTells", spec := "tableTells", inPlace := ["slices.overlaps[revetment/api.Pair]"], unfollowed := true, recurses := true, apart := false, narrowed := true }
def TableTellsUptoSaid : Prop := tableTellsUptoRow.holds Try.pinned (OpenSpec.upto tableTellsSpec)

/-- 'revetmentlaw10.TableMerges', WHERE WHAT IT READS IS OF BULK AT MOST 1048576: true; the input reads as it did. -/
def tableMergesUptoRow : OpenClaim := { program := "ytekceggcbpeoeaa", sum := "f43e24969011d4d4d3a2cf66b1e4a70e75913f1327a84f51eb3d37302121cf24", func := "revetment/revetmentlaw10.TableMerges", spec := "tableMerges", inPlace := ["slices.overlaps[revetment/api.Pair]"], unfollowed := true, recurses := true, apart := false, narrowed := true }
def TableMergesUptoSaid : Prop := tableMergesUptoRow.holds Try.pinned (OpenSpec.upto tableMergesSpec)

/-- 'revetmentlaw10.TablePuts', WHERE WHAT IT READS IS OF BULK AT MOST 1048576: true; the input reads as it did. -/
def tablePutsUptoRow : OpenClaim := { program := "ytekceggcbpeoeaa", sum := "f43e24969011d4d4d3a2cf66b1e4a70e75913f1327a84f51eb3d37302121cf24", func := "revetment/revetmentlaw10.TablePuts", spec := "tablePuts", inPlace := ["slices.overlaps[revetment/api.Pair]"], unfollowed := true, recurses := true, apart := false, narrowed := true }
def TablePutsUptoSaid : Prop := tablePutsUptoRow.holds Try.pinned (OpenSpec.upto tablePutsSpec)

/-- 'revetmentlaw10.TableFinds', WHERE WHAT IT READS IS OF BULK AT MOST 1048576: true; the input reads as it did. -/
def tableFindsUptoRow : OpenClaim := { program := "ytekceggcbpeoeaa", sum := "f43e24969011d4d4d3a2cf66b1e4a70e75913f1327a84f51eb3d37302121cf24", func := "revetment/revetmentlaw10.TableFinds", spec := "tableFinds", inPlace := ["slices.overlaps[revetment/api.Pair]"], unfollowed := true, recurses := true, apart := false, narrowed := true }
def TableFindsUptoSaid : Prop := tableFindsUptoRow.holds Try.pinned (OpenSpec.upto tableFindsSpec)

end Rows
end Go.Proofs.Ytekceggcbpeoeaa
