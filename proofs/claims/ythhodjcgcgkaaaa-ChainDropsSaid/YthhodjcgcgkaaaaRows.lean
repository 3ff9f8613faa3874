/-
  No cell of these rows narrows 'for every input' (looked for: loops, veiled, ifaces, maps, wideKeys, modest, calm, conditions, laid).
  DERIVED. THE GIVEN ROWS OF THIS SEAT. 6 by the template 'for every input the law returns true; each argument reads behind the call as it read before'; 0 by the template 'total and deterministic' (their statements: YthhodjcgcgkaaaaTotals.lean).
  GIVEN WITH THE SEED: the statements are not yours to turn. If you find one false, say at which input.
  Laid BY PROGRAM, IN A SANDBOX (cutbox-rows.mjs): the forced cells as the released guide's own fill.sh prints them over the translation d5d9d4a652e279b4… (all of the seat's roots in one cut). By AI agents, Wed Nov 11 2026. No macro, syntax, notation, axiom, sorry.
-/
import Derived.Test.YthhodjcgcgkaaaaChecked
import GoSem.Claim
import GoSem.ClaimJoined
import GoSem.ClaimMapViews
import Derived.JoinedTies
import Derived.KernelRfl
namespace Go.Proofs.Ythhodjcgcgkaaaa
/- THE CELL 'sum', in the pinned program and in every row, IS THE sha256 OF THE DUMP (.gsa) THAT YthhodjcgcgkaaaaProg.lean LOADS. Nothing in Lean hashes anything: it is a label: what it is worth is what the hold of that sum in a sandbox is worth. -/
noncomputable def Try.pinned : Pinned := { name := "ythhodjcgcgkaaaa", sum := "d5d9d4a652e279b40d3c2eab2af301363042ec23a9c51789617a778bf8d3cbb9", checked := Try.checked }
namespace Rows
def none {H : Type} : Left H := { results := [], args := [] }

/-- 'revetmentlaw11.ChainTells': WHATEVER THE INPUT: true; the input reads as it did. -/
def chainTellsSpec : ChangeSpec := { name := "chainTells", fn := fun _ => fun
  | [d1, d2] => { results := [.lit (.bool true)], args := [d1, d2] }
  | _ => none }
def chainTellsRow : OpenClaim := { program := "ythhodjcgcgkaaaa", sum := "d5d9d4a652e279b40d3c2eab2af301363042ec23a9c51789617a778bf8d3cbb9", func := "revetment/revetmentlaw11.ChainTells", spec := "chainTells", inPlace := ["slices.overlaps[revetment/api.Pair]"], unfollowed := true, recurses := true, apart := false }
def ChainTellsSaid : Prop := chainTellsRow.holds Try.pinned (OpenSpec.ofChange chainTellsSpec)

/-- ITS FALSE NEIGHBOUR: 'it returns false'. Refute it at one input. -/
def chainTellsWrong : ChangeSpec := { name := "chainTells", fn := fun _ => fun
  | [d1, d2] => { results := [.lit (.bool false)], args := [d1, d2] }
  | _ => none }
def ChainTellsWrongFalsely : Prop := chainTellsRow.holds Try.pinned (OpenSpec.ofChange chainTellsWrong)

/-- 'revetmentlaw11.ChainCuts': WHATEVER THE INPUT: true; the input reads as it did. -/
def chainCutsSpec : ChangeSpec := { name := "chainCuts", fn := fun _ => fun
  | [d1, d2] => { results := [.lit (.bool true)], args := [d1, d2] }
  | _ => none }
def chainCutsRow : OpenClaim := { program := "ythhodjcgcgkaaaa", sum := "d5d9d4a652e279b40d3c2eab2af301363042ec23a9c51789617a778bf8d3cbb9", func := "revetment/revetmentlaw11.ChainCuts", spec := "chainCuts", inPlace := ["slices.overlaps[revetment/api.Pair]"], unfollowed := true, recurses := true, apart := false }
def ChainCutsSaid : Prop := chainCutsRow.holds Try.pinned (OpenSpec.ofChange chainCutsSpec)

/-- ITS FALSE NEIGHBOUR: 'it returns false'. Refute it at one input. -/
def chainCutsWrong : ChangeSpec := { name := "chainCuts", fn := fun _ => fun
  | [d1, d2] => { results := [.lit (.bool false)], args := [d1, d2] }
  | _ => none }
def ChainCutsWrongFalsely : Prop := chainCutsRow.holds Try.pinned (OpenSpec.ofChange chainCutsWrong)

/-- 'revetmentlaw11.ChainStays': WHATEVER THE INPUT: true; the input reads as it did. -/
def chainStaysSpec : ChangeSpec := { name := "chainStays", fn := fun _ => fun
  | [d1, d2] => { results := [.lit (.bool true)], args := [d1, d2] }
  | _ => none }
def chainStaysRow : OpenClaim := { program := "ythhodjcgcgkaaaa", sum := "d5d9d4a652e279b40d3c2eab2af301363042ec23a9c51789617a778bf8d3cbb9", func := "revetment/revetmentlaw11.ChainStays", spec := "chainStays", inPlace := ["slices.overlaps[revetment/api.Pair]"], unfollowed := true, recurses := true, apart := false }
def ChainStaysSaid : Prop := chainStaysRow.holds Try.pinned (OpenSpec.ofChange chainStaysSpec)

/-- ITS FALSE NEIGHBOUR: 'it returns false'. Refute it at one input. -/
def chainStaysWrong : ChangeSpec := { name := "chainStays", fn := fun _ => fun
  | [d1, d2] => { results := [.lit (.bool false)], args := [d1, d2] }
  | _ => none }
def ChainStaysWrongFalsely : Prop := chainStaysRow.holds Try.pinned (OpenSpec.ofChange chainStaysWrong)

/-- 'revetmentlaw11.ChainDrops': WHATEVER THE INPUT: true; the input reads as it did. -/
def chainDropsSpec : ChangeSpec := { name := "chainDrops", fn := fun _ => fun
  | [d1, d2] => { results := [.lit (.bool true)], args := [d1, d2] }
  | _ => none }
def chainDropsRow : OpenClaim := { program := "ythhodjcgcgkaaaa", sum := "d5d9d4a652e279b40d3c2eab2af301363042ec23a9c51789617a778bf8d3cbb9", func := "revetment/revetmentlaw11.ChainDrops", spec := "chainDrops", inPlace := ["slices.overlaps[revetment/api.Pair]"], unfollowed := true, recurses := true, apart := false }
def ChainDropsSaid : Prop := chainDropsRow.holds Try.pinned (OpenSpec.ofChange chainDropsSpec)

/-- ITS FALSE NEIGHBOUR: 'it returns false'. Refute it at one input. -/
def chainDropsWrong : ChangeSpec := { name := "chainDrops", fn := fun _ => fun
  | [d1, d2] => { results := [.lit (.bool false)], args := [d1, d2] }
  | _ => none }
def ChainDropsWrongFalsely : Prop := chainDropsRow.holds Try.pinned (OpenSpec.ofChange chainDropsWrong)

/-- 'revetmentlaw11.ChainHolds': WHATEVER THE INPUT: true; the input reads as it did. -/
def chainHoldsSpec : ChangeSpec := { name := "chainHolds", fn := fun _ => fun
  | [d1, d2] => { results := [.lit (.bool true)], args := [d1, d2] }
  | _ => none }
def chainHoldsRow : OpenClaim := { program := "ythhodjcgcgkaaaa", sum := "d5d9d4a652e279b40d3c2eab2af301363042ec23a9c51789617a778bf8d3cbb9", func := "revetment/revetmentlaw11.ChainHolds", spec := "chainHolds", inPlace := ["slices.overlaps[revetment/api.Pair]"], unfollowed := true, recurses := true, apart := false }
def ChainHoldsSaid : Prop := chainHoldsRow.holds Try.pinned (OpenSpec.ofChange chainHoldsSpec)

/-- ITS FALSE NEIGHBOUR: 'it returns false'. Refute it at one input. -/
def chainHoldsWrong : ChangeSpec := { name := "chainHolds", fn := fun _ => fun
  | [d1, d2] => { results := [.lit (.bool false)], args := [d1, d2] }
  | _ => none }
def ChainHoldsWrongFalsely : Prop := chainHoldsRow.holds Try.pinned (OpenSpec.ofChange chainHoldsWrong)

/-- 'revetmentlaw11.ChainChanges': WHATEVER THE INPUT: true; the input reads as it did. -/
def chainChangesSpec : ChangeSpec := { name := "chainChanges", fn := fun _ => fun
  | [d1, d2] => { results := [.lit (.bool true)], args := [d1, d2] }
  | _ => none }
def chainChangesRow : OpenClaim := { program := "ythhodjcgcgkaaaa", sum := "d5d9d4a652e279b40d3c2eab2af301363042ec23a9c51789617a778bf8d3cbb9", func := "revetment/revetmentlaw11.ChainChanges", spec := "chainChanges", inPlace := ["slices.overlaps[revetment/api.Pair]"], unfollowed := true, recurses := true, apart := false }
def ChainChangesSaid : Prop := chainChangesRow.holds Try.pinned (OpenSpec.ofChange chainChangesSpec)

/-- ITS FALSE NEIGHBOUR: 'it returns false'. Refute it at one input. -/
def chainChangesWrong : ChangeSpec := { name := "chainChanges", fn := fun _ => fun
  | [d1, d2] => { results := [.lit (.bool false)], args := [d1, d2] }
  | _ => none }
def ChainChangesWrongFalsely : Prop := chainChangesRow.holds Try.pinned (OpenSpec.ofChange chainChangesWrong)

/- THE SECOND FORM. 'bulk': how many values and letters a reading holds, each counted each time it is reached (what is shared counts as often as it is met; a slice's spare places count too). A statement '..UptoSaid' is the law's where the arguments, and the package variables that the reading takes, are together of bulk at most 1048576: NARROWER than '..Said'. Prove '..Said' where nothing that the law and all that it calls make is longer than what came in: it says more and counts as full. Else prove '..UptoSaid'. A law counts once. -/
mutual
def uptoBulk {H : Type} : DataW H → Nat
  | .lit (.string bytes) => bytes.length + 1
  | .lit _ => 1
  | .nil => 1
  | .ptr d => uptoBulk d + 1
  | .slice elems spare => uptoBulkAll elems + uptoBulkAll spare + 1
  | .agg parts => uptoBulkAll parts + 1
  | .iface _ d => uptoBulk d + 1
  | .map entries => uptoBulkEntries entries + 1
  | .held _ => 1
def uptoBulkAll {H : Type} : List (DataW H) → Nat
  | [] => 0
  | d :: r => uptoBulk d + uptoBulkAll r
def uptoBulkEntries {H : Type} : List (Lit × DataW H) → Nat
  | [] => 0
  | x :: r => uptoBulkEntry x + uptoBulkEntries r
def uptoBulkEntry {H : Type} : Lit × DataW H → Nat
  | (.string bytes, d) => bytes.length + uptoBulk d + 1
  | (_, d) => uptoBulk d + 1
 end
def uptoSmall : (H : Type) → List (DataW H) → Bool := fun _ ds => decide (uptoBulkAll ds ≤ 1048576)
def OpenSpec.upto (s : _root_.Go.ChangeSpec) : _root_.Go.OpenSpec := { _root_.Go.OpenSpec.ofChange s with cond := some uptoSmall }

/-- 'revetmentlaw11.ChainTells', WHERE WHAT IT READS IS OF BULK AT MOST 1048576: true; the input reads as it did. -/
def chainTellsUptoRow : OpenClaim := { program := "ythhodjcgcgkaaaa", sum := "d5d9d4a652e279b40d3c2eab2af301363042ec23a9c51789617a778bf8d3cbb9", func := "revetment/revetmentlaw11.ChainTells", spec := "chainTells", inPlace := ["slices.overlaps[revetment/api.Pair]"], unfollowed := true, recurses := true, apart := false, narrowed := true }
def ChainTellsUptoSaid : Prop := chainTellsUptoRow.holds Try.pinned (OpenSpec.upto chainTellsSpec)

/-- 'revetmentlaw11.ChainCuts', WHERE WHAT IT READS IS OF BULK AT MOST 1048576: true; the input reads as it did. -/
def chainCutsUptoRow : OpenClaim := { program := "ythhodjcgcgkaaaa", sum := "d5d9d4a652e279b40d3c2eab2af301363042ec23a9c51789617a778bf8d3cbb9", func := "revetment/revetmentlaw11.ChainCuts", spec := "chainCuts", inPlace := ["slices.overlaps[revetment/api.Pair]"], unfollowed := true, recurses := true, apart := false, narrowed := true }
def ChainCutsUptoSaid : Prop := chainCutsUptoRow.holds Try.pinned (OpenSpec.upto chainCutsSpec)

/-- 'revetmentlaw11.ChainStays', WHERE WHAT IT READS IS OF BULK AT MOST 1048576: true; the input reads as it did. -/
def chainStaysUptoRow : OpenClaim := { program := "ythhodjcgcgkaaaa", sum := "d5d9d4a652e279b40d3c2eab2af301363042ec23a9c51789617a778bf8d3cbb9", func := "revetment/revetmentlaw11.ChainStays", spec := "chainStays", inPlace := ["slices.overlaps[revetment/api.Pair]"], unfollowed := true, recurses := true, apart := false, narrowed := true }
def ChainStaysUptoSaid : Prop := chainStaysUptoRow.holds Try.pinned (OpenSpec.upto chainStaysSpec)

/-- 'revetmentlaw11.ChainDrops', WHERE WHAT IT READS IS OF BULK AT MOST 1048576: true; the input reads as it did. -/
def chainDropsUptoRow : OpenClaim := { program := "ythhodjcgcgkaaaa", sum := "d5d9d4a652e279b40d3c2eab2af301363042ec23a9c51789617a778bf8d3cbb9", func := "revetment/revetmentlaw11.ChainDrops", spec := "chainDrops", inPlace := ["slices.overlaps[revetment/api.Pair]"], unfollowed := true, recurses := true, apart := false, narrowed := true }
def ChainDropsUptoSaid : Prop := chainDropsUptoRow.holds Try.pinned (OpenSpec.upto chainDropsSpec)

/-- 'revetmentlaw11.ChainHolds', WHERE WHAT IT READS IS OF BULK AT MOST 1048576: true; the input reads as it did. -/
def chainHoldsUptoRow : OpenClaim := { program := "ythhodjcgcgkaaaa", sum := "d5d9d4a652e279b40d3c2eab2af301363042ec23a9c51789617a778bf8d3cbb9", func := "revetment/revetmentlaw11.ChainHolds", spec := "chainHolds", inPlace := ["slices.overlaps[revetment/api.Pair]"], unfollowed := true, recurses := true, apart := false, narrowed := true }
def ChainHoldsUptoSaid : Prop := chainHoldsUptoRow.holds Try.pinned (OpenSpec.upto chainHoldsSpec)

/-- 'revetmentlaw11.ChainChanges', WHERE WHAT IT READS IS OF BULK AT MOST 1048576: true; the input reads as it did. -/
def chainChangesUptoRow : OpenClaim := { program := "ythhodjcgcgkaaaa", sum := "d5d9d4a652e279b40d3c2eab2af301363042ec23a9c51789617a778bf8d3cbb9", func := "revetment/revetmentlaw11.ChainChanges", spec := "chainChanges", inPlace := ["slices.overlaps[revetment/api.Pair]"], unfollowed := true, recurses := true, apart := false, narrowed := true }
def ChainChangesUptoSaid : Prop := chainChangesUptoRow.holds Try.pinned (OpenSpec.upto chainChangesSpec)

end Rows
end Go.Proofs.Ythhodjcgcgkaaaa
