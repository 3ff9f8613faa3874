/-
  No cell of these rows narrows 'for every input' (looked for: loops, veiled, ifaces, maps, wideKeys, modest, calm, conditions, laid).
  DERIVED. THE GIVEN ROWS OF THIS SEAT. 5 by the template 'for every input the law returns true; each argument reads behind the call as it read before'; 0 by the template 'total and deterministic' (their statements: YthjkfincekckhaaTotals.lean).
  GIVEN WITH THE SEED: the statements are not yours to turn. If you find one false, say at which input.
  Laid BY PROGRAM, IN A SANDBOX (cutbox-rows.mjs): the forced cells as the released guide's own fill.sh prints them over the translation 9b9c281cec964eeb… (all of the seat's roots in one cut). By AI agents, Wed Nov 11 2026. No macro, syntax, notation, axiom, sorry.
-/
import Derived.Test.YthjkfincekckhaaChecked
import GoSem.Claim
import GoSem.ClaimJoined
import GoSem.ClaimMapViews
import Derived.JoinedTies
import Derived.KernelRfl
namespace Go.Proofs.Ythjkfincekckhaa
/- THE CELL 'sum', in the pinned program and in every row, IS THE sha256 OF THE DUMP (.gsa) THAT YthjkfincekckhaaProg.lean LOADS. Nothing in Lean hashes anything: it is a label: what it is worth is what the hold of that sum in a sandbox is worth. -/
noncomputable def Try.pinned : Pinned := { name := "ythjkfincekckhaa", sum := "9b9c281cec964eebc6857e59badeb3bce0832d654d40a94a2af8c5a9940e9ad7", checked := Try.checked }
namespace Rows
def none {H : Type} : Left H := { results := [], args := [] }

/-- 'revetmentlaw04.RigPlays': WHATEVER THE INPUT: true; the input reads as it did. -/
def rigPlaysSpec : ChangeSpec := { name := "rigPlays", fn := fun _ => fun
  | [d1, d2] => { results := [.lit (.bool true)], args := [d1, d2] }
  | _ => none }
def rigPlaysRow : OpenClaim := { program := "ythjkfincekckhaa", sum := "9b9c281cec964eebc6857e59badeb3bce0832d654d40a94a2af8c5a9940e9ad7", func := "revetment/revetmentlaw04.RigPlays", spec := "rigPlays", unfollowed := true, recurses := true, apart := false }
def RigPlaysSaid : Prop := rigPlaysRow.holds Try.pinned (OpenSpec.ofChange rigPlaysSpec)

/-- ITS FALSE NEIGHBOUR: 'it returns false'. Refute it at one input. -/
def rigPlaysWrong : ChangeSpec := { name := "rigPlays", fn := fun _ => fun
  | [d1, d2] => { results := [.lit (.bool false)], args := [d1, d2] }
  | _ => none }
def RigPlaysWrongFalsely : Prop := rigPlaysRow.holds Try.pinned (OpenSpec.ofChange rigPlaysWrong)

/-- 'revetmentlaw04.RigFuses': WHATEVER THE INPUT: true; the input reads as it did. -/
def rigFusesSpec : ChangeSpec := { name := "rigFuses", fn := fun _ => fun
  | [d1, d2] => { results := [.lit (.bool true)], args := [d1, d2] }
  | _ => none }
def rigFusesRow : OpenClaim := { program := "ythjkfincekckhaa", sum := "9b9c281cec964eebc6857e59badeb3bce0832d654d40a94a2af8c5a9940e9ad7", func := "revetment/revetmentlaw04.RigFuses", spec := "rigFuses", unfollowed := true, recurses := true, apart := false }
def RigFusesSaid : Prop := rigFusesRow.holds Try.pinned (OpenSpec.ofChange rigFusesSpec)

/-- ITS FALSE NEIGHBOUR: 'it returns false'. Refute it at one input. -/
def rigFusesWrong : ChangeSpec := { name := "rigFuses", fn := fun _ => fun
  | [d1, d2] => { results := [.lit (.bool false)], args := [d1, d2] }
  | _ => none }
def RigFusesWrongFalsely : Prop := rigFusesRow.holds Try.pinned (OpenSpec.ofChange rigFusesWrong)

/-- 'revetmentlaw04.RigNone': WHATEVER THE INPUT: true; the input reads as it did. -/
def rigNoneSpec : ChangeSpec := { name := "rigNone", fn := fun _ => fun
  | [d] => { results := [.lit (.bool true)], args := [d] }
  | _ => none }
def rigNoneRow : OpenClaim := { program := "ythjkfincekckhaa", sum := "9b9c281cec964eebc6857e59badeb3bce0832d654d40a94a2af8c5a9940e9ad7", func := "revetment/revetmentlaw04.RigNone", spec := "rigNone", unfollowed := true, recurses := true, apart := false }
def RigNoneSaid : Prop := rigNoneRow.holds Try.pinned (OpenSpec.ofChange rigNoneSpec)

/-- ITS FALSE NEIGHBOUR: 'it returns false'. Refute it at one input. -/
def rigNoneWrong : ChangeSpec := { name := "rigNone", fn := fun _ => fun
  | [d] => { results := [.lit (.bool false)], args := [d] }
  | _ => none }
def RigNoneWrongFalsely : Prop := rigNoneRow.holds Try.pinned (OpenSpec.ofChange rigNoneWrong)

/-- 'revetmentlaw04.RigApart': WHATEVER THE INPUT: true; the input reads as it did. -/
def rigApartSpec : ChangeSpec := { name := "rigApart", fn := fun _ => fun
  | [d] => { results := [.lit (.bool true)], args := [d] }
  | _ => none }
def rigApartRow : OpenClaim := { program := "ythjkfincekckhaa", sum := "9b9c281cec964eebc6857e59badeb3bce0832d654d40a94a2af8c5a9940e9ad7", func := "revetment/revetmentlaw04.RigApart", spec := "rigApart", unfollowed := true, recurses := true, apart := false }
def RigApartSaid : Prop := rigApartRow.holds Try.pinned (OpenSpec.ofChange rigApartSpec)

/-- ITS FALSE NEIGHBOUR: 'it returns false'. Refute it at one input. -/
def rigApartWrong : ChangeSpec := { name := "rigApart", fn := fun _ => fun
  | [d] => { results := [.lit (.bool false)], args := [d] }
  | _ => none }
def RigApartWrongFalsely : Prop := rigApartRow.holds Try.pinned (OpenSpec.ofChange rigApartWrong)

/-- 'revetmentlaw04.RigDone': WHATEVER THE INPUT: true; the input reads as it did. -/
def rigDoneSpec : ChangeSpec := { name := "rigDone", fn := fun _ => fun
  | [d] => { results := [.lit (.bool true)], args := [d] }
  | _ => none }
def rigDoneRow : OpenClaim := { program := "ythjkfincekckhaa", sum := "9b9c281cec964eebc6857e59badeb3bce0832d654d40a94a2af8c5a9940e9ad7", func := "revetment/revetmentlaw04.RigDone", spec := "rigDone", unfollowed := true, recurses := true, apart := false }
def RigDoneSaid : Prop := rigDoneRow.holds Try.pinned (OpenSpec.ofChange rigDoneSpec)

/-- ITS FALSE NEIGHBOUR: 'it returns false'. Refute it at one input. -/
def rigDoneWrong : ChangeSpec := { name := "rigDone", fn := fun _ => fun
  | [d] => { results := [.lit (.bool false)], args := [d] }
  | _ => none }
def RigDoneWrongFalsely : Prop := rigDoneRow.holds Try.pinned (OpenSpec.ofChange rigDoneWrong)

/- THE SECOND FORM. 'bulk': how many values and letters a reading holds, each counted each time it is reached (what is shared counts as often as it is met; a slice's spare places count too). A statement '..UptoSaid' is the law's where the arguments, and the package variables that the reading takes, are together of bulk at most 1048576: NARROWER than '..Said'. Prove '..Said' where nothing that the law and all that it calls make is longer than what came in: it says more and counts as full. Else prove '..UptoSaid'. A law counts once. -/
mutual
def uptoBulk {H : Type} : DataW H → Nat
  | .lit (.string bytes) => bytes.length + 1
  | .lit _ => 1
  | .nil => 1
  | .ptr d => uptoBulk d + 1
  | .slice elems spare => uptoBulkAll elems + uptoBulkAll spare + 1
  | .agg parts => uptoBulkAll parts + 1
  | .iface _ d => uptoBulk d + 1
  | .map entries => uptoBulkEntries entries + 1
  | .held _ => 1
def uptoBulkAll {H : Type} : List (DataW H) → Nat
  | [] => 0
  | d :: r => uptoBulk d + uptoBulkAll r
def uptoBulkEntries {H : Type} : List (Lit × DataW H) → Nat
  | [] => 0
  | x :: r => uptoBulkEntry x + uptoBulkEntries r
def uptoBulkEntry {H : Type} : Lit × DataW H → Nat
  | (.string bytes, d) => bytes.length + uptoBulk d + 1
  | (_, d) => uptoBulk d + 1
 end
def uptoSmall : (H : Type) → List (DataW H) → Bool := fun _ ds => decide (uptoBulkAll ds ≤ 1048576)
def OpenSpec.upto (s : _root_.Go.ChangeSpec) : _root_.Go.OpenSpec := { _root_.Go.OpenSpec.ofChange s with cond := some uptoSmall }

/-- 'revetmentlaw04.RigPlays', WHERE WHAT IT READS IS OF BULK AT MOST 1048576: true; the input reads as it did. -/
def rigPlaysUptoRow : OpenClaim := { program := "ythjkfincekckhaa", sum := "9b9c281cec964eebc6857e59badeb3bce0832d654d40a94a2af8c5a9940e9ad7", func := "revetment/revetmentlaw04.RigPlays", spec := "rigPlays", unfollowed := true, recurses := true, apart := false, narrowed := true }
def RigPlaysUptoSaid : Prop := rigPlaysUptoRow.holds Try.pinned (OpenSpec.upto rigPlaysSpec)

/-- 'revetmentlaw04.RigFuses', WHERE WHAT IT READS IS OF BULK AT MOST 1048576: true; the input reads as it did. -/
def rigFusesUptoRow : OpenClaim := { program := "ythjkfincekckhaa", sum := "9b9c281cec964eebc6857e59badeb3bce0832d654d40a94a2af8c5a9940e9ad7", func := "revetment/revetmentlaw04.RigFuses", spec := "rigFuses", unfollowed := true, recurses := true, apart := false, narrowed := true }
def RigFusesUptoSaid : Prop := rigFusesUptoRow.holds Try.pinned (OpenSpec.upto rigFusesSpec)

/-- 'revetmentlaw04.RigNone', WHERE WHAT IT READS IS OF BULK AT MOST 1048576: true; the input reads as it did. -/
def rigNoneUptoRow : OpenClaim := { program := "ythjkfincekckhaa", sum := "9b9c281cec964eebc6857e59badeb3bce0832d654d40a94a2af8c5a9940e9ad7", func := "revetment/revetmentlaw04.RigNone", spec := "rigNone", unfollowed := true, recurses := true, apart := false, narrowed := true }
def RigNoneUptoSaid : Prop := rigNoneUptoRow.holds Try.pinned (OpenSpec.upto rigNoneSpec)

/-- 'revetmentlaw04.RigApart', WHERE WHAT IT READS IS OF BULK AT MOST 1048576: true; the input reads as it did. -/
def rigApartUptoRow : OpenClaim := { program := "ythjkfincekckhaa", sum := "9b9c281cec964eebc6857e59badeb3bce0832d654d40a94a2af8c5a9940e9ad7", func := "revetment/revetmentlaw04.RigApart", spec := "rigApart", unfollowed := true, recurses := true, apart := false, narrowed := true }
def RigApartUptoSaid : Prop := rigApartUptoRow.holds Try.pinned (OpenSpec.upto rigApartSpec)

/-- 'revetmentlaw04.RigDone', WHERE WHAT IT READS IS OF BULK AT MOST 1048576: true; the input reads as it did. -/
def rigDoneUptoRow : OpenClaim := { program := "ythjkfincekckhaa", sum := "9b9c281cec964eebc6857e59badeb3bce0832d654d40a94a2af8c5a9940e9ad7", func := "revetment/revetmentlaw04.RigDone", spec := "rigDone", unfollowed := true, recurses := true, apart := false, narrowed := true }
def RigDoneUptoSaid : Prop := rigDoneUptoRow.holds Try.pinned (OpenSpec.upto rigDoneSpec)

end Rows
end Go.Proofs.Ythjkfincekckhaa
