/-
  No cell of these rows narrows 'for every input' (looked for: loops, veiled, ifaces, maps, wideKeys, modest, calm, conditions, laid).
  DERIVED. THE GIVEN ROWS OF THIS SEAT. 5 by the template 'for every input the law returns true; each argument reads behind the call as it read before'; 0 by the template 'total and deterministic' (their statements: YtipedaadjfhdnaaTotals.lean).
  GIVEN WITH THE SEED: the statements are not yours to turn. If you find one false, say at which input.
  Laid BY PROGRAM, IN A SANDBOX (cutbox-rows.mjs): the forced cells as the released guide's own fill.sh prints them over the translation 7b160d2137facbc3… (all of the seat's roots in one cut). By AI agents, Wed Nov 11 2026. No macro, syntax, notation, axiom, sorry.
-/
import Derived.Test.YtipedaadjfhdnaaChecked
import GoSem.Claim
import GoSem.ClaimJoined
import GoSem.ClaimMapViews
import Derived.JoinedTies
import Derived.KernelRfl
namespace Go.Proofs.Ytipedaadjfhdnaa
/- THE CELL 'sum', in the pinned program and in every row, IS THE sha256 OF THE DUMP (.gsa) THAT YtipedaadjfhdnaaProg.lean LOADS. Nothing in Lean hashes anything: it is a label: what it is worth is what the hold of that sum in a sandbox is worth. -/
noncomputable def Try.pinned : Pinned := { name := "ytipedaadjfhdnaa", sum := "7b160d2137facbc3e62a382cf23404971dcbe58c70197c7b1d0fec0099a77f78", checked := Try.checked }
namespace Rows
def none {H : Type} : Left H := { results := [], args := [] }

/-- 'revetmentlaw06.RingNone': WHATEVER THE INPUT: true; the input reads as it did. -/
def ringNoneSpec : ChangeSpec := { name := "ringNone", fn := fun _ => fun
  | [d1, d2, d3] => { results := [.lit (.bool true)], args := [d1, d2, d3] }
  | _ => none }
def ringNoneRow : OpenClaim := { program := "ytipedaadjfhdnaa", sum := "7b160d2137facbc3e62a382cf23404971dcbe58c70197c7b1d0fec0099a77f78", func := "revetment/revetmentlaw06.RingNone", spec := "ringNone", unfollowed := true, recurses := true, apart := false }
def RingNoneSaid : Prop := ringNoneRow.holds Try.pinned (OpenSpec.ofChange ringNoneSpec)

/-- ITS FALSE NEIGHBOUR: 'it returns false'. Refute it at one input. -/
def ringNoneWrong : ChangeSpec := { name := "ringNone", fn := fun _ => fun
  | [d1, d2, d3] => { results := [.lit (.bool false)], args := [d1, d2, d3] }
  | _ => none }
def RingNoneWrongFalsely : Prop := ringNoneRow.holds Try.pinned (OpenSpec.ofChange ringNoneWrong)

/-- 'revetmentlaw06.RingStops': WHATEVER THE INPUT: true; the input reads as it did. -/
def ringStopsSpec : ChangeSpec := { name := "ringStops", fn := fun _ => fun
  | [d1, d2, d3] => { results := [.lit (.bool true)], args := [d1, d2, d3] }
  | _ => none }
def ringStopsRow : OpenClaim := { program := "ytipedaadjfhdnaa", sum := "7b160d2137facbc3e62a382cf23404971dcbe58c70197c7b1d0fec0099a77f78", func := "revetment/revetmentlaw06.RingStops", spec := "ringStops", unfollowed := true, recurses := true, apart := false }
def RingStopsSaid : Prop := ringStopsRow.holds Try.pinned (OpenSpec.ofChange ringStopsSpec)

/-- ITS FALSE NEIGHBOUR: 'it returns false'. Refute it at one input. -/
def ringStopsWrong : ChangeSpec := { name := "ringStops", fn := fun _ => fun
  | [d1, d2, d3] => { results := [.lit (.bool false)], args := [d1, d2, d3] }
  | _ => none }
def RingStopsWrongFalsely : Prop := ringStopsRow.holds Try.pinned (OpenSpec.ofChange ringStopsWrong)

/-- 'revetmentlaw06.RingSpoilt': WHATEVER THE INPUT: true; the input reads as it did. -/
def ringSpoiltSpec : ChangeSpec := { name := "ringSpoilt", fn := fun _ => fun
  | [d1, d2, d3] => { results := [.lit (.bool true)], args := [d1, d2, d3] }
  | _ => none }
def ringSpoiltRow : OpenClaim := { program := "ytipedaadjfhdnaa", sum := "7b160d2137facbc3e62a382cf23404971dcbe58c70197c7b1d0fec0099a77f78", func := "revetment/revetmentlaw06.RingSpoilt", spec := "ringSpoilt", unfollowed := true, recurses := true, apart := false }
def RingSpoiltSaid : Prop := ringSpoiltRow.holds Try.pinned (OpenSpec.ofChange ringSpoiltSpec)

/-- ITS FALSE NEIGHBOUR: 'it returns false'. Refute it at one input. -/
def ringSpoiltWrong : ChangeSpec := { name := "ringSpoilt", fn := fun _ => fun
  | [d1, d2, d3] => { results := [.lit (.bool false)], args := [d1, d2, d3] }
  | _ => none }
def RingSpoiltWrongFalsely : Prop := ringSpoiltRow.holds Try.pinned (OpenSpec.ofChange ringSpoiltWrong)

/-- 'revetmentlaw06.RingPlays': WHATEVER THE INPUT: true; the input reads as it did. -/
def ringPlaysSpec : ChangeSpec := { name := "ringPlays", fn := fun _ => fun
  | [d1, d2] => { results := [.lit (.bool true)], args := [d1, d2] }
  | _ => none }
def ringPlaysRow : OpenClaim := { program := "ytipedaadjfhdnaa", sum := "7b160d2137facbc3e62a382cf23404971dcbe58c70197c7b1d0fec0099a77f78", func := "revetment/revetmentlaw06.RingPlays", spec := "ringPlays", unfollowed := true, recurses := true, apart := false }
def RingPlaysSaid : Prop := ringPlaysRow.holds Try.pinned (OpenSpec.ofChange ringPlaysSpec)

/-- ITS FALSE NEIGHBOUR: 'it returns false'. Refute it at one input. -/
def ringPlaysWrong : ChangeSpec := { name := "ringPlays", fn := fun _ => fun
  | [d1, d2] => { results := [.lit (.bool false)], args := [d1, d2] }
  | _ => none }
def RingPlaysWrongFalsely : Prop := ringPlaysRow.holds Try.pinned (OpenSpec.ofChange ringPlaysWrong)

/-- 'revetmentlaw06.RingTorn': WHATEVER THE INPUT: true; the input reads as it did. -/
def ringTornSpec : ChangeSpec := { name := "ringTorn", fn := fun _ => fun
  | [d] => { results := [.lit (.bool true)], args := [d] }
  | _ => none }
def ringTornRow : OpenClaim := { program := "ytipedaadjfhdnaa", sum := "7b160d2137facbc3e62a382cf23404971dcbe58c70197c7b1d0fec0099a77f78", func := "revetment/revetmentlaw06.RingTorn", spec := "ringTorn", unfollowed := true, recurses := true, apart := false }
def RingTornSaid : Prop := ringTornRow.holds Try.pinned (OpenSpec.ofChange ringTornSpec)

/-- ITS FALSE NEIGHBOUR: 'it returns false'. Refute it at one input. -/
def ringTornWrong : ChangeSpec := { name := "ringTorn", fn := fun _ => fun
  | [d] => { results := [.lit (.bool false)], args := [d] }
  | _ => none }
def RingTornWrongFalsely : Prop := ringTornRow.holds Try.pinned (OpenSpec.ofChange ringTornWrong)

/- THE SECOND FORM. 'bulk': how many values and letters a reading holds, each counted each time it is reached (what is shared counts as often as it is met; a slice's spare places count too). A statement '..UptoSaid' is the law's where the arguments, and the package variables that the reading takes, are together of bulk at most 1048576: NARROWER than '..Said'. Prove '..Said' where nothing that the law and all that it calls make is longer than what came in: it says more and counts as full. Else prove '..UptoSaid'. A law counts once. -/
mutual
def uptoBulk {H : Type} : DataW H → Nat
  | .lit (.string bytes) => bytes.length + 1
  | .lit _ => 1
  | .nil => 1
  | .ptr d => uptoBulk d + 1
  | .slice elems spare => uptoBulkAll elems + uptoBulkAll spare + 1
  | .agg parts => uptoBulkAll parts + 1
  | .iface _ d => uptoBulk d + 1
  | .map entries => uptoBulkEntries entries + 1
  | .held _ => 1
def uptoBulkAll {H : Type} : List (DataW H) → Nat
  | [] => 0
  | d :: r => uptoBulk d + uptoBulkAll r
def uptoBulkEntries {H : Type} : List (Lit × DataW H) → Nat
  | [] => 0
  | x :: r => uptoBulkEntry x + uptoBulkEntries r
def uptoBulkEntry {H : Type} : Lit × DataW H → Nat
  | (.string bytes, d) => bytes.length + uptoBulk d + 1
  | (_, d) => uptoBulk d + 1
 end
def uptoSmall : (H : Type) → List (DataW H) → Bool := fun _ ds => decide (uptoBulkAll ds ≤ 1048576)
def OpenSpec.upto (s : _root_.Go.ChangeSpec) : _root_.Go.OpenSpec := { _root_.Go.OpenSpec.ofChange s with cond := some uptoSmall }

/-- 'revetmentlaw06.RingNone', WHERE WHAT IT READS IS OF BULK AT MOST 1048576: true; the input reads as it did. -/
def ringNoneUptoRow : OpenClaim := { program := "ytipedaadjfhdnaa", sum := "7b160d2137facbc3e62a382cf23404971dcbe58c70197c7b1d0fec0099a77f78", func := "revetment/revetmentlaw06.RingNone", spec := "ringNone", unfollowed := true, recurses := true, apart := false, narrowed := true }
def RingNoneUptoSaid : Prop := ringNoneUptoRow.holds Try.pinned (OpenSpec.upto ringNoneSpec)

/-- 'revetmentlaw06.RingStops', WHERE WHAT IT READS IS OF BULK AT MOST 1048576: true; the input reads as it did. -/
def ringStopsUptoRow : OpenClaim := { program := "ytipedaadjfhdnaa", sum := "7b160d2137facbc3e62a382cf23404971dcbe58c70197c7b1d0fec0099a77f78", func := "revetment/revetmentlaw06.RingStops", spec := "ringStops", unfollowed := true, recurses := true, apart := false, narrowed := true }
def RingStopsUptoSaid : Prop := ringStopsUptoRow.holds Try.pinned (OpenSpec.upto ringStopsSpec)

/-- 'revetmentlaw06.RingSpoilt', WHERE WHAT IT READS IS OF BULK AT MOST 1048576: true; the input reads as it did. -/
def ringSpoiltUptoRow : OpenClaim := { program := "ytipedaadjfhdnaa", sum := "7b160d2137facbc3e62a382cf23404971dcbe58c70197c7b1d0fec0099a77f78", func := "revetment/revetmentlaw06.RingSpoilt", spec := "ringSpoilt", unfollowed := true, recurses := true, apart := false, narrowed := true }
def RingSpoiltUptoSaid : Prop := ringSpoiltUptoRow.holds Try.pinned (OpenSpec.upto ringSpoiltSpec)

/-- 'revetmentlaw06.RingPlays', WHERE WHAT IT READS IS OF BULK AT MOST 1048576: true; the input reads as it did. -/
def ringPlaysUptoRow : OpenClaim := { program := "ytipedaadjfhdnaa", sum := "7b160d2137facbc3e62a382cf23404971dcbe58c70197c7b1d0fec0099a77f78", func := "revetment/revetmentlaw06.RingPlays", spec := "ringPlays", unfollowed := true, recurses := true, apart := false, narrowed := true }
def RingPlaysUptoSaid : Prop := ringPlaysUptoRow.holds Try.pinned (OpenSpec.upto ringPlaysSpec)

/-- 'revetmentlaw06.RingTorn', WHERE WHAT IT READS IS OF BULK AT MOST 1048576: true; the input reads as it did. -/
def ringTornUptoRow : OpenClaim := { program := "ytipedaadjfhdnaa", sum := "7b160d2137facbc3e62a382cf23404971dcbe58c70197c7b1d0fec0099a77f78", func := "revetment/revetmentlaw06.RingTorn", spec := "ringTorn", unfollowed := true, recurses := true, apart := false, narrowed := true }
def RingTornUptoSaid : Prop := ringTornUptoRow.holds Try.pinned (OpenSpec.upto ringTornSpec)

end Rows
end Go.Proofs.Ytipedaadjfhdnaa
