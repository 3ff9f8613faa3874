/-
  No cell of these rows narrows 'for every input' (looked for: loops, veiled, ifaces, maps, wideKeys, modest, calm, conditions, laid).
  DERIVED. THE GIVEN ROWS OF THIS SEAT. 5 by the template 'for every input the law returns true; each argument reads behind the call as it read before'; 0 by the template 'total and deterministic' (their statements: YtodoakeifdiidaaTotals.lean).
  GIVEN WITH THE SEED: the statements are not yours to turn. If you find one false, say at which input.
  Laid BY PROGRAM, IN A SANDBOX (cutbox-rows.mjs): the forced cells as the released guide's own fill.sh prints them over the translation d88fd2756a7a539e… (all of the seat's roots in one cut). By AI agents, Wed Nov 11 2026. No macro, syntax, notation, axiom, sorry.
-/
import Derived.Test.YtodoakeifdiidaaChecked
import GoSem.Claim
import GoSem.ClaimJoined
import GoSem.ClaimMapViews
import Derived.JoinedTies
import Derived.KernelRfl
namespace Go.Proofs.Ytodoakeifdiidaa
/- THE CELL 'sum', in the pinned program and in every row, IS THE sha256 OF THE DUMP (.gsa) THAT YtodoakeifdiidaaProg.lean LOADS. Nothing in Lean hashes anything: it is a label: what it is worth is what the hold of that sum in a sandbox is worth. -/
noncomputable def Try.pinned : Pinned := { name := "ytodoakeifdiidaa", sum := "d88fd2756a7a539efafdfe6940494999ef11534c982571c9bcda7b4cfba61f46", checked := Try.checked }
namespace Rows
def none {H : Type} : Left H := { results := [], args := [] }

/-- 'revetmentlaw13.WaysApart': WHATEVER THE INPUT: true; the input reads as it did. -/
def waysApartSpec : ChangeSpec := { name := "waysApart", fn := fun _ => fun
  | [d1, d2] => { results := [.lit (.bool true)], args := [d1, d2] }
  | _ => none }
def waysApartRow : OpenClaim := { program := "ytodoakeifdiidaa", sum := "d88fd2756a7a539efafdfe6940494999ef11534c982571c9bcda7b4cfba61f46", func := "revetment/revetmentlaw13.WaysApart", spec := "waysApart", apart := false }
def WaysApartSaid : Prop := waysApartRow.holds Try.pinned (OpenSpec.ofChange waysApartSpec)

/-- ITS FALSE NEIGHBOUR: 'it returns false'. Refute it at one input. -/
def waysApartWrong : ChangeSpec := { name := "waysApart", fn := fun _ => fun
  | [d1, d2] => { results := [.lit (.bool false)], args := [d1, d2] }
  | _ => none }
def WaysApartWrongFalsely : Prop := waysApartRow.holds Try.pinned (OpenSpec.ofChange waysApartWrong)

/-- 'revetmentlaw13.WaysClock': WHATEVER THE INPUT: true; the input reads as it did. -/
def waysClockSpec : ChangeSpec := { name := "waysClock", fn := fun _ => fun
  | [d1, d2] => { results := [.lit (.bool true)], args := [d1, d2] }
  | _ => none }
def waysClockRow : OpenClaim := { program := "ytodoakeifdiidaa", sum := "d88fd2756a7a539efafdfe6940494999ef11534c982571c9bcda7b4cfba61f46", func := "revetment/revetmentlaw13.WaysClock", spec := "waysClock", apart := false }
def WaysClockSaid : Prop := waysClockRow.holds Try.pinned (OpenSpec.ofChange waysClockSpec)

/-- ITS FALSE NEIGHBOUR: 'it returns false'. Refute it at one input. -/
def waysClockWrong : ChangeSpec := { name := "waysClock", fn := fun _ => fun
  | [d1, d2] => { results := [.lit (.bool false)], args := [d1, d2] }
  | _ => none }
def WaysClockWrongFalsely : Prop := waysClockRow.holds Try.pinned (OpenSpec.ofChange waysClockWrong)

/-- 'revetmentlaw13.WaysSets': WHATEVER THE INPUT: true; the input reads as it did. -/
def waysSetsSpec : ChangeSpec := { name := "waysSets", fn := fun _ => fun
  | [d1, d2] => { results := [.lit (.bool true)], args := [d1, d2] }
  | _ => none }
def waysSetsRow : OpenClaim := { program := "ytodoakeifdiidaa", sum := "d88fd2756a7a539efafdfe6940494999ef11534c982571c9bcda7b4cfba61f46", func := "revetment/revetmentlaw13.WaysSets", spec := "waysSets", apart := false }
def WaysSetsSaid : Prop := waysSetsRow.holds Try.pinned (OpenSpec.ofChange waysSetsSpec)

/-- ITS FALSE NEIGHBOUR: 'it returns false'. Refute it at one input. -/
def waysSetsWrong : ChangeSpec := { name := "waysSets", fn := fun _ => fun
  | [d1, d2] => { results := [.lit (.bool false)], args := [d1, d2] }
  | _ => none }
def WaysSetsWrongFalsely : Prop := waysSetsRow.holds Try.pinned (OpenSpec.ofChange waysSetsWrong)

/-- 'revetmentlaw13.WaysPlays': WHATEVER THE INPUT: true; the input reads as it did. -/
def waysPlaysSpec : ChangeSpec := { name := "waysPlays", fn := fun _ => fun
  | [d1, d2] => { results := [.lit (.bool true)], args := [d1, d2] }
  | _ => none }
def waysPlaysRow : OpenClaim := { program := "ytodoakeifdiidaa", sum := "d88fd2756a7a539efafdfe6940494999ef11534c982571c9bcda7b4cfba61f46", func := "revetment/revetmentlaw13.WaysPlays", spec := "waysPlays", apart := false }
def WaysPlaysSaid : Prop := waysPlaysRow.holds Try.pinned (OpenSpec.ofChange waysPlaysSpec)

/-- ITS FALSE NEIGHBOUR: 'it returns false'. Refute it at one input. -/
def waysPlaysWrong : ChangeSpec := { name := "waysPlays", fn := fun _ => fun
  | [d1, d2] => { results := [.lit (.bool false)], args := [d1, d2] }
  | _ => none }
def WaysPlaysWrongFalsely : Prop := waysPlaysRow.holds Try.pinned (OpenSpec.ofChange waysPlaysWrong)

/-- 'revetmentlaw13.WaysNone': WHATEVER THE INPUT: true; the input reads as it did. -/
def waysNoneSpec : ChangeSpec := { name := "waysNone", fn := fun _ => fun
  | [d] => { results := [.lit (.bool true)], args := [d] }
  | _ => none }
def waysNoneRow : OpenClaim := { program := "ytodoakeifdiidaa", sum := "d88fd2756a7a539efafdfe6940494999ef11534c982571c9bcda7b4cfba61f46", func := "revetment/revetmentlaw13.WaysNone", spec := "waysNone", apart := false }
def WaysNoneSaid : Prop := waysNoneRow.holds Try.pinned (OpenSpec.ofChange waysNoneSpec)

/-- ITS FALSE NEIGHBOUR: 'it returns false'. Refute it at one input. -/
def waysNoneWrong : ChangeSpec := { name := "waysNone", fn := fun _ => fun
  | [d] => { results := [.lit (.bool false)], args := [d] }
  | _ => none }
def WaysNoneWrongFalsely : Prop := waysNoneRow.holds Try.pinned (OpenSpec.ofChange waysNoneWrong)

/- THE SECOND FORM. 'bulk': how many values and letters a reading holds, each counted each time it is reached (what is shared counts as often as it is met; a slice's spare places count too). A statement '..UptoSaid' is the law's where the arguments, and the package variables that the reading takes, are together of bulk at most 1048576: NARROWER than '..Said'. Prove '..Said' where nothing that the law and all that it calls make is longer than what came in: it says more and counts as full. Else prove '..UptoSaid'. A law counts once. -/
mutual
def uptoBulk {H : Type} : DataW H → Nat
  | .lit (.string bytes) => bytes.length + 1
  | .lit _ => 1
  | .nil => 1
  | .ptr d => uptoBulk d + 1
  | .slice elems spare => uptoBulkAll elems + uptoBulkAll spare + 1
  | .agg parts => uptoBulkAll parts + 1
  | .iface _ d => uptoBulk d + 1
  | .map entries => uptoBulkEntries entries + 1
  | .held _ => 1
def uptoBulkAll {H : Type} : List (DataW H) → Nat
  | [] => 0
  | d :: r => uptoBulk d + uptoBulkAll r
def uptoBulkEntries {H : Type} : List (Lit × DataW H) → Nat
  | [] => 0
  | x :: r => uptoBulkEntry x + uptoBulkEntries r
def uptoBulkEntry {H : Type} : Lit × DataW H → Nat
  | (.string bytes, d) => bytes.length + uptoBulk d + 1
  | (_, d) => uptoBulk d + 1
 end
def uptoSmall : (H : Type) → List (DataW H) → Bool := fun _ ds => decide (uptoBulkAll ds ≤ 1048576)
def OpenSpec.upto (s : _root_.Go.ChangeSpec) : _root_.Go.OpenSpec := { _root_.Go.OpenSpec.ofChange s with cond := some uptoSmall }

/-- 'revetmentlaw13.WaysApart', WHERE WHAT IT READS IS OF BULK AT MOST 1048576: true; the input reads as it did. -/
def waysApartUptoRow : OpenClaim := { program := "ytodoakeifdiidaa", sum := "d88fd2756a7a539efafdfe6940494999ef11534c982571c9bcda7b4cfba61f46", func := "revetment/revetmentlaw13.WaysApart", spec := "waysApart", apart := false, narrowed := true }
def WaysApartUptoSaid : Prop := waysApartUptoRow.holds Try.pinned (OpenSpec.upto waysApartSpec)

/-- 'revetmentlaw13.WaysClock', WHERE WHAT IT READS IS OF BULK AT MOST 1048576: true; the input reads as it did. -/
def waysClockUptoRow : OpenClaim := { program := "ytodoakeifdiidaa", sum := "d88fd2756a7a539efafdfe6940494999ef11534c982571c9bcda7b4cfba61f46", func := "revetment/revetmentlaw13.WaysClock", spec := "waysClock", apart := false, narrowed := true }
def WaysClockUptoSaid : Prop := waysClockUptoRow.holds Try.pinned (OpenSpec.upto waysClockSpec)

/-- 'revetmentlaw13.WaysSets', WHERE WHAT IT READS IS OF BULK AT MOST 1048576: true; the input reads as it did. -/
def waysSetsUptoRow : OpenClaim := { program := "ytodoakeifdiidaa", sum := "d88fd2756a7a539efafdfe6940494999ef11534c982571c9bcda7b4cfba61f46", func := "revetment/revetmentlaw13.WaysSets", spec := "waysSets", apart := false, narrowed := true }
def WaysSetsUptoSaid : Prop := waysSetsUptoRow.holds Try.pinned (OpenSpec.upto waysSetsSpec)

/-- 'revetmentlaw13.WaysPlays', WHERE WHAT IT READS IS OF BULK AT MOST 1048576: true; the input reads as it did. -/
def waysPlaysUptoRow : OpenClaim := { program := "ytodoakeifdiidaa", sum := "d88fd2756a7a539efafdfe6940494999ef11534c982571c9bcda7b4cfba61f46", func := "revetment/revetmentlaw13.WaysPlays", spec := "waysPlays", apart := false, narrowed := true }
def WaysPlaysUptoSaid : Prop := waysPlaysUptoRow.holds Try.pinned (OpenSpec.upto waysPlaysSpec)

/-- 'revetmentlaw13.WaysNone', WHERE WHAT IT READS IS OF BULK AT MOST 1048576: true; the input reads as it did. -/
def waysNoneUptoRow : OpenClaim := { program := "ytodoakeifdiidaa", sum := "d88fd2756a7a539efafdfe6940494999ef11534c982571c9bcda7b4cfba61f46", func := "revetment/revetmentlaw13.WaysNone", spec := "waysNone", apart := false, narrowed := true }
def WaysNoneUptoSaid : Prop := waysNoneUptoRow.holds Try.pinned (OpenSpec.upto waysNoneSpec)

end Rows
end Go.Proofs.Ytodoakeifdiidaa
