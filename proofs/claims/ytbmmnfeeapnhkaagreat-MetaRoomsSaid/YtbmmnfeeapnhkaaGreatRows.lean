/-
  No cell of these rows narrows 'for every input' (looked for: loops, veiled, ifaces, maps, wideKeys, modest, calm, conditions, laid).
  DERIVED. THE GIVEN ROWS OF THIS SEAT. 5 by the template 'for every input the law returns true; each argument reads behind the call as it read before'; 0 by the template 'total and deterministic' (their statements: YtbmmnfeeapnhkaaGreatTotals.lean).
  GIVEN WITH THE SEED: the statements are not yours to turn. If you find one false, say at which input.
  Laid BY PROGRAM, IN A SANDBOX (cutbox-rows.mjs): the forced cells as the released guide's own fill.sh prints them over the translation cda366adfb5e9fdd… (all of the seat's roots in one cut). By AI agents, Wed Nov 11 2026. No macro, syntax, notation, axiom, sorry.
-/
import Derived.Test.YtbmmnfeeapnhkaaGreatChecked
import GoSem.Claim
import GoSem.ClaimJoined
import GoSem.ClaimMapViews
import Derived.JoinedTies
import Derived.KernelRfl
namespace Go.Proofs.YtbmmnfeeapnhkaaGreat
/- THE CELL 'sum', in the pinned program and in every row, IS THE sha256 OF THE DUMP (.gsa) THAT YtbmmnfeeapnhkaaGreatProg.lean LOADS. Nothing in Lean hashes anything: it is a label: what it is worth is what the hold of that sum in a sandbox is worth. -/
noncomputable def Tryz.pinned : Pinned := { name := "ytbmmnfeeapnhkaagreat", sum := "cda366adfb5e9fdd543f6e89397f2da59589c5d81374b309987231d0c00bfd5b", checked := Tryz.checked }
namespace Rows
def none {H : Type} : Left H := { results := [], args := [] }

/-- 'revetmentlaw08.MetaPlays': WHATEVER THE INPUT: true; the input reads as it did. -/
def metaPlaysSpec : ChangeSpec := { name := "metaPlays", fn := fun _ => fun
  | [d1, d2, d3] => { results := [.lit (.bool true)], args := [d1, d2, d3] }
  | _ => none }
def metaPlaysRow : OpenClaim := { program := "ytbmmnfeeapnhkaagreat", sum := "cda366adfb5e9fdd543f6e89397f2da59589c5d81374b309987231d0c00bfd5b", func := "revetment/revetmentlaw08.MetaPlays", spec := "metaPlays", unfollowed := true, recurses := true, apart := false }
def MetaPlaysSaid : Prop := metaPlaysRow.holds Tryz.pinned (OpenSpec.ofChange metaPlaysSpec)

/-- ITS FALSE NEIGHBOUR: 'it returns false'. Refute it at one input. -/
def metaPlaysWrong : ChangeSpec := { name := "metaPlays", fn := fun _ => fun
  | [d1, d2, d3] => { results := [.lit (.bool false)], args := [d1, d2, d3] }
  | _ => none }
def MetaPlaysWrongFalsely : Prop := metaPlaysRow.holds Tryz.pinned (OpenSpec.ofChange metaPlaysWrong)

/-- 'revetmentlaw08.MetaLong': WHATEVER THE INPUT: true; the input reads as it did. -/
def metaLongSpec : ChangeSpec := { name := "metaLong", fn := fun _ => fun
  | [d1, d2, d3] => { results := [.lit (.bool true)], args := [d1, d2, d3] }
  | _ => none }
def metaLongRow : OpenClaim := { program := "ytbmmnfeeapnhkaagreat", sum := "cda366adfb5e9fdd543f6e89397f2da59589c5d81374b309987231d0c00bfd5b", func := "revetment/revetmentlaw08.MetaLong", spec := "metaLong", unfollowed := true, recurses := true, apart := false }
def MetaLongSaid : Prop := metaLongRow.holds Tryz.pinned (OpenSpec.ofChange metaLongSpec)

/-- ITS FALSE NEIGHBOUR: 'it returns false'. Refute it at one input. -/
def metaLongWrong : ChangeSpec := { name := "metaLong", fn := fun _ => fun
  | [d1, d2, d3] => { results := [.lit (.bool false)], args := [d1, d2, d3] }
  | _ => none }
def MetaLongWrongFalsely : Prop := metaLongRow.holds Tryz.pinned (OpenSpec.ofChange metaLongWrong)

/-- 'revetmentlaw08.MetaTorn': WHATEVER THE INPUT: true; the input reads as it did. -/
def metaTornSpec : ChangeSpec := { name := "metaTorn", fn := fun _ => fun
  | [d1, d2] => { results := [.lit (.bool true)], args := [d1, d2] }
  | _ => none }
def metaTornRow : OpenClaim := { program := "ytbmmnfeeapnhkaagreat", sum := "cda366adfb5e9fdd543f6e89397f2da59589c5d81374b309987231d0c00bfd5b", func := "revetment/revetmentlaw08.MetaTorn", spec := "metaTorn", unfollowed := true, recurses := true, apart := false }
def MetaTornSaid : Prop := metaTornRow.holds Tryz.pinned (OpenSpec.ofChange metaTornSpec)

/-- ITS FALSE NEIGHBOUR: 'it returns false'. Refute it at one input. -/
def metaTornWrong : ChangeSpec := { name := "metaTorn", fn := fun _ => fun
  | [d1, d2] => { results := [.lit (.bool false)], args := [d1, d2] }
  | _ => none }
def MetaTornWrongFalsely : Prop := metaTornRow.holds Tryz.pinned (OpenSpec.ofChange metaTornWrong)

/-- 'revetmentlaw08.MetaRooms': WHATEVER THE INPUT: true; the input reads as it did. -/
def metaRoomsSpec : ChangeSpec := { name := "metaRooms", fn := fun _ => fun
  | [d1, d2] => { results := [.lit (.bool true)], args := [d1, d2] }
  | _ => none }
def metaRoomsRow : OpenClaim := { program := "ytbmmnfeeapnhkaagreat", sum := "cda366adfb5e9fdd543f6e89397f2da59589c5d81374b309987231d0c00bfd5b", func := "revetment/revetmentlaw08.MetaRooms", spec := "metaRooms", unfollowed := true, recurses := true, apart := false }
def MetaRoomsSaid : Prop := metaRoomsRow.holds Tryz.pinned (OpenSpec.ofChange metaRoomsSpec)

/-- ITS FALSE NEIGHBOUR: 'it returns false'. Refute it at one input. -/
def metaRoomsWrong : ChangeSpec := { name := "metaRooms", fn := fun _ => fun
  | [d1, d2] => { results := [.lit (.bool false)], args := [d1, d2] }
  | _ => none }
def MetaRoomsWrongFalsely : Prop := metaRoomsRow.holds Tryz.pinned (OpenSpec.ofChange metaRoomsWrong)

/-- 'revetmentlaw08.MetaOpens': WHATEVER THE INPUT: true; the input reads as it did. -/
def metaOpensSpec : ChangeSpec := { name := "metaOpens", fn := fun _ => fun
  | [d1, d2] => { results := [.lit (.bool true)], args := [d1, d2] }
  | _ => none }
def metaOpensRow : OpenClaim := { program := "ytbmmnfeeapnhkaagreat", sum := "cda366adfb5e9fdd543f6e89397f2da59589c5d81374b309987231d0c00bfd5b", func := "revetment/revetmentlaw08.MetaOpens", spec := "metaOpens", unfollowed := true, recurses := true, apart := false }
def MetaOpensSaid : Prop := metaOpensRow.holds Tryz.pinned (OpenSpec.ofChange metaOpensSpec)

/-- ITS FALSE NEIGHBOUR: 'it returns false'. Refute it at one input. -/
def metaOpensWrong : ChangeSpec := { name := "metaOpens", fn := fun _ => fun
  | [d1, d2] => { results := [.lit (.bool false)], args := [d1, d2] }
  | _ => none }
def MetaOpensWrongFalsely : Prop := metaOpensRow.holds Tryz.pinned (OpenSpec.ofChange metaOpensWrong)

/- THE SECOND FORM. 'bulk': how many values and letters a reading holds, each counted each time it is reached (what is shared counts as often as it is met; a slice's spare places count too). A statement '..UptoSaid' is the law's where the arguments, and the package variables that the reading takes, are together of bulk at most 1048576: NARROWER than '..Said'. Prove '..Said' where nothing that the law and all that it calls make is longer than what came in: it says more and counts as full. Else prove '..UptoSaid'. A law counts once. -/
mutual
def uptoBulk {H : Type} : DataW H → Nat
  | .lit (.string bytes) => bytes.length + 1
  | .lit _ => 1
  | .nil => 1
  | .ptr d => uptoBulk d + 1
  | .slice elems spare => uptoBulkAll elems + uptoBulkAll spare + 1
  | .agg parts => uptoBulkAll parts + 1
  | .iface _ d => uptoBulk d + 1
  | .map entries => uptoBulkEntries entries + 1
  | .held _ => 1
def uptoBulkAll {H : Type} : List (DataW H) → Nat
  | [] => 0
  | d :: r => uptoBulk d + uptoBulkAll r
def uptoBulkEntries {H : Type} : List (Lit × DataW H) → Nat
  | [] => 0
  | x :: r => uptoBulkEntry x + uptoBulkEntries r
def uptoBulkEntry {H : Type} : Lit × DataW H → Nat
  | (.string bytes, d) => bytes.length + uptoBulk d + 1
  | (_, d) => uptoBulk d + 1
 end
def uptoSmall : (H : Type) → List (DataW H) → Bool := fun _ ds => decide (uptoBulkAll ds ≤ 1048576)
def OpenSpec.upto (s : _root_.Go.ChangeSpec) : _root_.Go.OpenSpec := { _root_.Go.OpenSpec.ofChange s with cond := some uptoSmall }

/-- 'revetmentlaw08.MetaPlays', WHERE WHAT IT READS IS OF BULK AT MOST 1048576: true; the input reads as it did. -/
def metaPlaysUptoRow : OpenClaim := { program := "ytbmmnfeeapnhkaagreat", sum := "cda366adfb5e9fdd543f6e89397f2da59589c5d81374b309987231d0c00bfd5b", func := "revetment/revetmentlaw08.MetaPlays", spec := "metaPlays", unfollowed := true, recurses := true, apart := false, narrowed := true }
def MetaPlaysUptoSaid : Prop := metaPlaysUptoRow.holds Tryz.pinned (OpenSpec.upto metaPlaysSpec)

/-- 'revetmentlaw08.MetaLong', WHERE WHAT IT READS IS OF BULK AT MOST 1048576: true; the input reads as it did. -/
def metaLongUptoRow : OpenClaim := { program := "ytbmmnfeeapnhkaagreat", sum := "cda366adfb5e9fdd543f6e89397f2da59589c5d81374b309987231d0c00bfd5b", func := "revetment/revetmentlaw08.MetaLong", spec := "metaLong", unfollowed := true, recurses := true, apart := false, narrowed := true }
def MetaLongUptoSaid : Prop := metaLongUptoRow.holds Tryz.pinned (OpenSpec.upto metaLongSpec)

/-- 'revetmentlaw08.MetaTorn', WHERE WHAT IT READS IS OF BULK AT MOST 1048576: true; the input reads as it did. -/
def metaTornUptoRow : OpenClaim := { program := "ytbmmnfeeapnhkaagreat", sum := "cda366adfb5e9fdd543f6e89397f2da59589c5d81374b309987231d0c00bfd5b", func := "revetment/revetmentlaw08.MetaTorn", spec := "metaTorn", unfollowed := true, recurses := true, apart := false, narrowed := true }
def MetaTornUptoSaid : Prop := metaTornUptoRow.holds Tryz.pinned (OpenSpec.upto metaTornSpec)

/-- 'revetmentlaw08.MetaRooms', WHERE WHAT IT READS IS OF BULK AT MOST 1048576: true; the input reads as it did. -/
def metaRoomsUptoRow : OpenClaim := { program := "ytbmmnfeeapnhkaagreat", sum := "cda366adfb5e9fdd543f6e89397f2da59589c5d81374b309987231d0c00bfd5b", func := "revetment/revetmentlaw08.MetaRooms", spec := "metaRooms", unfollowed := true, recurses := true, apart := false, narrowed := true }
def MetaRoomsUptoSaid : Prop := metaRoomsUptoRow.holds Tryz.pinned (OpenSpec.upto metaRoomsSpec)

/-- 'revetmentlaw08.MetaOpens', WHERE WHAT IT READS IS OF BULK AT MOST 1048576: true; the input reads as it did. -/
def metaOpensUptoRow : OpenClaim := { program := "ytbmmnfeeapnhkaagreat", sum := "cda366adfb5e9fdd543f6e89397f2da59589c5d81374b309987231d0c00bfd5b", func := "revetment/revetmentlaw08.MetaOpens", spec := "metaOpens", unfollowed := true, recurses := true, apart := false, narrowed := true }
def MetaOpensUptoSaid : Prop := metaOpensUptoRow.holds Tryz.pinned (OpenSpec.upto metaOpensSpec)

end Rows
end Go.Proofs.YtbmmnfeeapnhkaaGreat
