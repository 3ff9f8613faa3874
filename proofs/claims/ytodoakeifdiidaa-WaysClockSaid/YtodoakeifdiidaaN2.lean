/- What the functions that WaysClock reaches answer, for every argument. No condition but those in each statement. -/
import Derived.Test.YtodoakeifdiidaaE4
import Derived.Test.YtodoakeifdiidaaProg
set_option maxRecDepth 100000
set_option linter.unusedVariables false
namespace Go.Proofs.Ytodoakeifdiidaa.G13
open Go Go.Proofs.Ytodoakeifdiidaa.Eng
noncomputable abbrev prog : Program := Go.Proofs.Try.prog

/-! f4: revetment/revetmentlaw13.WaysClock -/
def tab4 : Nat → Cert := fun i => ⟨0, 0, 0, 0, 0, 0⟩
noncomputable def l4x0 (E : Env) : CT :=
  .seq (.seq (.reg [o 32 (sMov (X 8)),
    o 33 (sMov (X 5)),
    o 34 (sBin .lss .none (X 32) (X 33))])
  (.ite (X 34)
  (.skip)
  (.exit 0)))
  (.seq (.block 1 (.seq (.reg [o 38 (sMov (X 6)),
    o 39 (sMov (X 8)),
    o 40 (sCall E 14 [(X 38), (X 39)]),
    o 37 (sMov (X 40)),
    o 41 (sExtract (X 37) 0),
    o 42 (sExtract (X 37) 1),
    o 9 (sMov (X 41)),
    o 10 (sMov (X 42))])
  (.seq (.seq (.reg [o 43 (sMov (X 10)),
    o 44 (sUn .not (X 43)),
    o 45 (sMov (X 44)),
    og 45 false 46 (sMov (X 9)),
    og 45 false 47 (sMov (X 8)),
    og 45 false 48 (sBin .neq .none (X 46) (X 47)),
    o 49 (sPick (X 45) (K (.bool true)) (X 48))])
  (.ite (X 49)
  (.seq (.reg [o 4 (sMov (K (.bool false)))])
  (.ret))
  (.skip)))
  (.reg [o 50 (sMov (X 6)),
    o 51 (sMov (X 9)),
    o 52 (sMov (X 8)),
    o 53 (sCall E 13 [(X 50), (X 51), (X 52), (K (.bool false))])]))))
  (.reg [o 35 (sMov (X 8)),
    o 36 (sBin .add .none (X 35) (K (.int .i64 1))),
    o 8 (sMov (X 36))]))
noncomputable def b4 (E : Env) : CT :=
  .seq (.reg [o 4 (sMov (K (.bool false)))])
  (.seq (.reg [o 17 (sMov (X 0)),
    o 18 (sConv (.int .i64) (X 17)),
    o 19 (sBin .rem .none (X 18) (K (.int .i64 3))),
    o 20 (sBin .add .none (K (.int .i64 2)) (X 19)),
    o 5 (sMov (X 20))])
  (.seq (.reg [o 22 (sMov (X 5)),
    o 23 (sCall E 8 [(K (.int .i64 1)), (X 22)]),
    o 21 (sMov (X 23)),
    o 24 (sExtract (X 21) 0),
    o 25 (sExtract (X 21) 1),
    o 6 (sMov (X 24)),
    o 7 (sMov (X 25))])
  (.seq (.seq (.reg [o 26 (sMov (X 7)),
    o 27 (sBin .neq .none (X 26) (K (.int .i64 0))),
    o 28 (sMov (X 27)),
    og 28 false 29 (sMov (X 6)),
    og 28 false 30 (sBin .eql .ptr (X 29) (K (.nilPtr))),
    o 31 (sPick (X 28) (K (.bool true)) (X 30))])
  (.ite (X 31)
  (.seq (.reg [o 4 (sMov (K (.bool false)))])
  (.ret))
  (.skip)))
  (.seq (.seq (.reg [o 8 (sMov (K (.int .i64 0)))])
  (.block 0 (.loop (l4x0 E))))
  (.seq (.reg [o 55 (sMov (X 6)),
    o 56 (sMov (X 5)),
    o 57 (sCall E 14 [(X 55), (X 56)]),
    o 54 (sMov (X 57)),
    o 58 (sExtract (X 54) 0),
    o 59 (sExtract (X 54) 1),
    o 11 (sMov (X 58)),
    o 12 (sMov (X 59))])
  (.seq (.seq (.reg [o 60 (sMov (X 12)),
    o 61 (sUn .not (X 60)),
    o 62 (sMov (X 61)),
    og 62 false 63 (sMov (X 11)),
    og 62 false 64 (sBin .neq .none (X 63) (K (.int .i64 0))),
    o 65 (sPick (X 62) (K (.bool true)) (X 64))])
  (.ite (X 65)
  (.seq (.reg [o 4 (sMov (K (.bool false)))])
  (.ret))
  (.skip)))
  (.seq (.reg [o 66 (sMov (X 6)),
    o 67 (sMov (X 11)),
    o 68 (sMov (X 5)),
    o 69 (sCall E 13 [(X 66), (X 67), (X 68), (K (.bool false))])])
  (.seq (.reg [o 70 (sMov (X 1)),
    o 71 (sConv (.int .i64) (X 70)),
    o 72 (sMov (X 5)),
    o 73 (sBin .sub .none (X 72) (K (.int .i64 1))),
    o 74 (sBin .rem .none (X 71) (X 73)),
    o 75 (sBin .add .none (K (.int .i64 1)) (X 74)),
    o 13 (sMov (X 75))])
  (.seq (.reg [o 76 (sMov (X 6)),
    o 77 (sMov (X 13)),
    o 78 (sCall E 18 [(X 76), (X 77)])])
  (.seq (.reg [o 14 (sMov (K (.int .i64 1)))])
  (.seq (.seq (.reg [o 79 (sMov (X 13)),
    o 80 (sBin .eql .none (X 79) (K (.int .i64 1)))])
  (.ite (X 80)
  (.seq (.reg [o 14 (sMov (K (.int .i64 2)))])
  (.seq (.reg [o 81 (sMov (X 5)),
    o 82 (sBin .eql .none (X 81) (K (.int .i64 2)))])
  (.ite (X 82)
  (.reg [o 14 (sMov (K (.int .i64 1)))])
  (.skip))))
  (.skip)))
  (.seq (.reg [o 84 (sMov (X 6)),
    o 85 (sMov (X 5)),
    o 86 (sBin .add .none (X 85) (K (.int .i64 1))),
    o 87 (sCall E 14 [(X 84), (X 86)]),
    o 83 (sMov (X 87)),
    o 88 (sExtract (X 83) 0),
    o 89 (sExtract (X 83) 1),
    o 15 (sMov (X 88)),
    o 16 (sMov (X 89))])
  (.seq (.reg [o 90 (sMov (X 16)),
    o 91 (sMov (X 90)),
    og 91 true 92 (sMov (X 15)),
    og 91 true 93 (sMov (X 14)),
    og 91 true 94 (sBin .eql .none (X 92) (X 93)),
    o 95 (sPick (X 91) (X 94) (K (.bool false))),
    o 96 (sMov (X 95)),
    og 96 true 97 (sCall E 9 []),
    o 98 (sPick (X 96) (X 97) (K (.bool false))),
    o 4 (sMov (X 98))])
  (.ret))))))))))))))
theorem c4 (args : T) (h : AHeap) : (envL prog).call 4 args h = trim h (fin [.tmp 4] (runC (envL prog) (b4 (envL prog)) (args ++ List.replicate (99 - args.length) .undef) h)) :=
  call_tr (fn := Go.Proofs.Try.f4) tab4 (by kernel_rfl) (by rfl) (by kernel_rfl) (fun t h => by kernel_rfl) rfl args h
theorem d4 (E : Env) (args : T) (h : AHeap) : callBody prog E 4 args h = trim h (fin [.tmp 4] (runC E (b4 E) (args ++ List.replicate (99 - args.length) .undef) h)) :=
  body_tr (fn := Go.Proofs.Try.f4) tab4 (by kernel_rfl) (by rfl) (by kernel_rfl) (fun t h => by kernel_rfl) rfl args h
/-! f8: revetment/ways.New -/
def tab8 : Nat → Cert := fun i => bif Nat.beq i 3 then ⟨11, 32, 1328092231302839387372901108281245696, 1328253885226989390617683824847355904, 4586997232514139782281033068568364773352818341910645141523081168815893408816814880495058016457788477145089, 14951909267360714145467879259324697201244454219187637599212067456586007931067357421460076766429207⟩ else ⟨0, 0, 0, 0, 0, 0⟩
noncomputable def l8x0 (E : Env) : CT :=
  .seq (.reg [o 38 (sBin .lss .none (X 37) (X 36))])
  (.seq (.ite (X 38)
  (.skip)
  (.exit 0))
  (.seq (.block 1 (.seq (.reg [o 39 (sMov (X 37)),
    o 7 (sMov (X 39))])
  (.reg [o 40 (sMov (X 6)),
    o 41 (sNil (X 40)),
    o 42 (sFieldAddr 2 (X 41)),
    o 43 (sLoad 1 false (X 42)),
    o 44 (sMov (X 7)),
    o 45 (sIdxAddrS 3 (X 43) (X 44)),
    o 46 (sFieldAddr 0 (X 45)),
    u (sStore 1 (X 46) (K (.int .i64 (-1))))])))
  (.reg [o 47 (sBin .add .none (X 37) (K (.int .i64 1))),
    o 37 (sMov (X 47))])))
noncomputable def b8 (E : Env) : CT :=
  .seq (.reg [o 4 (sMov (K (.nilPtr))),
    o 5 (sMov (K (.int .i64 0)))])
  (.seq (.seq (.reg [o 8 (sMov (X 0)),
    o 9 (sBin .lss .none (X 8) (K (.int .i64 1))),
    o 10 (sMov (X 9)),
    og 10 false 11 (sMov (X 0)),
    og 10 false 12 (sBin .gtr .none (X 11) (K (.int .i64 8))),
    o 13 (sPick (X 10) (K (.bool true)) (X 12)),
    o 14 (sMov (X 13)),
    og 14 false 15 (sMov (X 1)),
    og 14 false 16 (sBin .lss .none (X 15) (K (.int .i64 1))),
    o 17 (sPick (X 14) (K (.bool true)) (X 16)),
    o 18 (sMov (X 17)),
    og 18 false 19 (sMov (X 1)),
    og 18 false 20 (sBin .gtr .none (X 19) (K (.int .i64 4))),
    o 21 (sPick (X 18) (K (.bool true)) (X 20))])
  (.ite (X 21)
  (.seq (.reg [o 4 (sMov (K (.nilPtr))),
    o 5 (sMov (K (.int .i64 1)))])
  (.ret))
  (.skip)))
  (.seq (.drw [.op (o 22 (sMov (X 0))),
    .op (o 23 (sMov (X 1))),
    .op (o 24 (sMov (X 0))),
    .op (o 25 (sMov (X 1))),
    .op (o 26 (sBin .mul .none (X 24) (X 25))),
    .op (o 27 (sMake (ty 3 true 16 [.int .i64 0, .bool false, .bool false]) (X 26) (X 26))),
    .op (o 28 (sMov (X 0))),
    .op (o 29 (sMake (ty 1 false 8 [.int .i64 0]) (X 28) (X 28))),
    .op (o 30 (sBuild [.int .i64 0, .int .i64 0, .nilSl, .nilSl] [(0, 1, (X 22)), (1, 1, (X 23)), (2, 1, (X 27)), (3, 1, (X 29))])),
    .op (o 31 (sBox (X 30))),
    .op (o 6 (sMov (X 31)))])
  (.seq (.seq (.reg [o 32 (sMov (X 6)),
    o 33 (sNil (X 32)),
    o 34 (sFieldAddr 2 (X 33)),
    o 35 (sLoad 1 false (X 34)),
    o 36 (sLenSl (X 35)),
    o 37 (sMov (K (.int .i64 0)))])
  (.block 0 (.loop (l8x0 E))))
  (.seq (.reg [o 48 (sMov (X 6)),
    o 4 (sMov (X 48)),
    o 5 (sMov (K (.int .i64 0)))])
  (.ret)))))
theorem c8 (args : T) (h : AHeap) : (envL prog).call 8 args h = trim h (fin [.tmp 4, .tmp 5] (runC (envL prog) (b8 (envL prog)) (args ++ List.replicate (49 - args.length) .undef) h)) :=
  call_tr (fn := Go.Proofs.Try.f8) tab8 (by kernel_rfl) (by rfl) (by kernel_rfl) (fun t h => by kernel_rfl) rfl args h
/-! f12: (*revetment/ways.Map).Find -/
def tab12 : Nat → Cert := fun i => ⟨0, 0, 0, 0, 0, 0⟩
noncomputable def l12x0 (E : Env) : CT :=
  .seq (.reg [o 23 (sBin .lss .none (X 22) (X 21))])
  (.seq (.ite (X 23)
  (.skip)
  (.exit 0))
  (.seq (.block 1 (.seq (.reg [o 24 (sMov (X 22)),
    o 8 (sMov (X 24))])
  (.seq (.reg [o 25 (sMov (X 6)),
    o 26 (sMov (X 0)),
    o 27 (sNil (X 26)),
    o 28 (sFieldAddr 1 (X 27)),
    o 29 (sLoad 1 false (X 28)),
    o 30 (sBin .mul .none (X 25) (X 29)),
    o 31 (sMov (X 8)),
    o 32 (sBin .add .none (X 30) (X 31)),
    o 9 (sMov (X 32))])
  (.seq (.reg [o 33 (sMov (X 0)),
    o 34 (sNil (X 33)),
    o 35 (sFieldAddr 2 (X 34)),
    o 36 (sLoad 1 false (X 35)),
    o 37 (sMov (X 9)),
    o 38 (sIdxAddrS 3 (X 36) (X 37)),
    o 39 (sFieldAddr 0 (X 38)),
    o 40 (sLoad 1 false (X 39)),
    o 41 (sMov (X 1)),
    o 42 (sBin .eql .none (X 40) (X 41))])
  (.ite (X 42)
  (.seq (.reg [o 43 (sMov (X 9)),
    o 4 (sMov (X 43)),
    o 5 (sMov (K (.bool true)))])
  (.ret))
  (.skip))))))
  (.reg [o 44 (sBin .add .none (X 22) (K (.int .i64 1))),
    o 22 (sMov (X 44))])))
noncomputable def b12 (E : Env) : CT :=
  .seq (.reg [o 4 (sMov (K (.int .i64 0))),
    o 5 (sMov (K (.bool false)))])
  (.seq (.reg [o 11 (sMov (X 0)),
    o 12 (sMov (X 1)),
    o 13 (sCall E 30 [(X 11), (X 12)]),
    o 10 (sMov (X 13)),
    o 14 (sExtract (X 10) 0),
    o 15 (sExtract (X 10) 1),
    o 6 (sMov (X 14)),
    o 7 (sMov (X 15))])
  (.seq (.seq (.reg [o 16 (sMov (X 7)),
    o 17 (sUn .not (X 16))])
  (.ite (X 17)
  (.seq (.reg [o 4 (sMov (K (.int .i64 0))),
    o 5 (sMov (K (.bool false)))])
  (.ret))
  (.skip)))
  (.seq (.seq (.reg [o 18 (sMov (X 0)),
    o 19 (sNil (X 18)),
    o 20 (sFieldAddr 1 (X 19)),
    o 21 (sLoad 1 false (X 20)),
    o 22 (sMov (K (.int .i64 0)))])
  (.block 0 (.loop (l12x0 E))))
  (.seq (.reg [o 4 (sMov (K (.int .i64 0))),
    o 5 (sMov (K (.bool false)))])
  (.ret)))))
theorem c12 (args : T) (h : AHeap) : (envL prog).call 12 args h = trim h (fin [.tmp 4, .tmp 5] (runC (envL prog) (b12 (envL prog)) (args ++ List.replicate (45 - args.length) .undef) h)) :=
  call_tr (fn := Go.Proofs.Try.f12) tab12 (by kernel_rfl) (by rfl) (by kernel_rfl) (fun t h => by kernel_rfl) rfl args h
/-! f13: (*revetment/ways.Map).Put -/
def tab13 : Nat → Cert := fun i => ⟨0, 0, 0, 0, 0, 0⟩
noncomputable def b13 (E : Env) : CT :=
  .seq (.reg [o 13 (sMov (X 0)),
    o 14 (sMov (X 1)),
    o 15 (sCall E 31 [(X 13), (X 14)]),
    o 8 (sMov (X 15))])
  (.seq (.reg [o 17 (sMov (X 0)),
    o 18 (sMov (X 2)),
    o 19 (sCall E 30 [(X 17), (X 18)]),
    o 16 (sMov (X 19)),
    o 20 (sExtract (X 16) 0),
    o 21 (sExtract (X 16) 1),
    o 9 (sMov (X 20)),
    o 10 (sMov (X 21))])
  (.seq (.seq (.reg [o 22 (sMov (X 8)),
    o 23 (sBin .eql .ptr (X 22) (K (.nilPtr))),
    o 24 (sMov (X 23)),
    og 24 false 25 (sMov (X 10)),
    og 24 false 26 (sUn .not (X 25)),
    o 27 (sPick (X 24) (K (.bool true)) (X 26)),
    o 28 (sMov (X 27)),
    og 28 false 29 (sMov (X 1)),
    og 28 false 30 (sMov (X 0)),
    og 28 false 31 (sNil (X 30)),
    og 28 false 32 (sFieldAddr 1 (X 31)),
    og 28 false 33 (sLoad 1 false (X 32)),
    og 28 false 34 (sBin .quo .none (X 29) (X 33)),
    og 28 false 35 (sMov (X 9)),
    og 28 false 36 (sBin .neq .none (X 34) (X 35)),
    o 37 (sPick (X 28) (K (.bool true)) (X 36))])
  (.ite (X 37)
  (.ret)
  (.skip)))
  (.seq (.seq (.reg [o 39 (sMov (X 0)),
    o 40 (sMov (X 2)),
    o 41 (sCall E 12 [(X 39), (X 40)]),
    o 38 (sMov (X 41)),
    o 42 (sExtract (X 38) 0),
    o 43 (sExtract (X 38) 1),
    o 11 (sMov (X 42)),
    o 12 (sMov (X 43))])
  (.seq (.reg [o 44 (sMov (X 12)),
    o 45 (sMov (X 44)),
    og 45 true 46 (sMov (X 11)),
    og 45 true 47 (sMov (X 1)),
    og 45 true 48 (sBin .neq .none (X 46) (X 47)),
    o 49 (sPick (X 45) (X 48) (K (.bool false)))])
  (.ite (X 49)
  (.ret)
  (.skip))))
  (.reg [o 50 (sMov (X 8)),
    o 51 (sMov (X 2)),
    o 52 (sMov (X 3)),
    o 53 (sBuild [.int .i64 0, .bool false, .bool false] [(0, 1, (X 51)), (1, 1, (X 52)), (2, 1, (K (.bool true)))]),
    o 54 (sNil (X 50)),
    u (sStore 3 (X 54) (X 53))]))))
theorem c13 (args : T) (h : AHeap) : (envL prog).call 13 args h = trim h (fin [] (runC (envL prog) (b13 (envL prog)) (args ++ List.replicate (55 - args.length) .undef) h)) :=
  call_tr (fn := Go.Proofs.Try.f13) tab13 (by kernel_rfl) (by rfl) (by kernel_rfl) (fun t h => by kernel_rfl) rfl args h
/-! f14: (*revetment/ways.Map).Room -/
def tab14 : Nat → Cert := fun i => ⟨0, 0, 0, 0, 0, 0⟩
noncomputable def l14x0 (E : Env) : CT :=
  .seq (.reg [o 25 (sBin .lss .none (X 24) (X 23))])
  (.seq (.ite (X 25)
  (.skip)
  (.exit 0))
  (.seq (.block 1 (.seq (.reg [o 26 (sMov (X 24)),
    o 8 (sMov (X 26))])
  (.seq (.reg [o 27 (sMov (X 6)),
    o 28 (sMov (X 0)),
    o 29 (sNil (X 28)),
    o 30 (sFieldAddr 1 (X 29)),
    o 31 (sLoad 1 false (X 30)),
    o 32 (sBin .mul .none (X 27) (X 31)),
    o 33 (sMov (X 8)),
    o 34 (sBin .add .none (X 32) (X 33)),
    o 9 (sMov (X 34))])
  (.seq (.reg [o 35 (sMov (X 0)),
    o 36 (sNil (X 35)),
    o 37 (sFieldAddr 2 (X 36)),
    o 38 (sLoad 1 false (X 37)),
    o 39 (sMov (X 9)),
    o 40 (sIdxAddrS 3 (X 38) (X 39)),
    o 41 (sFieldAddr 0 (X 40)),
    o 42 (sLoad 1 false (X 41)),
    o 43 (sBin .eql .none (X 42) (K (.int .i64 (-1))))])
  (.ite (X 43)
  (.seq (.reg [o 44 (sMov (X 9)),
    o 4 (sMov (X 44)),
    o 5 (sMov (K (.bool true)))])
  (.ret))
  (.skip))))))
  (.reg [o 45 (sBin .add .none (X 24) (K (.int .i64 1))),
    o 24 (sMov (X 45))])))
noncomputable def l14x1 (E : Env) : CT :=
  .seq (.reg [o 52 (sBin .lss .none (X 51) (X 50))])
  (.seq (.ite (X 52)
  (.skip)
  (.exit 2))
  (.seq (.block 3 (.seq (.reg [o 53 (sMov (X 0)),
    o 54 (sMov (X 6)),
    o 55 (sCall E 32 [(X 53), (X 54)]),
    o 10 (sMov (X 55))])
  (.seq (.reg [o 56 (sMov (X 0)),
    o 57 (sNil (X 56)),
    o 58 (sFieldAddr 2 (X 57)),
    o 59 (sLoad 1 false (X 58)),
    o 60 (sMov (X 10)),
    o 61 (sIdxAddrS 3 (X 59) (X 60)),
    o 11 (sMov (X 61))])
  (.block 4 (.seq (.reg [o 67 (sMov (X 11)),
    o 68 (sNil (X 67)),
    o 69 (sFieldAddr 1 (X 68)),
    o 70 (sLoad 1 false (X 69)),
    o 66 (sMov (X 70))])
  (.ite (X 66)
  (.exit 3)
  (.seq (.reg [o 72 (sMov (X 11)),
    o 73 (sNil (X 72)),
    o 74 (sFieldAddr 2 (X 73)),
    o 75 (sLoad 1 false (X 74)),
    o 71 (sMov (X 75))])
  (.ite (X 71)
  (.reg [o 76 (sMov (X 11)),
    o 77 (sNil (X 76)),
    o 78 (sFieldAddr 2 (X 77)),
    u (sStore 1 (X 78) (K (.bool false)))])
  (.seq (.reg [o 62 (sMov (X 11)),
    o 63 (sBuild [.int .i64 0, .bool false, .bool false] [(0, 1, (K (.int .i64 (-1))))]),
    o 64 (sNil (X 62)),
    u (sStore 3 (X 64) (X 63))])
  (.seq (.reg [o 65 (sMov (X 10)),
    o 4 (sMov (X 65)),
    o 5 (sMov (K (.bool true)))])
  (.ret)))))))))))
  (.reg [o 79 (sBin .add .none (X 51) (K (.int .i64 1))),
    o 51 (sMov (X 79))])))
noncomputable def b14 (E : Env) : CT :=
  .seq (.reg [o 4 (sMov (K (.int .i64 0))),
    o 5 (sMov (K (.bool false)))])
  (.seq (.reg [o 13 (sMov (X 0)),
    o 14 (sMov (X 1)),
    o 15 (sCall E 30 [(X 13), (X 14)]),
    o 12 (sMov (X 15)),
    o 16 (sExtract (X 12) 0),
    o 17 (sExtract (X 12) 1),
    o 6 (sMov (X 16)),
    o 7 (sMov (X 17))])
  (.seq (.seq (.reg [o 18 (sMov (X 7)),
    o 19 (sUn .not (X 18))])
  (.ite (X 19)
  (.seq (.reg [o 4 (sMov (K (.int .i64 0))),
    o 5 (sMov (K (.bool false)))])
  (.ret))
  (.skip)))
  (.seq (.seq (.reg [o 20 (sMov (X 0)),
    o 21 (sNil (X 20)),
    o 22 (sFieldAddr 1 (X 21)),
    o 23 (sLoad 1 false (X 22)),
    o 24 (sMov (K (.int .i64 0)))])
  (.block 0 (.loop (l14x0 E))))
  (.seq (.skip)
  (.seq (.seq (.reg [o 46 (sMov (X 0)),
    o 47 (sNil (X 46)),
    o 48 (sFieldAddr 1 (X 47)),
    o 49 (sLoad 1 false (X 48)),
    o 50 (sBin .mul .none (K (.int .i64 2)) (X 49)),
    o 51 (sMov (K (.int .i64 0)))])
  (.block 2 (.loop (l14x1 E))))
  (.seq (.reg [o 4 (sMov (K (.int .i64 0))),
    o 5 (sMov (K (.bool false)))])
  (.ret)))))))
theorem c14 (args : T) (h : AHeap) : (envL prog).call 14 args h = trim h (fin [.tmp 4, .tmp 5] (runC (envL prog) (b14 (envL prog)) (args ++ List.replicate (80 - args.length) .undef) h)) :=
  call_tr (fn := Go.Proofs.Try.f14) tab14 (by kernel_rfl) (by rfl) (by kernel_rfl) (fun t h => by kernel_rfl) rfl args h
/-! f18: (*revetment/ways.Map).Touch -/
def tab18 : Nat → Cert := fun i => ⟨0, 0, 0, 0, 0, 0⟩
noncomputable def b18 (E : Env) : CT :=
  .seq (.reg [o 5 (sMov (X 0)),
    o 6 (sMov (X 1)),
    o 7 (sCall E 31 [(X 5), (X 6)]),
    o 4 (sMov (X 7))])
  (.seq (.reg [o 8 (sMov (X 4)),
    o 9 (sBin .neq .ptr (X 8) (K (.nilPtr))),
    o 10 (sMov (X 9)),
    og 10 true 11 (sMov (X 4)),
    og 10 true 12 (sNil (X 11)),
    og 10 true 13 (sFieldAddr 0 (X 12)),
    og 10 true 14 (sLoad 1 false (X 13)),
    og 10 true 15 (sBin .neq .none (X 14) (K (.int .i64 (-1)))),
    o 16 (sPick (X 10) (X 15) (K (.bool false)))])
  (.ite (X 16)
  (.reg [o 17 (sMov (X 4)),
    o 18 (sNil (X 17)),
    o 19 (sFieldAddr 2 (X 18)),
    u (sStore 1 (X 19) (K (.bool true)))])
  (.skip)))
theorem c18 (args : T) (h : AHeap) : (envL prog).call 18 args h = trim h (fin [] (runC (envL prog) (b18 (envL prog)) (args ++ List.replicate (20 - args.length) .undef) h)) :=
  call_tr (fn := Go.Proofs.Try.f18) tab18 (by kernel_rfl) (by rfl) (by kernel_rfl) (fun t h => by kernel_rfl) rfl args h
/-! f30: (*revetment/ways.Map).set -/
def tab30 : Nat → Cert := fun i => ⟨0, 0, 0, 0, 0, 0⟩
noncomputable def b30 (E : Env) : CT :=
  .seq (.reg [o 4 (sMov (K (.int .i64 0))),
    o 5 (sMov (K (.bool false)))])
  (.seq (.seq (.reg [o 6 (sMov (X 0)),
    o 7 (sBin .eql .ptr (X 6) (K (.nilPtr))),
    o 8 (sMov (X 7)),
    og 8 false 9 (sMov (X 1)),
    og 8 false 10 (sBin .lss .none (X 9) (K (.int .i64 0))),
    o 11 (sPick (X 8) (K (.bool true)) (X 10))])
  (.ite (X 11)
  (.seq (.reg [o 4 (sMov (K (.int .i64 0))),
    o 5 (sMov (K (.bool false)))])
  (.ret))
  (.skip)))
  (.seq (.reg [o 12 (sMov (X 1)),
    o 13 (sMov (X 0)),
    o 14 (sNil (X 13)),
    o 15 (sFieldAddr 0 (X 14)),
    o 16 (sLoad 1 false (X 15)),
    o 17 (sBin .rem .none (X 12) (X 16)),
    o 4 (sMov (X 17)),
    o 5 (sMov (K (.bool true)))])
  (.ret)))
theorem c30 (args : T) (h : AHeap) : (envL prog).call 30 args h = trim h (fin [.tmp 4, .tmp 5] (runC (envL prog) (b30 (envL prog)) (args ++ List.replicate (18 - args.length) .undef) h)) :=
  call_tr (fn := Go.Proofs.Try.f30) tab30 (by kernel_rfl) (by rfl) (by kernel_rfl) (fun t h => by kernel_rfl) rfl args h
/-! f31: (*revetment/ways.Map).slot -/
def tab31 : Nat → Cert := fun i => ⟨0, 0, 0, 0, 0, 0⟩
noncomputable def b31 (E : Env) : CT :=
  .seq (.reg [o 4 (sMov (K (.nilPtr)))])
  (.seq (.seq (.reg [o 5 (sMov (X 0)),
    o 6 (sBin .eql .ptr (X 5) (K (.nilPtr))),
    o 7 (sMov (X 6)),
    og 7 false 8 (sMov (X 1)),
    og 7 false 9 (sBin .lss .none (X 8) (K (.int .i64 0))),
    o 10 (sPick (X 7) (K (.bool true)) (X 9)),
    o 11 (sMov (X 10)),
    og 11 false 12 (sMov (X 1)),
    og 11 false 13 (sMov (X 0)),
    og 11 false 14 (sNil (X 13)),
    og 11 false 15 (sFieldAddr 2 (X 14)),
    og 11 false 16 (sLoad 1 false (X 15)),
    og 11 false 17 (sLenSl (X 16)),
    og 11 false 18 (sBin .geq .none (X 12) (X 17)),
    o 19 (sPick (X 11) (K (.bool true)) (X 18))])
  (.ite (X 19)
  (.seq (.reg [o 4 (sMov (K (.nilPtr)))])
  (.ret))
  (.skip)))
  (.seq (.reg [o 20 (sMov (X 0)),
    o 21 (sNil (X 20)),
    o 22 (sFieldAddr 2 (X 21)),
    o 23 (sLoad 1 false (X 22)),
    o 24 (sMov (X 1)),
    o 25 (sIdxAddrS 3 (X 23) (X 24)),
    o 4 (sMov (X 25))])
  (.ret)))
theorem c31 (args : T) (h : AHeap) : (envL prog).call 31 args h = trim h (fin [.tmp 4] (runC (envL prog) (b31 (envL prog)) (args ++ List.replicate (26 - args.length) .undef) h)) :=
  call_tr (fn := Go.Proofs.Try.f31) tab31 (by kernel_rfl) (by rfl) (by kernel_rfl) (fun t h => by kernel_rfl) rfl args h
/-! f32: (*revetment/ways.Map).step -/
def tab32 : Nat → Cert := fun i => bif Nat.beq i 2 then ⟨14, 26, 50212216047172670767650531970778307614673139875039517097984, 50212216068364979737722424761157165377125774671737673236480, 28182510994926437886408605001387478727842194800708448629614980132087460262872610277336277646688487410220662785, 216936186443987702268573807594076185215288112273885898640316639882233415595580151946626755198990⟩ else ⟨0, 0, 0, 0, 0, 0⟩
noncomputable def b32 (E : Env) : CT :=
  .seq (.reg [o 4 (sMov (K (.int .i64 0)))])
  (.seq (.reg [o 6 (sMov (X 0)),
    o 7 (sNil (X 6)),
    o 8 (sFieldAddr 3 (X 7)),
    o 9 (sLoad 1 false (X 8)),
    o 10 (sMov (X 1)),
    o 11 (sIdxAddrS 1 (X 9) (X 10)),
    o 12 (sLoad 1 false (X 11)),
    o 5 (sMov (X 12))])
  (.seq (.drw [.op (o 13 (sMov (X 0))),
    .op (o 14 (sNil (X 13))),
    .op (o 15 (sFieldAddr 3 (X 14))),
    .op (o 16 (sLoad 1 false (X 15))),
    .op (o 17 (sMov (X 1))),
    .op (o 18 (sMov (X 5))),
    .op (o 19 (sBin .add .none (X 18) (K (.int .i64 1)))),
    .op (o 20 (sMov (X 0))),
    .op (o 21 (sNil (X 20))),
    .op (o 22 (sFieldAddr 1 (X 21))),
    .op (o 23 (sLoad 1 false (X 22))),
    .op (o 24 (sBin .rem .none (X 19) (X 23))),
    .op (o 25 (sIdxAddrS 1 (X 16) (X 17))),
    .hv 8191 (u (sStore 1 (X 25) (X 24)))])
  (.seq (.reg [o 26 (sMov (X 1)),
    o 27 (sMov (X 0)),
    o 28 (sNil (X 27)),
    o 29 (sFieldAddr 1 (X 28)),
    o 30 (sLoad 1 false (X 29)),
    o 31 (sBin .mul .none (X 26) (X 30)),
    o 32 (sMov (X 5)),
    o 33 (sBin .add .none (X 31) (X 32)),
    o 4 (sMov (X 33))])
  (.ret))))
theorem c32 (args : T) (h : AHeap) : (envL prog).call 32 args h = trim h (fin [.tmp 4] (runC (envL prog) (b32 (envL prog)) (args ++ List.replicate (34 - args.length) .undef) h)) :=
  call_tr (fn := Go.Proofs.Try.f32) tab32 (by kernel_rfl) (by rfl) (by kernel_rfl) (fun t h => by kernel_rfl) rfl args h
end Go.Proofs.Ytodoakeifdiidaa.G13

