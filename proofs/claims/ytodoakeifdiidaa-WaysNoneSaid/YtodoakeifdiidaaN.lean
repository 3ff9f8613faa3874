/- What the functions that WaysNone reaches answer, for every argument. No condition but those in each statement. -/
import Derived.Test.YtodoakeifdiidaaE4
import Derived.Test.YtodoakeifdiidaaProg
set_option maxRecDepth 100000
set_option linter.unusedVariables false
namespace Go.Proofs.Ytodoakeifdiidaa.G13
open Go Go.Proofs.Ytodoakeifdiidaa.Eng
noncomputable abbrev prog : Program := Go.Proofs.Try.prog

/-! f7: revetment/revetmentlaw13.WaysNone -/
def tab7 : Nat → Cert := fun i => ⟨0, 0, 0, 0, 0, 0⟩
noncomputable def b7 (E : Env) : CT :=
  .seq (.reg [o 1 (sBox (X 0)),
    o 2 (sMov (K (.bool false)))])
  (.seq (.reg [o 3 (sMov (K (.nilPtr)))])
  (.seq (.reg [o 13 (sMov (X 3)),
    o 14 (sFieldAddr 2 (X 1)),
    o 15 (sLoad 1 false (X 14)),
    o 16 (sFieldAddr 1 (X 1)),
    o 17 (sLoad 1 false (X 16)),
    o 18 (sFieldAddr 3 (X 1)),
    o 19 (sLoad 1 false (X 18)),
    o 20 (sCall E 13 [(X 13), (X 15), (X 17), (X 19)])])
  (.seq (.reg [o 21 (sMov (X 3)),
    o 22 (sFieldAddr 2 (X 1)),
    o 23 (sLoad 1 false (X 22)),
    o 24 (sCall E 16 [(X 21), (X 23)])])
  (.seq (.reg [o 25 (sMov (X 3)),
    o 26 (sFieldAddr 2 (X 1)),
    o 27 (sLoad 1 false (X 26)),
    o 28 (sCall E 26 [(X 25), (X 27)])])
  (.seq (.reg [o 29 (sMov (X 3)),
    o 30 (sFieldAddr 2 (X 1)),
    o 31 (sLoad 1 false (X 30)),
    o 32 (sCall E 18 [(X 29), (X 31)])])
  (.seq (.reg [o 34 (sMov (X 3)),
    o 35 (sFieldAddr 1 (X 1)),
    o 36 (sLoad 1 false (X 35)),
    o 37 (sCall E 12 [(X 34), (X 36)]),
    o 33 (sMov (X 37)),
    o 38 (sExtract (X 33) 0),
    o 39 (sExtract (X 33) 1),
    o 4 (sMov (X 38)),
    o 5 (sMov (X 39))])
  (.seq (.reg [o 41 (sMov (X 3)),
    o 42 (sFieldAddr 1 (X 1)),
    o 43 (sLoad 1 false (X 42)),
    o 44 (sCall E 14 [(X 41), (X 43)]),
    o 40 (sMov (X 44)),
    o 45 (sExtract (X 40) 0),
    o 46 (sExtract (X 40) 1),
    o 6 (sMov (X 45)),
    o 7 (sMov (X 46))])
  (.seq (.reg [o 48 (sMov (X 3)),
    o 49 (sFieldAddr 1 (X 1)),
    o 50 (sLoad 1 false (X 49)),
    o 51 (sCall E 15 [(X 48), (X 50)]),
    o 47 (sMov (X 51)),
    o 52 (sExtract (X 47) 0),
    o 53 (sExtract (X 47) 1),
    o 8 (sMov (X 52)),
    o 9 (sMov (X 53))])
  (.seq (.reg [o 55 (sMov (X 3)),
    o 56 (sFieldAddr 2 (X 1)),
    o 57 (sLoad 1 false (X 56)),
    o 58 (sCall E 17 [(X 55), (X 57)]),
    o 54 (sMov (X 58)),
    o 59 (sExtract (X 54) 0),
    o 60 (sExtract (X 54) 1),
    o 61 (sExtract (X 54) 2),
    o 10 (sMov (X 59)),
    o 11 (sMov (X 60)),
    o 12 (sMov (X 61))])
  (.seq (.reg [o 62 (sMov (X 4)),
    o 63 (sBin .eql .none (X 62) (K (.int .i64 0))),
    o 64 (sMov (X 63)),
    og 64 true 65 (sMov (X 5)),
    og 64 true 66 (sUn .not (X 65)),
    o 67 (sPick (X 64) (X 66) (K (.bool false))),
    o 68 (sMov (X 67)),
    og 68 true 69 (sMov (X 6)),
    og 68 true 70 (sBin .eql .none (X 69) (K (.int .i64 0))),
    o 71 (sPick (X 68) (X 70) (K (.bool false))),
    o 72 (sMov (X 71)),
    og 72 true 73 (sMov (X 7)),
    og 72 true 74 (sUn .not (X 73)),
    o 75 (sPick (X 72) (X 74) (K (.bool false))),
    o 76 (sMov (X 75)),
    og 76 true 77 (sMov (X 8)),
    og 76 true 78 (sBin .eql .none (X 77) (K (.int .i64 0))),
    o 79 (sPick (X 76) (X 78) (K (.bool false))),
    o 80 (sMov (X 79)),
    og 80 true 81 (sMov (X 9)),
    og 80 true 82 (sUn .not (X 81)),
    o 83 (sPick (X 80) (X 82) (K (.bool false))),
    o 84 (sMov (X 83)),
    og 84 true 85 (sMov (X 10)),
    og 84 true 86 (sBin .eql .none (X 85) (K (.int .i64 0))),
    o 87 (sPick (X 84) (X 86) (K (.bool false))),
    o 88 (sMov (X 87)),
    og 88 true 89 (sMov (X 11)),
    og 88 true 90 (sUn .not (X 89)),
    o 91 (sPick (X 88) (X 90) (K (.bool false))),
    o 92 (sMov (X 91)),
    og 92 true 93 (sMov (X 12)),
    og 92 true 94 (sUn .not (X 93)),
    o 95 (sPick (X 92) (X 94) (K (.bool false))),
    o 96 (sMov (X 95)),
    og 96 true 97 (sMov (X 3)),
    og 96 true 98 (sCall E 11 [(X 97)]),
    og 96 true 99 (sLenSl (X 98)),
    og 96 true 100 (sBin .eql .none (X 99) (K (.int .i64 0))),
    o 101 (sPick (X 96) (X 100) (K (.bool false))),
    o 102 (sMov (X 101)),
    og 102 true 103 (sCall E 9 []),
    o 104 (sPick (X 102) (X 103) (K (.bool false))),
    o 2 (sMov (X 104))])
  (.ret)))))))))))
theorem c7 (args : T) (h : AHeap) : (envL prog).call 7 args h = trim h (fin [.tmp 2] (runC (envL prog) (b7 (envL prog)) (args ++ List.replicate (105 - args.length) .undef) h)) :=
  call_tr (fn := Go.Proofs.Try.f7) tab7 (by kernel_rfl) (by rfl) (by kernel_rfl) (fun t h => by kernel_rfl) rfl args h
theorem d7 (E : Env) (args : T) (h : AHeap) : callBody prog E 7 args h = trim h (fin [.tmp 2] (runC E (b7 E) (args ++ List.replicate (105 - args.length) .undef) h)) :=
  body_tr (fn := Go.Proofs.Try.f7) tab7 (by kernel_rfl) (by rfl) (by kernel_rfl) (fun t h => by kernel_rfl) rfl args h
/-! f11: (*revetment/ways.Map).Dirty -/
def tab11 : Nat → Cert := fun i => ⟨0, 0, 0, 0, 0, 0⟩
noncomputable def l11x0 (E : Env) : CT :=
  .seq (.reg [o 14 (sBin .lss .none (X 13) (X 12))])
  (.seq (.ite (X 14)
  (.skip)
  (.exit 0))
  (.seq (.block 1 (.seq (.reg [o 15 (sIdxAddrS 3 (X 11) (X 13)),
    o 16 (sLoad 3 true (X 15)),
    o 5 (sAlloc [.int .i64 0, .bool false, .bool false]),
    u (sStore 3 (X 5) (X 16))])
  (.seq (.reg [o 17 (sFieldAddr 1 (X 5)),
    o 18 (sLoad 1 false (X 17))])
  (.ite (X 18)
  (.reg [o 19 (sMov (X 3)),
    o 20 (sFieldAddr 0 (X 5)),
    o 21 (sLoad 1 false (X 20)),
    o 22 (sBuildSl 1 1 [.int .i64 0] [(0, 1, (X 21))]),
    o 23 (sApp (ty 1 false 8 [.int .i64 0]) (X 19) (X 22)),
    o 3 (sMov (X 23))])
  (.reg [o 24 (sMov (X 3)),
    o 25 (sBuildSl 1 1 [.int .i64 0] [(0, 1, (K (.int .i64 (-1))))]),
    o 26 (sApp (ty 1 false 8 [.int .i64 0]) (X 24) (X 25)),
    o 3 (sMov (X 26))])))))
  (.reg [o 27 (sBin .add .none (X 13) (K (.int .i64 1))),
    o 13 (sMov (X 27))])))
noncomputable def b11 (E : Env) : CT :=
  .seq (.reg [o 2 (sMov (K (.nilSl)))])
  (.seq (.seq (.reg [o 6 (sMov (X 0)),
    o 7 (sBin .eql .ptr (X 6) (K (.nilPtr)))])
  (.ite (X 7)
  (.seq (.reg [o 2 (sMov (K (.nilSl)))])
  (.ret))
  (.skip)))
  (.seq (.reg [o 3 (sMov (K (.nilSl)))])
  (.seq (.seq (.reg [o 8 (sMov (X 0)),
    o 9 (sNil (X 8)),
    o 10 (sFieldAddr 2 (X 9)),
    o 11 (sLoad 1 false (X 10)),
    o 12 (sLenSl (X 11)),
    o 13 (sMov (K (.int .i64 0)))])
  (.block 0 (.loop (l11x0 E))))
  (.seq (.reg [o 28 (sMov (X 3)),
    o 2 (sMov (X 28))])
  (.ret)))))
theorem c11 (args : T) (h : AHeap) : (envL prog).call 11 args h = trim h (fin [.tmp 2] (runC (envL prog) (b11 (envL prog)) (args ++ List.replicate (29 - args.length) .undef) h)) :=
  call_tr (fn := Go.Proofs.Try.f11) tab11 (by kernel_rfl) (by rfl) (by kernel_rfl) (fun t h => by kernel_rfl) rfl args h
/-! f12: (*revetment/ways.Map).Find -/
def tab12 : Nat → Cert := fun i => ⟨0, 0, 0, 0, 0, 0⟩
noncomputable def l12x0 (E : Env) : CT :=
  .seq (.reg [o 23 (sBin .lss .none (X 22) (X 21))])
  (.seq (.ite (X 23)
  (.skip)
  (.exit 0))
  (.seq (.block 1 (.seq (.reg [o 24 (sMov (X 22)),
    o 8 (sMov (X 24))])
  (.seq (.reg [o 25 (sMov (X 6)),
    o 26 (sMov (X 0)),
    o 27 (sNil (X 26)),
    o 28 (sFieldAddr 1 (X 27)),
    o 29 (sLoad 1 false (X 28)),
    o 30 (sBin .mul .none (X 25) (X 29)),
    o 31 (sMov (X 8)),
    o 32 (sBin .add .none (X 30) (X 31)),
    o 9 (sMov (X 32))])
  (.seq (.reg [o 33 (sMov (X 0)),
    o 34 (sNil (X 33)),
    o 35 (sFieldAddr 2 (X 34)),
    o 36 (sLoad 1 false (X 35)),
    o 37 (sMov (X 9)),
    o 38 (sIdxAddrS 3 (X 36) (X 37)),
    o 39 (sFieldAddr 0 (X 38)),
    o 40 (sLoad 1 false (X 39)),
    o 41 (sMov (X 1)),
    o 42 (sBin .eql .none (X 40) (X 41))])
  (.ite (X 42)
  (.seq (.reg [o 43 (sMov (X 9)),
    o 4 (sMov (X 43)),
    o 5 (sMov (K (.bool true)))])
  (.ret))
  (.skip))))))
  (.reg [o 44 (sBin .add .none (X 22) (K (.int .i64 1))),
    o 22 (sMov (X 44))])))
noncomputable def b12 (E : Env) : CT :=
  .seq (.reg [o 4 (sMov (K (.int .i64 0))),
    o 5 (sMov (K (.bool false)))])
  (.seq (.reg [o 11 (sMov (X 0)),
    o 12 (sMov (X 1)),
    o 13 (sCall E 30 [(X 11), (X 12)]),
    o 10 (sMov (X 13)),
    o 14 (sExtract (X 10) 0),
    o 15 (sExtract (X 10) 1),
    o 6 (sMov (X 14)),
    o 7 (sMov (X 15))])
  (.seq (.seq (.reg [o 16 (sMov (X 7)),
    o 17 (sUn .not (X 16))])
  (.ite (X 17)
  (.seq (.reg [o 4 (sMov (K (.int .i64 0))),
    o 5 (sMov (K (.bool false)))])
  (.ret))
  (.skip)))
  (.seq (.seq (.reg [o 18 (sMov (X 0)),
    o 19 (sNil (X 18)),
    o 20 (sFieldAddr 1 (X 19)),
    o 21 (sLoad 1 false (X 20)),
    o 22 (sMov (K (.int .i64 0)))])
  (.block 0 (.loop (l12x0 E))))
  (.seq (.reg [o 4 (sMov (K (.int .i64 0))),
    o 5 (sMov (K (.bool false)))])
  (.ret)))))
theorem c12 (args : T) (h : AHeap) : (envL prog).call 12 args h = trim h (fin [.tmp 4, .tmp 5] (runC (envL prog) (b12 (envL prog)) (args ++ List.replicate (45 - args.length) .undef) h)) :=
  call_tr (fn := Go.Proofs.Try.f12) tab12 (by kernel_rfl) (by rfl) (by kernel_rfl) (fun t h => by kernel_rfl) rfl args h
/-! f13: (*revetment/ways.Map).Put -/
def tab13 : Nat → Cert := fun i => ⟨0, 0, 0, 0, 0, 0⟩
noncomputable def b13 (E : Env) : CT :=
  .seq (.reg [o 13 (sMov (X 0)),
    o 14 (sMov (X 1)),
    o 15 (sCall E 31 [(X 13), (X 14)]),
    o 8 (sMov (X 15))])
  (.seq (.reg [o 17 (sMov (X 0)),
    o 18 (sMov (X 2)),
    o 19 (sCall E 30 [(X 17), (X 18)]),
    o 16 (sMov (X 19)),
    o 20 (sExtract (X 16) 0),
    o 21 (sExtract (X 16) 1),
    o 9 (sMov (X 20)),
    o 10 (sMov (X 21))])
  (.seq (.seq (.reg [o 22 (sMov (X 8)),
    o 23 (sBin .eql .ptr (X 22) (K (.nilPtr))),
    o 24 (sMov (X 23)),
    og 24 false 25 (sMov (X 10)),
    og 24 false 26 (sUn .not (X 25)),
    o 27 (sPick (X 24) (K (.bool true)) (X 26)),
    o 28 (sMov (X 27)),
    og 28 false 29 (sMov (X 1)),
    og 28 false 30 (sMov (X 0)),
    og 28 false 31 (sNil (X 30)),
    og 28 false 32 (sFieldAddr 1 (X 31)),
    og 28 false 33 (sLoad 1 false (X 32)),
    og 28 false 34 (sBin .quo .none (X 29) (X 33)),
    og 28 false 35 (sMov (X 9)),
    og 28 false 36 (sBin .neq .none (X 34) (X 35)),
    o 37 (sPick (X 28) (K (.bool true)) (X 36))])
  (.ite (X 37)
  (.ret)
  (.skip)))
  (.seq (.seq (.reg [o 39 (sMov (X 0)),
    o 40 (sMov (X 2)),
    o 41 (sCall E 12 [(X 39), (X 40)]),
    o 38 (sMov (X 41)),
    o 42 (sExtract (X 38) 0),
    o 43 (sExtract (X 38) 1),
    o 11 (sMov (X 42)),
    o 12 (sMov (X 43))])
  (.seq (.reg [o 44 (sMov (X 12)),
    o 45 (sMov (X 44)),
    og 45 true 46 (sMov (X 11)),
    og 45 true 47 (sMov (X 1)),
    og 45 true 48 (sBin .neq .none (X 46) (X 47)),
    o 49 (sPick (X 45) (X 48) (K (.bool false)))])
  (.ite (X 49)
  (.ret)
  (.skip))))
  (.reg [o 50 (sMov (X 8)),
    o 51 (sMov (X 2)),
    o 52 (sMov (X 3)),
    o 53 (sBuild [.int .i64 0, .bool false, .bool false] [(0, 1, (X 51)), (1, 1, (X 52)), (2, 1, (K (.bool true)))]),
    o 54 (sNil (X 50)),
    u (sStore 3 (X 54) (X 53))]))))
theorem c13 (args : T) (h : AHeap) : (envL prog).call 13 args h = trim h (fin [] (runC (envL prog) (b13 (envL prog)) (args ++ List.replicate (55 - args.length) .undef) h)) :=
  call_tr (fn := Go.Proofs.Try.f13) tab13 (by kernel_rfl) (by rfl) (by kernel_rfl) (fun t h => by kernel_rfl) rfl args h
/-! f14: (*revetment/ways.Map).Room -/
def tab14 : Nat → Cert := fun i => ⟨0, 0, 0, 0, 0, 0⟩
noncomputable def l14x0 (E : Env) : CT :=
  .seq (.reg [o 25 (sBin .lss .none (X 24) (X 23))])
  (.seq (.ite (X 25)
  (.skip)
  (.exit 0))
  (.seq (.block 1 (.seq (.reg [o 26 (sMov (X 24)),
    o 8 (sMov (X 26))])
  (.seq (.reg [o 27 (sMov (X 6)),
    o 28 (sMov (X 0)),
    o 29 (sNil (X 28)),
    o 30 (sFieldAddr 1 (X 29)),
    o 31 (sLoad 1 false (X 30)),
    o 32 (sBin .mul .none (X 27) (X 31)),
    o 33 (sMov (X 8)),
    o 34 (sBin .add .none (X 32) (X 33)),
    o 9 (sMov (X 34))])
  (.seq (.reg [o 35 (sMov (X 0)),
    o 36 (sNil (X 35)),
    o 37 (sFieldAddr 2 (X 36)),
    o 38 (sLoad 1 false (X 37)),
    o 39 (sMov (X 9)),
    o 40 (sIdxAddrS 3 (X 38) (X 39)),
    o 41 (sFieldAddr 0 (X 40)),
    o 42 (sLoad 1 false (X 41)),
    o 43 (sBin .eql .none (X 42) (K (.int .i64 (-1))))])
  (.ite (X 43)
  (.seq (.reg [o 44 (sMov (X 9)),
    o 4 (sMov (X 44)),
    o 5 (sMov (K (.bool true)))])
  (.ret))
  (.skip))))))
  (.reg [o 45 (sBin .add .none (X 24) (K (.int .i64 1))),
    o 24 (sMov (X 45))])))
noncomputable def l14x1 (E : Env) : CT :=
  .seq (.reg [o 52 (sBin .lss .none (X 51) (X 50))])
  (.seq (.ite (X 52)
  (.skip)
  (.exit 2))
  (.seq (.block 3 (.seq (.reg [o 53 (sMov (X 0)),
    o 54 (sMov (X 6)),
    o 55 (sCall E 32 [(X 53), (X 54)]),
    o 10 (sMov (X 55))])
  (.seq (.reg [o 56 (sMov (X 0)),
    o 57 (sNil (X 56)),
    o 58 (sFieldAddr 2 (X 57)),
    o 59 (sLoad 1 false (X 58)),
    o 60 (sMov (X 10)),
    o 61 (sIdxAddrS 3 (X 59) (X 60)),
    o 11 (sMov (X 61))])
  (.block 4 (.seq (.reg [o 67 (sMov (X 11)),
    o 68 (sNil (X 67)),
    o 69 (sFieldAddr 1 (X 68)),
    o 70 (sLoad 1 false (X 69)),
    o 66 (sMov (X 70))])
  (.ite (X 66)
  (.exit 3)
  (.seq (.reg [o 72 (sMov (X 11)),
    o 73 (sNil (X 72)),
    o 74 (sFieldAddr 2 (X 73)),
    o 75 (sLoad 1 false (X 74)),
    o 71 (sMov (X 75))])
  (.ite (X 71)
  (.reg [o 76 (sMov (X 11)),
    o 77 (sNil (X 76)),
    o 78 (sFieldAddr 2 (X 77)),
    u (sStore 1 (X 78) (K (.bool false)))])
  (.seq (.reg [o 62 (sMov (X 11)),
    o 63 (sBuild [.int .i64 0, .bool false, .bool false] [(0, 1, (K (.int .i64 (-1))))]),
    o 64 (sNil (X 62)),
    u (sStore 3 (X 64) (X 63))])
  (.seq (.reg [o 65 (sMov (X 10)),
    o 4 (sMov (X 65)),
    o 5 (sMov (K (.bool true)))])
  (.ret)))))))))))
  (.reg [o 79 (sBin .add .none (X 51) (K (.int .i64 1))),
    o 51 (sMov (X 79))])))
noncomputable def b14 (E : Env) : CT :=
  .seq (.reg [o 4 (sMov (K (.int .i64 0))),
    o 5 (sMov (K (.bool false)))])
  (.seq (.reg [o 13 (sMov (X 0)),
    o 14 (sMov (X 1)),
    o 15 (sCall E 30 [(X 13), (X 14)]),
    o 12 (sMov (X 15)),
    o 16 (sExtract (X 12) 0),
    o 17 (sExtract (X 12) 1),
    o 6 (sMov (X 16)),
    o 7 (sMov (X 17))])
  (.seq (.seq (.reg [o 18 (sMov (X 7)),
    o 19 (sUn .not (X 18))])
  (.ite (X 19)
  (.seq (.reg [o 4 (sMov (K (.int .i64 0))),
    o 5 (sMov (K (.bool false)))])
  (.ret))
  (.skip)))
  (.seq (.seq (.reg [o 20 (sMov (X 0)),
    o 21 (sNil (X 20)),
    o 22 (sFieldAddr 1 (X 21)),
    o 23 (sLoad 1 false (X 22)),
    o 24 (sMov (K (.int .i64 0)))])
  (.block 0 (.loop (l14x0 E))))
  (.seq (.skip)
  (.seq (.seq (.reg [o 46 (sMov (X 0)),
    o 47 (sNil (X 46)),
    o 48 (sFieldAddr 1 (X 47)),
    o 49 (sLoad 1 false (X 48)),
    o 50 (sBin .mul .none (K (.int .i64 2)) (X 49)),
    o 51 (sMov (K (.int .i64 0)))])
  (.block 2 (.loop (l14x1 E))))
  (.seq (.reg [o 4 (sMov (K (.int .i64 0))),
    o 5 (sMov (K (.bool false)))])
  (.ret)))))))
theorem c14 (args : T) (h : AHeap) : (envL prog).call 14 args h = trim h (fin [.tmp 4, .tmp 5] (runC (envL prog) (b14 (envL prog)) (args ++ List.replicate (80 - args.length) .undef) h)) :=
  call_tr (fn := Go.Proofs.Try.f14) tab14 (by kernel_rfl) (by rfl) (by kernel_rfl) (fun t h => by kernel_rfl) rfl args h
/-! f15: (*revetment/ways.Map).Dirtiest -/
def tab15 : Nat → Cert := fun i => ⟨0, 0, 0, 0, 0, 0⟩
noncomputable def l15x0 (E : Env) : CT :=
  .seq (.reg [o 30 (sBin .lss .none (X 29) (X 28))])
  (.seq (.ite (X 30)
  (.skip)
  (.exit 0))
  (.seq (.block 1 (.seq (.reg [o 31 (sMov (X 0)),
    o 32 (sMov (X 6)),
    o 33 (sCall E 32 [(X 31), (X 32)]),
    o 9 (sMov (X 33))])
  (.seq (.reg [o 34 (sMov (X 0)),
    o 35 (sNil (X 34)),
    o 36 (sFieldAddr 2 (X 35)),
    o 37 (sLoad 1 false (X 36)),
    o 38 (sMov (X 9)),
    o 39 (sIdxAddrS 3 (X 37) (X 38)),
    o 40 (sFieldAddr 1 (X 39)),
    o 41 (sLoad 1 false (X 40))])
  (.ite (X 41)
  (.seq (.reg [o 42 (sMov (X 9)),
    o 4 (sMov (X 42)),
    o 5 (sMov (K (.bool true)))])
  (.ret))
  (.skip)))))
  (.reg [o 43 (sBin .add .none (X 29) (K (.int .i64 1))),
    o 29 (sMov (X 43))])))
noncomputable def b15 (E : Env) : CT :=
  .seq (.reg [o 4 (sMov (K (.int .i64 0))),
    o 5 (sMov (K (.bool false)))])
  (.seq (.reg [o 11 (sMov (X 0)),
    o 12 (sMov (X 1)),
    o 13 (sCall E 30 [(X 11), (X 12)]),
    o 10 (sMov (X 13)),
    o 14 (sExtract (X 10) 0),
    o 15 (sExtract (X 10) 1),
    o 6 (sMov (X 14)),
    o 7 (sMov (X 15))])
  (.seq (.seq (.reg [o 16 (sMov (X 7)),
    o 17 (sUn .not (X 16))])
  (.ite (X 17)
  (.seq (.reg [o 4 (sMov (K (.int .i64 0))),
    o 5 (sMov (K (.bool false)))])
  (.ret))
  (.skip)))
  (.seq (.reg [o 18 (sMov (X 0)),
    o 19 (sNil (X 18)),
    o 20 (sFieldAddr 3 (X 19)),
    o 21 (sLoad 1 false (X 20)),
    o 22 (sMov (X 6)),
    o 23 (sIdxAddrS 1 (X 21) (X 22)),
    o 24 (sLoad 1 false (X 23)),
    o 8 (sMov (X 24))])
  (.seq (.seq (.reg [o 25 (sMov (X 0)),
    o 26 (sNil (X 25)),
    o 27 (sFieldAddr 1 (X 26)),
    o 28 (sLoad 1 false (X 27)),
    o 29 (sMov (K (.int .i64 0)))])
  (.block 0 (.loop (l15x0 E))))
  (.seq (.reg [o 44 (sMov (X 0)),
    o 45 (sNil (X 44)),
    o 46 (sFieldAddr 3 (X 45)),
    o 47 (sLoad 1 false (X 46)),
    o 48 (sMov (X 6)),
    o 49 (sMov (X 8)),
    o 50 (sIdxAddrS 1 (X 47) (X 48)),
    u (sStore 1 (X 50) (X 49))])
  (.seq (.reg [o 4 (sMov (K (.int .i64 0))),
    o 5 (sMov (K (.bool false)))])
  (.ret)))))))
theorem c15 (args : T) (h : AHeap) : (envL prog).call 15 args h = trim h (fin [.tmp 4, .tmp 5] (runC (envL prog) (b15 (envL prog)) (args ++ List.replicate (51 - args.length) .undef) h)) :=
  call_tr (fn := Go.Proofs.Try.f15) tab15 (by kernel_rfl) (by rfl) (by kernel_rfl) (fun t h => by kernel_rfl) rfl args h
/-! f16: (*revetment/ways.Map).Clean -/
def tab16 : Nat → Cert := fun i => ⟨0, 0, 0, 0, 0, 0⟩
noncomputable def b16 (E : Env) : CT :=
  .seq (.reg [o 5 (sMov (X 0)),
    o 6 (sMov (X 1)),
    o 7 (sCall E 31 [(X 5), (X 6)]),
    o 4 (sMov (X 7))])
  (.seq (.reg [o 8 (sMov (X 4)),
    o 9 (sBin .neq .ptr (X 8) (K (.nilPtr)))])
  (.ite (X 9)
  (.reg [o 10 (sMov (X 4)),
    o 11 (sNil (X 10)),
    o 12 (sFieldAddr 1 (X 11)),
    u (sStore 1 (X 12) (K (.bool false)))])
  (.skip)))
theorem c16 (args : T) (h : AHeap) : (envL prog).call 16 args h = trim h (fin [] (runC (envL prog) (b16 (envL prog)) (args ++ List.replicate (13 - args.length) .undef) h)) :=
  call_tr (fn := Go.Proofs.Try.f16) tab16 (by kernel_rfl) (by rfl) (by kernel_rfl) (fun t h => by kernel_rfl) rfl args h
/-! f17: (*revetment/ways.Map).Block -/
def tab17 : Nat → Cert := fun i => bif Nat.beq i 6 then ⟨11, 30, 1328253810950589394245552129630537728, 1328253810957844129754860647864076288, 1018517988226528593265440502661841577006938507413061358052767317917076428367336438071558272, 14259251845724228153098486467041427649649374342706786706930144162045821284447689924258299927⟩ else ⟨0, 0, 0, 0, 0, 0⟩
noncomputable def b17 (E : Env) : CT :=
  .seq (.reg [o 4 (sMov (K (.int .i64 0))),
    o 5 (sMov (K (.bool false))),
    o 6 (sMov (K (.bool false)))])
  (.seq (.seq (.reg [o 8 (sMov (X 0)),
    o 9 (sBin .eql .ptr (X 8) (K (.nilPtr)))])
  (.ite (X 9)
  (.seq (.reg [o 4 (sMov (K (.int .i64 0))),
    o 5 (sMov (K (.bool false))),
    o 6 (sMov (K (.bool false)))])
  (.ret))
  (.skip)))
  (.seq (.reg [o 10 (sMov (X 0)),
    o 11 (sMov (X 1)),
    o 12 (sCall E 31 [(X 10), (X 11)]),
    o 7 (sMov (X 12))])
  (.seq (.seq (.reg [o 13 (sMov (X 7)),
    o 14 (sBin .eql .ptr (X 13) (K (.nilPtr))),
    o 15 (sMov (X 14)),
    og 15 false 16 (sMov (X 7)),
    og 15 false 17 (sNil (X 16)),
    og 15 false 18 (sFieldAddr 0 (X 17)),
    og 15 false 19 (sLoad 1 false (X 18)),
    og 15 false 20 (sBin .eql .none (X 19) (K (.int .i64 (-1)))),
    o 21 (sPick (X 15) (K (.bool true)) (X 20))])
  (.ite (X 21)
  (.seq (.reg [o 4 (sMov (K (.int .i64 (-1)))),
    o 5 (sMov (K (.bool false))),
    o 6 (sMov (K (.bool false)))])
  (.ret))
  (.skip)))
  (.seq (.drw [.op (o 22 (sMov (X 7))),
    .op (o 23 (sNil (X 22))),
    .op (o 24 (sFieldAddr 0 (X 23))),
    .op (o 25 (sLoad 1 false (X 24))),
    .op (o 26 (sMov (X 7))),
    .op (o 27 (sNil (X 26))),
    .op (o 28 (sFieldAddr 1 (X 27))),
    .op (o 29 (sLoad 1 false (X 28))),
    .op (o 4 (sMov (X 25))),
    .op (o 5 (sMov (X 29))),
    .op (o 6 (sMov (K (.bool true))))])
  (.ret)))))
theorem c17 (args : T) (h : AHeap) : (envL prog).call 17 args h = trim h (fin [.tmp 4, .tmp 5, .tmp 6] (runC (envL prog) (b17 (envL prog)) (args ++ List.replicate (30 - args.length) .undef) h)) :=
  call_tr (fn := Go.Proofs.Try.f17) tab17 (by kernel_rfl) (by rfl) (by kernel_rfl) (fun t h => by kernel_rfl) rfl args h
/-! f18: (*revetment/ways.Map).Touch -/
def tab18 : Nat → Cert := fun i => ⟨0, 0, 0, 0, 0, 0⟩
noncomputable def b18 (E : Env) : CT :=
  .seq (.reg [o 5 (sMov (X 0)),
    o 6 (sMov (X 1)),
    o 7 (sCall E 31 [(X 5), (X 6)]),
    o 4 (sMov (X 7))])
  (.seq (.reg [o 8 (sMov (X 4)),
    o 9 (sBin .neq .ptr (X 8) (K (.nilPtr))),
    o 10 (sMov (X 9)),
    og 10 true 11 (sMov (X 4)),
    og 10 true 12 (sNil (X 11)),
    og 10 true 13 (sFieldAddr 0 (X 12)),
    og 10 true 14 (sLoad 1 false (X 13)),
    og 10 true 15 (sBin .neq .none (X 14) (K (.int .i64 (-1)))),
    o 16 (sPick (X 10) (X 15) (K (.bool false)))])
  (.ite (X 16)
  (.reg [o 17 (sMov (X 4)),
    o 18 (sNil (X 17)),
    o 19 (sFieldAddr 2 (X 18)),
    u (sStore 1 (X 19) (K (.bool true)))])
  (.skip)))
theorem c18 (args : T) (h : AHeap) : (envL prog).call 18 args h = trim h (fin [] (runC (envL prog) (b18 (envL prog)) (args ++ List.replicate (20 - args.length) .undef) h)) :=
  call_tr (fn := Go.Proofs.Try.f18) tab18 (by kernel_rfl) (by rfl) (by kernel_rfl) (fun t h => by kernel_rfl) rfl args h
/-! f26: (*revetment/ways.Map).Drop -/
def tab26 : Nat → Cert := fun i => ⟨0, 0, 0, 0, 0, 0⟩
noncomputable def b26 (E : Env) : CT :=
  .seq (.reg [o 5 (sMov (X 0)),
    o 6 (sMov (X 1)),
    o 7 (sCall E 31 [(X 5), (X 6)]),
    o 4 (sMov (X 7))])
  (.seq (.reg [o 8 (sMov (X 4)),
    o 9 (sBin .neq .ptr (X 8) (K (.nilPtr)))])
  (.ite (X 9)
  (.reg [o 10 (sMov (X 4)),
    o 11 (sBuild [.int .i64 0, .bool false, .bool false] [(0, 1, (K (.int .i64 (-1))))]),
    o 12 (sNil (X 10)),
    u (sStore 3 (X 12) (X 11))])
  (.skip)))
theorem c26 (args : T) (h : AHeap) : (envL prog).call 26 args h = trim h (fin [] (runC (envL prog) (b26 (envL prog)) (args ++ List.replicate (13 - args.length) .undef) h)) :=
  call_tr (fn := Go.Proofs.Try.f26) tab26 (by kernel_rfl) (by rfl) (by kernel_rfl) (fun t h => by kernel_rfl) rfl args h
/-! f30: (*revetment/ways.Map).set -/
def tab30 : Nat → Cert := fun i => ⟨0, 0, 0, 0, 0, 0⟩
noncomputable def b30 (E : Env) : CT :=
  .seq (.reg [o 4 (sMov (K (.int .i64 0))),
    o 5 (sMov (K (.bool false)))])
  (.seq (.seq (.reg [o 6 (sMov (X 0)),
    o 7 (sBin .eql .ptr (X 6) (K (.nilPtr))),
    o 8 (sMov (X 7)),
    og 8 false 9 (sMov (X 1)),
    og 8 false 10 (sBin .lss .none (X 9) (K (.int .i64 0))),
    o 11 (sPick (X 8) (K (.bool true)) (X 10))])
  (.ite (X 11)
  (.seq (.reg [o 4 (sMov (K (.int .i64 0))),
    o 5 (sMov (K (.bool false)))])
  (.ret))
  (.skip)))
  (.seq (.reg [o 12 (sMov (X 1)),
    o 13 (sMov (X 0)),
    o 14 (sNil (X 13)),
    o 15 (sFieldAddr 0 (X 14)),
    o 16 (sLoad 1 false (X 15)),
    o 17 (sBin .rem .none (X 12) (X 16)),
    o 4 (sMov (X 17)),
    o 5 (sMov (K (.bool true)))])
  (.ret)))
theorem c30 (args : T) (h : AHeap) : (envL prog).call 30 args h = trim h (fin [.tmp 4, .tmp 5] (runC (envL prog) (b30 (envL prog)) (args ++ List.replicate (18 - args.length) .undef) h)) :=
  call_tr (fn := Go.Proofs.Try.f30) tab30 (by kernel_rfl) (by rfl) (by kernel_rfl) (fun t h => by kernel_rfl) rfl args h
/-! f31: (*revetment/ways.Map).slot -/
def tab31 : Nat → Cert := fun i => ⟨0, 0, 0, 0, 0, 0⟩
noncomputable def b31 (E : Env) : CT :=
  .seq (.reg [o 4 (sMov (K (.nilPtr)))])
  (.seq (.seq (.reg [o 5 (sMov (X 0)),
    o 6 (sBin .eql .ptr (X 5) (K (.nilPtr))),
    o 7 (sMov (X 6)),
    og 7 false 8 (sMov (X 1)),
    og 7 false 9 (sBin .lss .none (X 8) (K (.int .i64 0))),
    o 10 (sPick (X 7) (K (.bool true)) (X 9)),
    o 11 (sMov (X 10)),
    og 11 false 12 (sMov (X 1)),
    og 11 false 13 (sMov (X 0)),
    og 11 false 14 (sNil (X 13)),
    og 11 false 15 (sFieldAddr 2 (X 14)),
    og 11 false 16 (sLoad 1 false (X 15)),
    og 11 false 17 (sLenSl (X 16)),
    og 11 false 18 (sBin .geq .none (X 12) (X 17)),
    o 19 (sPick (X 11) (K (.bool true)) (X 18))])
  (.ite (X 19)
  (.seq (.reg [o 4 (sMov (K (.nilPtr)))])
  (.ret))
  (.skip)))
  (.seq (.reg [o 20 (sMov (X 0)),
    o 21 (sNil (X 20)),
    o 22 (sFieldAddr 2 (X 21)),
    o 23 (sLoad 1 false (X 22)),
    o 24 (sMov (X 1)),
    o 25 (sIdxAddrS 3 (X 23) (X 24)),
    o 4 (sMov (X 25))])
  (.ret)))
theorem c31 (args : T) (h : AHeap) : (envL prog).call 31 args h = trim h (fin [.tmp 4] (runC (envL prog) (b31 (envL prog)) (args ++ List.replicate (26 - args.length) .undef) h)) :=
  call_tr (fn := Go.Proofs.Try.f31) tab31 (by kernel_rfl) (by rfl) (by kernel_rfl) (fun t h => by kernel_rfl) rfl args h
/-! f32: (*revetment/ways.Map).step -/
def tab32 : Nat → Cert := fun i => bif Nat.beq i 2 then ⟨14, 26, 50212216047172670767650531970778307614673139875039517097984, 50212216068364979737722424761157165377125774671737673236480, 28182510994926437886408605001387478727842194800708448629614980132087460262872610277336277646688487410220662785, 216936186443987702268573807594076185215288112273885898640316639882233415595580151946626755198990⟩ else ⟨0, 0, 0, 0, 0, 0⟩
noncomputable def b32 (E : Env) : CT :=
  .seq (.reg [o 4 (sMov (K (.int .i64 0)))])
  (.seq (.reg [o 6 (sMov (X 0)),
    o 7 (sNil (X 6)),
    o 8 (sFieldAddr 3 (X 7)),
    o 9 (sLoad 1 false (X 8)),
    o 10 (sMov (X 1)),
    o 11 (sIdxAddrS 1 (X 9) (X 10)),
    o 12 (sLoad 1 false (X 11)),
    o 5 (sMov (X 12))])
  (.seq (.drw [.op (o 13 (sMov (X 0))),
    .op (o 14 (sNil (X 13))),
    .op (o 15 (sFieldAddr 3 (X 14))),
    .op (o 16 (sLoad 1 false (X 15))),
    .op (o 17 (sMov (X 1))),
    .op (o 18 (sMov (X 5))),
    .op (o 19 (sBin .add .none (X 18) (K (.int .i64 1)))),
    .op (o 20 (sMov (X 0))),
    .op (o 21 (sNil (X 20))),
    .op (o 22 (sFieldAddr 1 (X 21))),
    .op (o 23 (sLoad 1 false (X 22))),
    .op (o 24 (sBin .rem .none (X 19) (X 23))),
    .op (o 25 (sIdxAddrS 1 (X 16) (X 17))),
    .hv 8191 (u (sStore 1 (X 25) (X 24)))])
  (.seq (.reg [o 26 (sMov (X 1)),
    o 27 (sMov (X 0)),
    o 28 (sNil (X 27)),
    o 29 (sFieldAddr 1 (X 28)),
    o 30 (sLoad 1 false (X 29)),
    o 31 (sBin .mul .none (X 26) (X 30)),
    o 32 (sMov (X 5)),
    o 33 (sBin .add .none (X 31) (X 32)),
    o 4 (sMov (X 33))])
  (.ret))))
theorem c32 (args : T) (h : AHeap) : (envL prog).call 32 args h = trim h (fin [.tmp 4] (runC (envL prog) (b32 (envL prog)) (args ++ List.replicate (34 - args.length) .undef) h)) :=
  call_tr (fn := Go.Proofs.Try.f32) tab32 (by kernel_rfl) (by rfl) (by kernel_rfl) (fun t h => by kernel_rfl) rfl args h
end Go.Proofs.Ytodoakeifdiidaa.G13

