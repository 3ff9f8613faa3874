/- What the functions that PoolApart reaches answer, for every argument. No condition but those in each statement. -/
import Derived.Test.YtfioahnogphnfaaE5
import Derived.Test.YtfioahnogphnfaaProg
set_option maxRecDepth 100000
set_option linter.unusedVariables false
namespace Go.Proofs.Ytfioahnogphnfaa.G12
open Go Go.Proofs.Ytfioahnogphnfaa.Eng
noncomputable abbrev prog : Program := Go.Proofs.Try.prog
def tab3 : Nat → Cert := fun i => bif Nat.beq i 9 then ⟨14, 44, 25133718583267780554604314110069129368146751904627883524096, 50212216066332588769590992382618507558801078770407877656576, 136104110659300561891452439230086569733806767127283746431843939284409099706468041939945000466868981231807176955206309005903948668900372863422562840461179730852646697426735860455191871744, 695616754143145164585585198109435502656629247922501609938107231747676523899591865509904371962907245366616605873720979663764794451581293178594369562441101113165004914160566304⟩ else ⟨0, 0, 0, 0, 0, 0⟩
noncomputable def l3x0 (E : Env) : CT :=
 .seq (.seq (.reg [o 25 (sMov (X 8)),
  o 26 (sMov (X 6)),
  o 27 (sLenSl (X 26)),
  o 28 (sBin .lss .none (X 25) (X 27))])
 (.ite (X 28)
 (.skip)
 (.exit 0)))
 (.seq (.block 1 (.seq (.seq (.drw [.op (o 31 (sMov (X 8))),
  .op (o 32 (sBin .gtr .none (X 31) (K (.int .i64 0)))),
  .op (o 33 (sMov (X 32))),
  .op (og 33 true 34 (sMov (X 6))),
  .op (og 33 true 35 (sMov (X 8))),
  .op (og 33 true 36 (sIdxAddrS 1 (X 34) (X 35))),
  .op (og 33 true 37 (sLoad 1 false (X 36))),
  .op (og 33 true 38 (sMov (X 6))),
  .op (og 33 true 39 (sMov (X 8))),
  .op (og 33 true 40 (sBin .sub .none (X 39) (K (.int .i64 1)))),
  .op (og 33 true 41 (sIdxAddrS 1 (X 38) (X 40))),
  .op (og 33 true 42 (sLoad 1 false (X 41))),
  .op (og 33 true 43 (sBin .leq .none (X 37) (X 42))),
  .op (o 44 (sPick (X 33) (X 43) (K (.bool false))))])
 (.ite (X 44)
 (.seq (.reg [o 4 (sMov (K (.bool false)))])
 (.ret))
 (.skip)))
 (.seq (.reg [o 45 (sMov (X 6)),
  o 46 (sMov (X 8)),
  o 47 (sIdxAddrS 1 (X 45) (X 46)),
  o 48 (sLoad 1 false (X 47)),
  o 49 (sBin .geq .none (X 48) (K (.int .i64 0))),
  o 50 (sMov (X 49)),
  og 50 true 51 (sMov (X 6)),
  og 50 true 52 (sMov (X 8)),
  og 50 true 53 (sIdxAddrS 1 (X 51) (X 52)),
  og 50 true 54 (sLoad 1 false (X 53)),
  og 50 true 55 (sMov (X 5)),
  og 50 true 56 (sBin .lss .none (X 54) (X 55)),
  o 57 (sPick (X 50) (X 56) (K (.bool false)))])
 (.ite (X 57)
 (.reg [o 58 (sMov (X 7)),
  o 59 (sBin .add .none (X 58) (K (.int .i64 1))),
  o 7 (sMov (X 59))])
 (.skip)))))
 (.reg [o 29 (sMov (X 8)),
  o 30 (sBin .add .none (X 29) (K (.int .i64 1))),
  o 8 (sMov (X 30))]))
noncomputable def l3x1 (E : Env) : CT :=
 .seq (.seq (.reg [o 105 (sMov (X 14)),
  o 106 (sMov (X 6)),
  o 107 (sLenSl (X 106)),
  o 108 (sBin .lss .none (X 105) (X 107))])
 (.ite (X 108)
 (.skip)
 (.exit 4)))
 (.seq (.block 5 (.reg [o 111 (sMov (X 13)),
  o 112 (sMov (X 111)),
  og 112 false 113 (sMov (X 6)),
  og 112 false 114 (sMov (X 14)),
  og 112 false 115 (sIdxAddrS 1 (X 113) (X 114)),
  og 112 false 116 (sLoad 1 false (X 115)),
  og 112 false 117 (sMov (X 12)),
  og 112 false 118 (sBin .eql .none (X 116) (X 117)),
  o 119 (sPick (X 112) (K (.bool true)) (X 118)),
  o 13 (sMov (X 119))]))
 (.reg [o 109 (sMov (X 14)),
  o 110 (sBin .add .none (X 109) (K (.int .i64 1))),
  o 14 (sMov (X 110))]))
noncomputable def l3x2 (E : Env) : CT :=
 .seq (.seq (.reg [o 94 (sMov (X 12)),
  o 95 (sMov (X 5)),
  o 96 (sBin .lss .none (X 94) (X 95)),
  o 97 (sMov (X 96)),
  og 97 true 98 (sMov (X 11)),
  og 97 true 99 (sMov (X 9)),
  og 97 true 100 (sLenSl (X 99)),
  og 97 true 101 (sBin .lss .none (X 98) (X 100)),
  o 102 (sPick (X 97) (X 101) (K (.bool false)))])
 (.ite (X 102)
 (.skip)
 (.exit 2)))
 (.seq (.block 3 (.seq (.reg [o 13 (sMov (K (.bool false)))])
 (.seq (.seq (.reg [o 14 (sMov (K (.int .i64 0)))])
 (.block 4 (.loop (l3x1 E))))
 (.seq (.reg [o 120 (sMov (X 13)),
  o 121 (sUn .not (X 120))])
 (.ite (X 121)
 (.seq (.seq (.reg [o 122 (sMov (X 9)),
  o 123 (sMov (X 11)),
  o 124 (sIdxAddrS 1 (X 122) (X 123)),
  o 125 (sLoad 1 false (X 124)),
  o 126 (sMov (X 12)),
  o 127 (sBin .neq .none (X 125) (X 126))])
 (.ite (X 127)
 (.seq (.reg [o 4 (sMov (K (.bool false)))])
 (.ret))
 (.skip)))
 (.reg [o 128 (sMov (X 11)),
  o 129 (sBin .add .none (X 128) (K (.int .i64 1))),
  o 11 (sMov (X 129))]))
 (.skip))))))
 (.reg [o 103 (sMov (X 12)),
  o 104 (sBin .add .none (X 103) (K (.int .i64 1))),
  o 12 (sMov (X 104))]))
noncomputable def b3 (E : Env) : CT :=
 .seq (.reg [o 2 (sBox (X 0)),
  o 3 (sBox (X 1)),
  o 4 (sMov (K (.bool false)))])
 (.seq (.reg [o 15 (sIdxAddrA 2 1 (X 3) (K (.int .i64 0))),
  o 16 (sLoad 1 false (X 15)),
  o 17 (sConv (.int .i64) (X 16)),
  o 18 (sBin .rem .none (X 17) (K (.int .i64 201))),
  o 5 (sMov (X 18))])
 (.seq (.seq (.reg [o 19 (sLoad 6 true (X 2)),
  o 20 (sCall E 6 [(X 19)]),
  o 21 (sUn .not (X 20))])
 (.ite (X 21)
 (.seq (.reg [o 22 (sCall E 7 []),
  o 4 (sMov (X 22))])
 (.ret))
 (.skip)))
 (.seq (.reg [o 23 (sLoad 6 true (X 2)),
  o 24 (sCall E 8 [(X 23)]),
  o 6 (sMov (X 24))])
 (.seq (.reg [o 7 (sMov (K (.int .i64 0)))])
 (.seq (.seq (.reg [o 8 (sMov (K (.int .i64 0)))])
 (.block 0 (.loop (l3x0 E))))
 (.seq (.seq (.reg [o 60 (sLoad 6 true (X 2)),
  o 61 (sMov (X 5)),
  o 62 (sCall E 9 [(X 60), (X 61)]),
  o 63 (sMov (X 5)),
  o 64 (sMov (X 7)),
  o 65 (sBin .sub .none (X 63) (X 64)),
  o 66 (sBin .neq .none (X 62) (X 65))])
 (.ite (X 66)
 (.seq (.reg [o 4 (sMov (K (.bool false)))])
 (.ret))
 (.skip)))
 (.seq (.reg [o 68 (sLoad 6 true (X 2)),
  o 69 (sMov (X 5)),
  o 70 (sIdxAddrA 2 1 (X 3) (K (.int .i64 1))),
  o 71 (sLoad 1 false (X 70)),
  o 72 (sConv (.int .i64) (X 71)),
  o 73 (sBin .rem .none (X 72) (K (.int .i64 20))),
  o 74 (sCall E 10 [(X 68), (X 69), (X 73)]),
  o 67 (sMov (X 74)),
  o 75 (sExtract (X 67) 0),
  o 76 (sExtract (X 67) 1),
  o 9 (sMov (X 75)),
  o 10 (sMov (X 76))])
 (.seq (.seq (.reg [o 77 (sMov (X 10)),
  o 78 (sBin .neq .none (X 77) (K (.int .i64 0)))])
 (.ite (X 78)
 (.seq (.reg [o 79 (sMov (X 10)),
  o 80 (sBin .eql .none (X 79) (K (.int .i64 12))),
  o 81 (sMov (X 80)),
  og 81 true 82 (sIdxAddrA 2 1 (X 3) (K (.int .i64 1))),
  og 81 true 83 (sLoad 1 false (X 82)),
  og 81 true 84 (sConv (.int .i64) (X 83)),
  og 81 true 85 (sBin .rem .none (X 84) (K (.int .i64 20))),
  og 81 true 86 (sMov (X 5)),
  og 81 true 87 (sMov (X 7)),
  og 81 true 88 (sBin .sub .none (X 86) (X 87)),
  og 81 true 89 (sBin .gtr .none (X 85) (X 88)),
  o 90 (sPick (X 81) (X 89) (K (.bool false))),
  o 91 (sMov (X 90)),
  og 91 true 92 (sCall E 7 []),
  o 93 (sPick (X 91) (X 92) (K (.bool false))),
  o 4 (sMov (X 93))])
 (.ret))
 (.skip)))
 (.seq (.reg [o 11 (sMov (K (.int .i64 0)))])
 (.seq (.seq (.reg [o 12 (sMov (K (.int .i64 0)))])
 (.block 2 (.loop (l3x2 E))))
 (.seq (.reg [o 130 (sMov (X 11)),
  o 131 (sMov (X 9)),
  o 132 (sLenSl (X 131)),
  o 133 (sBin .eql .none (X 130) (X 132)),
  o 134 (sMov (X 133)),
  og 134 true 135 (sMov (X 9)),
  og 134 true 136 (sLenSl (X 135)),
  og 134 true 137 (sIdxAddrA 2 1 (X 3) (K (.int .i64 1))),
  og 134 true 138 (sLoad 1 false (X 137)),
  og 134 true 139 (sConv (.int .i64) (X 138)),
  og 134 true 140 (sBin .rem .none (X 139) (K (.int .i64 20))),
  og 134 true 141 (sBin .eql .none (X 136) (X 140)),
  o 142 (sPick (X 134) (X 141) (K (.bool false))),
  o 143 (sMov (X 142)),
  og 143 true 144 (sCall E 7 []),
  o 145 (sPick (X 143) (X 144) (K (.bool false))),
  o 4 (sMov (X 145))])
 (.ret))))))))))))
theorem c3 (args : T) (h : AHeap) : (envL prog).call 3 args h = trim h (fin [.tmp 4] (runC (envL prog) (b3 (envL prog)) (args ++ List.replicate (146 - args.length) .undef) h)) :=
 call_tr (fn := Go.Proofs.Try.f3) tab3 (by kernel_rfl) (by rfl) (by kernel_rfl) (fun t h => by kernel_rfl) rfl args h
theorem d3 (E : Env) (args : T) (h : AHeap) : callBody prog E 3 args h = trim h (fin [.tmp 4] (runC E (b3 E) (args ++ List.replicate (146 - args.length) .undef) h)) :=
 body_tr (fn := Go.Proofs.Try.f3) tab3 (by kernel_rfl) (by rfl) (by kernel_rfl) (fun t h => by kernel_rfl) rfl args h
def tab6 : Nat → Cert := fun i => ⟨0, 0, 0, 0, 0, 0⟩
noncomputable def l6x0 (E : Env) : CT :=
 .seq (.seq (.reg [o 4 (sMov (X 3)),
  o 5 (sFieldAddr 1 (X 1)),
  o 6 (sLoad 1 false (X 5)),
  o 7 (sLenSl (X 6)),
  o 8 (sBin .lss .none (X 4) (X 7))])
 (.ite (X 8)
 (.skip)
 (.exit 0)))
 (.seq (.block 1 (.seq (.reg [o 11 (sFieldAddr 1 (X 1)),
  o 12 (sLoad 1 false (X 11)),
  o 13 (sMov (X 3)),
  o 14 (sIdxAddrS 3 (X 12) (X 13)),
  o 15 (sFieldAddr 1 (X 14)),
  o 16 (sLoad 1 false (X 15)),
  o 17 (sLenSl (X 16)),
  o 18 (sBin .gtr .none (X 17) (K (.int .i64 40))),
  o 19 (sMov (X 18)),
  og 19 false 20 (sFieldAddr 1 (X 1)),
  og 19 false 21 (sLoad 1 false (X 20)),
  og 19 false 22 (sMov (X 3)),
  og 19 false 23 (sIdxAddrS 3 (X 21) (X 22)),
  og 19 false 24 (sFieldAddr 2 (X 23)),
  og 19 false 25 (sLoad 1 false (X 24)),
  og 19 false 26 (sLenSl (X 25)),
  og 19 false 27 (sBin .gtr .none (X 26) (K (.int .i64 80))),
  o 28 (sPick (X 19) (K (.bool true)) (X 27))])
 (.ite (X 28)
 (.seq (.reg [o 2 (sMov (K (.bool false)))])
 (.ret))
 (.skip))))
 (.reg [o 9 (sMov (X 3)),
  o 10 (sBin .add .none (X 9) (K (.int .i64 1))),
  o 3 (sMov (X 10))]))
noncomputable def b6 (E : Env) : CT :=
 .seq (.reg [o 1 (sBox (X 0)),
  o 2 (sMov (K (.bool false)))])
 (.seq (.seq (.reg [o 3 (sMov (K (.int .i64 0)))])
 (.block 0 (.loop (l6x0 E))))
 (.seq (.reg [o 29 (sFieldAddr 1 (X 1)),
  o 30 (sLoad 1 false (X 29)),
  o 31 (sLenSl (X 30)),
  o 32 (sBin .leq .none (X 31) (K (.int .i64 12))),
  o 33 (sMov (X 32)),
  og 33 true 34 (sFieldAddr 0 (X 1)),
  og 33 true 35 (sLoad 1 false (X 34)),
  og 33 true 36 (sLenSl (X 35)),
  og 33 true 37 (sBin .leq .none (X 36) (K (.int .i64 80))),
  o 38 (sPick (X 33) (X 37) (K (.bool false))),
  o 39 (sMov (X 38)),
  og 39 true 40 (sFieldAddr 3 (X 1)),
  og 39 true 41 (sFieldAddr 2 (X 40)),
  og 39 true 42 (sLoad 1 false (X 41)),
  og 39 true 43 (sLenSl (X 42)),
  og 39 true 44 (sBin .leq .none (X 43) (K (.int .i64 80))),
  o 45 (sPick (X 39) (X 44) (K (.bool false))),
  o 2 (sMov (X 45))])
 (.ret)))
theorem c6 (args : T) (h : AHeap) : (envL prog).call 6 args h = trim h (fin [.tmp 2] (runC (envL prog) (b6 (envL prog)) (args ++ List.replicate (46 - args.length) .undef) h)) :=
 call_tr (fn := Go.Proofs.Try.f6) tab6 (by kernel_rfl) (by rfl) (by kernel_rfl) (fun t h => by kernel_rfl) rfl args h
def tab7 : Nat → Cert := fun i => ⟨0, 0, 0, 0, 0, 0⟩
noncomputable def b7 (E : Env) : CT :=
 .seq (.reg [o 0 (sMov (K (.bool false)))])
 (.seq (.reg [o 6 (sBuild [.int .i64 0, .int .i64 0] [(0, 1, (K (.int .i64 1))), (1, 1, (K (.int .i64 2)))]),
  o 7 (sBuild [.int .i64 0, .int .i64 0] [(0, 1, (K (.int .i64 3))), (1, 1, (K (.int .i64 0)))]),
  o 8 (sBuildSl 2 2 [.int .i64 0, .int .i64 0] [(0, 2, (X 6)), (2, 2, (X 7))]),
  o 9 (sBuild [.int .i64 0, .nilSl, .nilSl] [(2, 1, (X 8))]),
  o 10 (sBuildSl 3 1 [.int .i64 0, .nilSl, .nilSl] [(0, 3, (X 9))]),
  o 11 (sBuild [.int .i64 0, .int .i64 0] [(0, 1, (K (.int .i64 0))), (1, 1, (K (.int .i64 4)))]),
  o 12 (sBuild [.int .i64 0, .int .i64 0] [(0, 1, (K (.int .i64 1))), (1, 1, (K (.int .i64 255)))]),
  o 13 (sBuildSl 2 2 [.int .i64 0, .int .i64 0] [(0, 2, (X 11)), (2, 2, (X 12))]),
  o 14 (sBuild [.int .i64 0, .int .i64 0, .nilSl] [(0, 1, (K (.int .i64 2))), (2, 1, (X 13))]),
  o 15 (sBuild [.nilSl, .nilSl, .int .i64 0, .int .i64 0, .int .i64 0, .nilSl] [(1, 1, (X 10)), (3, 3, (X 14))]),
  o 1 (sAlloc [.nilSl, .nilSl, .int .i64 0, .int .i64 0, .int .i64 0, .nilSl]),
  u (sStore 6 (X 1) (X 15))])
 (.seq (.reg [o 17 (sLoad 6 true (X 1)),
  o 18 (sCall E 10 [(X 17), (K (.int .i64 6)), (K (.int .i64 2))]),
  o 16 (sMov (X 18)),
  o 19 (sExtract (X 16) 0),
  o 20 (sExtract (X 16) 1),
  o 2 (sMov (X 19)),
  o 3 (sMov (X 20))])
 (.seq (.reg [o 22 (sLoad 6 true (X 1)),
  o 23 (sCall E 10 [(X 22), (K (.int .i64 6)), (K (.int .i64 4))]),
  o 21 (sMov (X 23)),
  o 24 (sExtract (X 21) 0),
  o 25 (sExtract (X 21) 1),
  o 4 (sMov (X 24)),
  o 5 (sMov (X 25))])
 (.seq (.reg [o 26 (sLoad 6 true (X 1)),
  o 27 (sCall E 8 [(X 26)]),
  o 28 (sBuildSl 1 3 [.int .i64 0] [(0, 1, (K (.int .i64 0))), (1, 1, (K (.int .i64 2))), (2, 1, (K (.int .i64 4)))]),
  o 29 (sCall E 14 [(X 27), (X 28)]),
  o 30 (sMov (X 29)),
  og 30 true 31 (sLoad 6 true (X 1)),
  og 30 true 32 (sCall E 9 [(X 31), (K (.int .i64 6))]),
  og 30 true 33 (sBin .eql .none (X 32) (K (.int .i64 3))),
  o 34 (sPick (X 30) (X 33) (K (.bool false))),
  o 35 (sMov (X 34)),
  og 35 true 36 (sMov (X 3)),
  og 35 true 37 (sBin .eql .none (X 36) (K (.int .i64 0))),
  o 38 (sPick (X 35) (X 37) (K (.bool false))),
  o 39 (sMov (X 38)),
  og 39 true 40 (sMov (X 2)),
  og 39 true 41 (sBuildSl 1 2 [.int .i64 0] [(0, 1, (K (.int .i64 1))), (1, 1, (K (.int .i64 3)))]),
  og 39 true 42 (sCall E 14 [(X 40), (X 41)]),
  o 43 (sPick (X 39) (X 42) (K (.bool false))),
  o 44 (sMov (X 43)),
  og 44 true 45 (sMov (X 5)),
  og 44 true 46 (sBin .eql .none (X 45) (K (.int .i64 12))),
  o 47 (sPick (X 44) (X 46) (K (.bool false))),
  o 0 (sMov (X 47))])
 (.ret)))))
theorem d7 (E : Env) (args : T) (h : AHeap) : callBody prog E 7 args h = trim h (fin [.tmp 0] (runC E (b7 E) (args ++ List.replicate (48 - args.length) .undef) h)) :=
 body_tr (fn := Go.Proofs.Try.f7) tab7 (by kernel_rfl) (by rfl) (by kernel_rfl) (fun t h => by kernel_rfl) rfl args h
def tab8 : Nat → Cert := fun i => ⟨0, 0, 0, 0, 0, 0⟩
noncomputable def l8x0 (E : Env) : CT :=
 .seq (.reg [o 21 (sBin .lss .none (X 20) (X 19))])
 (.seq (.ite (X 21)
 (.skip)
 (.exit 2))
 (.seq (.block 3 (.seq (.reg [o 22 (sIdxAddrS 2 (X 18) (X 20)),
  o 23 (sLoad 2 true (X 22)),
  o 7 (sAlloc [.int .i64 0, .int .i64 0]),
  u (sStore 2 (X 7) (X 23))])
 (.reg [o 24 (sMov (X 3)),
  o 25 (sFieldAddr 1 (X 7)),
  o 26 (sLoad 1 false (X 25)),
  o 27 (sBuildSl 1 1 [.int .i64 0] [(0, 1, (X 26))]),
  o 28 (sApp (ty 1 false 8 [.int .i64 0]) (X 24) (X 27)),
  o 3 (sMov (X 28))])))
 (.reg [o 29 (sBin .add .none (X 20) (K (.int .i64 1))),
  o 20 (sMov (X 29))])))
noncomputable def l8x1 (E : Env) : CT :=
 .seq (.reg [o 14 (sBin .lss .none (X 13) (X 12))])
 (.seq (.ite (X 14)
 (.skip)
 (.exit 0))
 (.seq (.block 1 (.seq (.reg [o 15 (sIdxAddrS 3 (X 11) (X 13)),
  o 16 (sLoad 3 true (X 15)),
  o 5 (sAlloc [.int .i64 0, .nilSl, .nilSl]),
  u (sStore 3 (X 5) (X 16))])
 (.seq (.reg [o 17 (sFieldAddr 2 (X 5)),
  o 18 (sLoad 1 false (X 17)),
  o 19 (sLenSl (X 18)),
  o 20 (sMov (K (.int .i64 0)))])
 (.block 2 (.loop (l8x0 E))))))
 (.reg [o 30 (sBin .add .none (X 13) (K (.int .i64 1))),
  o 13 (sMov (X 30))])))
noncomputable def l8x2 (E : Env) : CT :=
 .seq (.reg [o 36 (sBin .lss .none (X 35) (X 34))])
 (.seq (.ite (X 36)
 (.skip)
 (.exit 4))
 (.seq (.block 5 (.seq (.reg [o 37 (sIdxAddrS 2 (X 33) (X 35)),
  o 38 (sLoad 2 true (X 37)),
  o 9 (sAlloc [.int .i64 0, .int .i64 0]),
  u (sStore 2 (X 9) (X 38))])
 (.seq (.reg [o 39 (sFieldAddr 1 (X 9)),
  o 40 (sLoad 1 false (X 39)),
  o 41 (sBin .neq .none (X 40) (K (.int .i64 255)))])
 (.ite (X 41)
 (.reg [o 42 (sMov (X 3)),
  o 43 (sFieldAddr 1 (X 9)),
  o 44 (sLoad 1 false (X 43)),
  o 45 (sBuildSl 1 1 [.int .i64 0] [(0, 1, (X 44))]),
  o 46 (sApp (ty 1 false 8 [.int .i64 0]) (X 42) (X 45)),
  o 3 (sMov (X 46))])
 (.skip)))))
 (.reg [o 47 (sBin .add .none (X 35) (K (.int .i64 1))),
  o 35 (sMov (X 47))])))
noncomputable def b8 (E : Env) : CT :=
 .seq (.reg [o 1 (sBox (X 0)),
  o 2 (sMov (K (.nilSl)))])
 (.seq (.reg [o 3 (sMov (K (.nilSl)))])
 (.seq (.seq (.reg [o 10 (sFieldAddr 1 (X 1)),
  o 11 (sLoad 1 false (X 10)),
  o 12 (sLenSl (X 11)),
  o 13 (sMov (K (.int .i64 0)))])
 (.block 0 (.loop (l8x1 E))))
 (.seq (.seq (.reg [o 31 (sFieldAddr 3 (X 1)),
  o 32 (sFieldAddr 2 (X 31)),
  o 33 (sLoad 1 false (X 32)),
  o 34 (sLenSl (X 33)),
  o 35 (sMov (K (.int .i64 0)))])
 (.block 4 (.loop (l8x2 E))))
 (.seq (.reg [o 48 (sMov (X 3)),
  o 49 (sCall E 15 [(X 48)])])
 (.seq (.reg [o 50 (sMov (X 3)),
  o 51 (sCall E 16 [(X 50)]),
  o 2 (sMov (X 51))])
 (.ret))))))
theorem d8 (E : Env) (args : T) (h : AHeap) : callBody prog E 8 args h = trim h (fin [.tmp 2] (runC E (b8 E) (args ++ List.replicate (52 - args.length) .undef) h)) :=
 body_tr (fn := Go.Proofs.Try.f8) tab8 (by kernel_rfl) (by rfl) (by kernel_rfl) (fun t h => by kernel_rfl) rfl args h
def tab9 : Nat → Cert := fun i => ⟨0, 0, 0, 0, 0, 0⟩
noncomputable def l9x0 (E : Env) : CT :=
 .seq (.reg [o 15 (sBin .lss .none (X 14) (X 13))])
 (.seq (.ite (X 15)
 (.skip)
 (.exit 0))
 (.seq (.block 1 (.seq (.reg [o 16 (sIdxAddrS 1 (X 12) (X 14)),
  o 17 (sLoad 1 false (X 16)),
  o 7 (sMov (X 17))])
 (.seq (.reg [o 18 (sMov (X 7)),
  o 19 (sBin .geq .none (X 18) (K (.int .i64 0))),
  o 20 (sMov (X 19)),
  og 20 true 21 (sMov (X 7)),
  og 20 true 22 (sMov (X 1)),
  og 20 true 23 (sBin .lss .none (X 21) (X 22)),
  o 24 (sPick (X 20) (X 23) (K (.bool false)))])
 (.ite (X 24)
 (.reg [o 25 (sMov (X 5)),
  o 26 (sBin .sub .none (X 25) (K (.int .i64 1))),
  o 5 (sMov (X 26))])
 (.skip)))))
 (.reg [o 27 (sBin .add .none (X 14) (K (.int .i64 1))),
  o 14 (sMov (X 27))])))
noncomputable def b9 (E : Env) : CT :=
 .seq (.reg [o 2 (sBox (X 0)),
  o 4 (sMov (K (.int .i64 0)))])
 (.seq (.seq (.reg [o 8 (sMov (X 1)),
  o 9 (sBin .lss .none (X 8) (K (.int .i64 1)))])
 (.ite (X 9)
 (.seq (.reg [o 4 (sMov (K (.int .i64 0)))])
 (.ret))
 (.skip)))
 (.seq (.reg [o 10 (sMov (X 1)),
  o 5 (sMov (X 10))])
 (.seq (.seq (.reg [o 11 (sLoad 6 true (X 2)),
  o 12 (sCall E 8 [(X 11)]),
  o 13 (sLenSl (X 12)),
  o 14 (sMov (K (.int .i64 0)))])
 (.block 0 (.loop (l9x0 E))))
 (.seq (.reg [o 28 (sMov (X 5)),
  o 4 (sMov (X 28))])
 (.ret)))))
theorem d9 (E : Env) (args : T) (h : AHeap) : callBody prog E 9 args h = trim h (fin [.tmp 4] (runC E (b9 E) (args ++ List.replicate (29 - args.length) .undef) h)) :=
 body_tr (fn := Go.Proofs.Try.f9) tab9 (by kernel_rfl) (by rfl) (by kernel_rfl) (fun t h => by kernel_rfl) rfl args h
def tab10 : Nat → Cert := fun i => bif Nat.beq i 3 then ⟨6, 23, 25922371584, 33539227648, 174224583546189353451639427374625794818080, 747690861519511779272682397446963219⟩ else ⟨0, 0, 0, 0, 0, 0⟩
noncomputable def aq10x0 (E : Env) : CT :=
 .reg [o 9 (sMov (X 26))]
noncomputable def bq10x0 (E : Env) : CT :=
 .block 2 (.seq (.seq (.reg [o 27 (sLoad 1 false (X 8)),
  o 28 (sLenSl (X 27)),
  o 29 (sLoad 1 false (X 5)),
  o 30 (sBin .eql .none (X 28) (X 29))])
 (.ite (X 30)
 (.exit 1)
 (.skip)))
 (.reg [o 31 (sLoad 1 false (X 8)),
  o 32 (sMov (X 9)),
  o 33 (sBuildSl 1 1 [.int .i64 0] [(0, 1, (X 32))]),
  o 34 (sApp (ty 1 false 8 [.int .i64 0]) (X 31) (X 33)),
  u (sStore 1 (X 8) (X 34))]))
noncomputable def kaq10x0 : Code := (nthRange Go.Proofs.Try.f10 0).1
noncomputable def kbq10x0 : Code := (nthRange Go.Proofs.Try.f10 0).2
theorem eaq10x0 (E : Env) (t : T) (h : AHeap) : evalCode prog E kaq10x0 t h = runC E (aq10x0 E) t h := code_tr tab10 (by kernel_rfl) t h
theorem ebq10x0 (E : Env) (t : T) (h : AHeap) : evalCode prog E kbq10x0 t h = runC E (bq10x0 E) t h := code_tr tab10 (by kernel_rfl) t h
noncomputable def b10 (E : Env) : CT :=
 .seq (.reg [o 3 (sBox (X 0)),
  o 5 (sBox (X 2)),
  o 6 (sMov (K (.nilSl))),
  o 7 (sMov (K (.int .i64 0)))])
 (.seq (.block 0 (.seq (.reg [o 11 (sLoad 1 false (X 5)),
  o 12 (sBin .lss .none (X 11) (K (.int .i64 0))),
  o 13 (sMov (X 12)),
  og 13 false 14 (sLoad 1 false (X 5)),
  og 13 false 15 (sBin .gtr .none (X 14) (K (.int .i64 4096))),
  o 16 (sPick (X 13) (K (.bool true)) (X 15)),
  o 10 (sMov (X 16))])
 (.ite (X 10)
 (.seq (.reg [o 6 (sMov (K (.nilSl))),
  o 7 (sMov (K (.int .i64 1)))])
 (.ret))
 (.seq (.drw [.rd 0 (o 18 (sLoad 1 false (X 5))),
  .op (o 19 (sLoad 6 true (X 3))),
  .op (o 20 (sMov (X 1))),
  .hv 6 (o 21 (sCall E 9 [(X 19), (X 20)])),
  .op (o 22 (sBin .gtr .none (X 18) (X 21))),
  .op (o 17 (sMov (X 22)))])
 (.ite (X 17)
 (.seq (.reg [o 6 (sMov (K (.nilSl))),
  o 7 (sMov (K (.int .i64 12)))])
 (.ret))
 (.skip))))))
 (.seq (.reg [o 8 (sAlloc [.nilSl])])
 (.seq (.seq (.reg [o 23 (sLoad 6 true (X 3)),
  o 24 (sMov (X 1)),
  o 25 (sCall E 17 [(X 23), (X 24)])])
 (.block 1 (.range (X 25) [26] kaq10x0 kbq10x0)))
 (.seq (.reg [o 35 (sLoad 1 false (X 8)),
  o 6 (sMov (X 35)),
  o 7 (sMov (K (.int .i64 0)))])
 (.ret)))))
theorem d10 (E : Env) (args : T) (h : AHeap) : callBody prog E 10 args h = trim h (fin [.tmp 6, .tmp 7] (runC E (b10 E) (args ++ List.replicate (36 - args.length) .undef) h)) :=
 body_tr (fn := Go.Proofs.Try.f10) tab10 (by kernel_rfl) (by rfl) (by kernel_rfl) (fun t h => by kernel_rfl) rfl args h
def tab14 : Nat → Cert := fun i => bif Nat.beq i 6 then ⟨9, 25, 642833002171759447506944, 1205237335491016659828736, 28644943735582074826047332177877539589708590883724224647809306984449, 41780390347995922719512288248198774037700430168845219084107794⟩ else ⟨0, 0, 0, 0, 0, 0⟩
noncomputable def l14x0 (E : Env) : CT :=
 .seq (.seq (.reg [o 11 (sMov (X 5)),
  o 12 (sMov (X 0)),
  o 13 (sLenSl (X 12)),
  o 14 (sBin .lss .none (X 11) (X 13))])
 (.ite (X 14)
 (.skip)
 (.exit 0)))
 (.seq (.block 1 (.seq (.drw [.op (o 17 (sMov (X 0))),
  .op (o 18 (sMov (X 5))),
  .op (o 19 (sIdxAddrS 1 (X 17) (X 18))),
  .op (o 20 (sLoad 1 false (X 19))),
  .op (o 21 (sMov (X 1))),
  .op (o 22 (sMov (X 5))),
  .op (o 23 (sIdxAddrS 1 (X 21) (X 22))),
  .op (o 24 (sLoad 1 false (X 23))),
  .op (o 25 (sBin .neq .none (X 20) (X 24)))])
 (.ite (X 25)
 (.seq (.reg [o 4 (sMov (K (.bool false)))])
 (.ret))
 (.skip))))
 (.reg [o 15 (sMov (X 5)),
  o 16 (sBin .add .none (X 15) (K (.int .i64 1))),
  o 5 (sMov (X 16))]))
noncomputable def b14 (E : Env) : CT :=
 .seq (.reg [o 4 (sMov (K (.bool false)))])
 (.seq (.seq (.reg [o 6 (sMov (X 0)),
  o 7 (sLenSl (X 6)),
  o 8 (sMov (X 1)),
  o 9 (sLenSl (X 8)),
  o 10 (sBin .neq .none (X 7) (X 9))])
 (.ite (X 10)
 (.seq (.reg [o 4 (sMov (K (.bool false)))])
 (.ret))
 (.skip)))
 (.seq (.seq (.reg [o 5 (sMov (K (.int .i64 0)))])
 (.block 0 (.loop (l14x0 E))))
 (.seq (.reg [o 4 (sMov (K (.bool true)))])
 (.ret))))
theorem c14 (args : T) (h : AHeap) : (envL prog).call 14 args h = trim h (fin [.tmp 4] (runC (envL prog) (b14 (envL prog)) (args ++ List.replicate (26 - args.length) .undef) h)) :=
 call_tr (fn := Go.Proofs.Try.f14) tab14 (by kernel_rfl) (by rfl) (by kernel_rfl) (fun t h => by kernel_rfl) rfl args h
def tab16 : Nat → Cert := fun i => bif Nat.beq i 6 then ⟨10, 25, 326971007360474210652352675840, 632877634534691839980386385920, 932895263682960510679373386348352327327762612020585652427584328757984362497, 1401917266865285525169130149188584885931384520471265422282797254443025⟩ else bif Nat.beq i 11 then ⟨10, 44, 326971007360474210652352675840, 632877634534691839980386385920, 1463969598495830593511747798607698204145328610191351964684210808364695591188871615247655913539840576533047148171746442691451465760784, 7262577782119834064163686946268206428521138543820301156102815424411072455104353659169724590704609557155119228510162386980⟩ else ⟨0, 0, 0, 0, 0, 0⟩
noncomputable def l16x0 (E : Env) : CT :=
 .seq (.seq (.reg [o 29 (sMov (X 5)),
  o 30 (sMov (X 4)),
  o 31 (sLenSl (X 30)),
  o 32 (sBin .lss .none (X 29) (X 31))])
 (.ite (X 32)
 (.skip)
 (.exit 2)))
 (.seq (.block 3 (.seq (.drw [.op (o 35 (sMov (X 4))),
  .op (o 36 (sMov (X 5))),
  .op (o 37 (sIdxAddrS 1 (X 35) (X 36))),
  .op (o 38 (sLoad 1 false (X 37))),
  .op (o 39 (sMov (X 4))),
  .op (o 40 (sMov (X 5))),
  .op (o 41 (sBin .sub .none (X 40) (K (.int .i64 1)))),
  .op (o 42 (sIdxAddrS 1 (X 39) (X 41))),
  .op (o 43 (sLoad 1 false (X 42))),
  .op (o 44 (sBin .neq .none (X 38) (X 43)))])
 (.ite (X 44)
 (.seq (.reg [o 45 (sMov (X 0)),
  o 46 (sMov (X 3)),
  o 47 (sMov (X 4)),
  o 48 (sMov (X 5)),
  o 49 (sIdxAddrS 1 (X 47) (X 48)),
  o 50 (sLoad 1 false (X 49)),
  o 51 (sIdxAddrS 1 (X 45) (X 46)),
  u (sStore 1 (X 51) (X 50))])
 (.reg [o 52 (sMov (X 3)),
  o 53 (sBin .add .none (X 52) (K (.int .i64 1))),
  o 3 (sMov (X 53))]))
 (.skip))))
 (.reg [o 33 (sMov (X 5)),
  o 34 (sBin .add .none (X 33) (K (.int .i64 1))),
  o 5 (sMov (X 34))]))
noncomputable def l16x1 (E : Env) : CT :=
 .seq (.seq (.reg [o 10 (sMov (X 3)),
  o 11 (sMov (X 0)),
  o 12 (sLenSl (X 11)),
  o 13 (sBin .lss .none (X 10) (X 12))])
 (.ite (X 13)
 (.skip)
 (.exit 0)))
 (.seq (.block 1 (.seq (.drw [.op (o 16 (sMov (X 0))),
  .op (o 17 (sMov (X 3))),
  .op (o 18 (sIdxAddrS 1 (X 16) (X 17))),
  .op (o 19 (sLoad 1 false (X 18))),
  .op (o 20 (sMov (X 0))),
  .op (o 21 (sMov (X 3))),
  .op (o 22 (sBin .sub .none (X 21) (K (.int .i64 1)))),
  .op (o 23 (sIdxAddrS 1 (X 20) (X 22))),
  .op (o 24 (sLoad 1 false (X 23))),
  .op (o 25 (sBin .eql .none (X 19) (X 24)))])
 (.ite (X 25)
 (.seq (.reg [o 26 (sMov (X 0)),
  o 27 (sMov (X 3)),
  o 28 (sSliceS 1 (X 26) (some (X 27)) none none),
  o 4 (sMov (X 28))])
 (.seq (.seq (.reg [o 5 (sMov (K (.int .i64 1)))])
 (.block 2 (.loop (l16x0 E))))
 (.seq (.reg [o 54 (sMov (X 0)),
  o 55 (sMov (X 3)),
  o 56 (sSliceS 1 (X 54) (some (X 55)) none none),
  u (sClear (ty 1 false 8 [.int .i64 0]) (X 56))])
 (.seq (.reg [o 57 (sMov (X 0)),
  o 58 (sMov (X 3)),
  o 59 (sSliceS 1 (X 57) none (some (X 58)) none),
  o 2 (sMov (X 59))])
 (.ret)))))
 (.skip))))
 (.reg [o 14 (sMov (X 3)),
  o 15 (sBin .add .none (X 14) (K (.int .i64 1))),
  o 3 (sMov (X 15))]))
noncomputable def b16 (E : Env) : CT :=
 .seq (.reg [o 2 (sMov (K (.nilSl)))])
 (.seq (.seq (.reg [o 6 (sMov (X 0)),
  o 7 (sLenSl (X 6)),
  o 8 (sBin .lss .none (X 7) (K (.int .i64 2)))])
 (.ite (X 8)
 (.seq (.reg [o 9 (sMov (X 0)),
  o 2 (sMov (X 9))])
 (.ret))
 (.skip)))
 (.seq (.seq (.reg [o 3 (sMov (K (.int .i64 1)))])
 (.block 0 (.loop (l16x1 E))))
 (.seq (.reg [o 60 (sMov (X 0)),
  o 2 (sMov (X 60))])
 (.ret))))
theorem c16 (args : T) (h : AHeap) : (envL prog).call 16 args h = trim h (fin [.tmp 2] (runC (envL prog) (b16 (envL prog)) (args ++ List.replicate (61 - args.length) .undef) h)) :=
 call_tr (fn := Go.Proofs.Try.f16) tab16 (by kernel_rfl) (by rfl) (by kernel_rfl) (fun t h => by kernel_rfl) rfl args h
def tab17 : Nat → Cert := fun i => ⟨0, 0, 0, 0, 0, 0⟩
noncomputable def b17 (E : Env) : CT :=
 .seq (.reg [o 2 (sBox (X 0)),
  o 3 (sBox (X 1)),
  o 4 (sMov (K (.nilFn)))])
 (.seq (.reg [o 5 (sFun 31 [(X 2), (X 3)]),
  o 4 (sMov (X 5))])
 (.ret))
theorem c17 (args : T) (h : AHeap) : (envL prog).call 17 args h = trim h (fin [.tmp 4] (runC (envL prog) (b17 (envL prog)) (args ++ List.replicate (6 - args.length) .undef) h)) :=
 call_tr (fn := Go.Proofs.Try.f17) tab17 (by kernel_rfl) (by rfl) (by kernel_rfl) (fun t h => by kernel_rfl) rfl args h
def tab31 : Nat → Cert := fun i => ⟨0, 0, 0, 0, 0, 0⟩
noncomputable def l31x0 (E : Env) : CT :=
 .seq (.seq (.reg [o 10 (sMov (X 5)),
  o 11 (sLoad 1 false (X 2)),
  o 12 (sBin .lss .none (X 10) (X 11))])
 (.ite (X 12)
 (.skip)
 (.exit 0)))
 (.seq (.block 1 (.seq (.reg [o 16 (sMov (X 4)),
  o 17 (sMov (X 5)),
  o 18 (sCall E 32 [(X 16), (X 17)]),
  o 15 (sMov (X 18)),
  o 19 (sExtract (X 15) 0),
  o 20 (sExtract (X 15) 1),
  o 6 (sMov (X 19)),
  o 7 (sMov (X 20))])
 (.seq (.reg [o 21 (sMov (X 7)),
  o 22 (sUn .not (X 21)),
  o 23 (sMov (X 22)),
  og 23 true 24 (sMov (X 0)),
  og 23 true 25 (sMov (X 5)),
  og 23 true 26 (sCallV E (X 24) [(X 25)]),
  og 23 true 27 (sUn .not (X 26)),
  o 28 (sPick (X 23) (X 27) (K (.bool false)))])
 (.ite (X 28)
 (.ret)
 (.skip)))))
 (.reg [o 13 (sMov (X 5)),
  o 14 (sBin .add .none (X 13) (K (.int .i64 1))),
  o 5 (sMov (X 14))]))
noncomputable def b31 (E : Env) : CT :=
 .seq (.reg [o 8 (sLoad 6 true (X 1)),
  o 9 (sCall E 8 [(X 8)]),
  o 4 (sMov (X 9))])
 (.seq (.reg [o 5 (sMov (K (.int .i64 0)))])
 (.block 0 (.loop (l31x0 E))))
theorem d31 (E : Env) (args : T) (h : AHeap) : callBody prog E 31 args h = trim h (fin [] (runC E (b31 E) (args ++ List.replicate (29 - args.length) .undef) h)) :=
 body_tr (fn := Go.Proofs.Try.f31) tab31 (by kernel_rfl) (by rfl) (by kernel_rfl) (fun t h => by kernel_rfl) rfl args h
def tab32 : Nat → Cert := fun i => ⟨0, 0, 0, 0, 0, 0⟩
noncomputable def l32x0 (E : Env) : CT :=
 .seq (.seq (.reg [o 13 (sMov (X 7)),
  o 14 (sMov (X 8)),
  o 15 (sBin .lss .none (X 13) (X 14))])
 (.ite (X 15)
 (.skip)
 (.exit 0)))
 (.block 1 (.seq (.reg [o 16 (sMov (X 7)),
  o 17 (sMov (X 8)),
  o 18 (sBin .add .none (X 16) (X 17)),
  o 19 (sConv (.int .u64) (X 18)),
  o 20 (sBin .shr .none (X 19) (K (.int .u64 1))),
  o 21 (sConv (.int .i64) (X 20)),
  o 9 (sMov (X 21))])
 (.seq (.reg [o 22 (sMov (X 0)),
  o 23 (sMov (X 9)),
  o 24 (sIdxAddrS 1 (X 22) (X 23)),
  o 25 (sLoad 1 false (X 24)),
  o 26 (sMov (X 1)),
  o 27 (sCall E 46 [(X 25), (X 26)])])
 (.ite (X 27)
 (.reg [o 28 (sMov (X 9)),
  o 29 (sBin .add .none (X 28) (K (.int .i64 1))),
  o 7 (sMov (X 29))])
 (.reg [o 30 (sMov (X 9)),
  o 8 (sMov (X 30))])))))
noncomputable def b32 (E : Env) : CT :=
 .seq (.reg [o 4 (sMov (K (.int .i64 0))),
  o 5 (sMov (K (.bool false)))])
 (.seq (.reg [o 10 (sMov (X 0)),
  o 11 (sLenSl (X 10)),
  o 6 (sMov (X 11))])
 (.seq (.reg [o 12 (sMov (X 6)),
  o 7 (sMov (K (.int .i64 0))),
  o 8 (sMov (X 12))])
 (.seq (.block 0 (.loop (l32x0 E)))
 (.seq (.reg [o 31 (sMov (X 7)),
  o 32 (sMov (X 7)),
  o 33 (sMov (X 6)),
  o 34 (sBin .lss .none (X 32) (X 33)),
  o 35 (sMov (X 34)),
  og 35 true 36 (sMov (X 0)),
  og 35 true 37 (sMov (X 7)),
  og 35 true 38 (sIdxAddrS 1 (X 36) (X 37)),
  og 35 true 39 (sLoad 1 false (X 38)),
  og 35 true 40 (sMov (X 1)),
  og 35 true 41 (sBin .eql .none (X 39) (X 40)),
  og 35 true 42 (sMov (X 41)),
  og 42 false 43 (sMov (X 0)),
  og 42 false 44 (sMov (X 7)),
  og 42 false 45 (sIdxAddrS 1 (X 43) (X 44)),
  og 42 false 46 (sLoad 1 false (X 45)),
  og 42 false 47 (sCall E 51 [(X 46)]),
  og 42 false 48 (sMov (X 47)),
  og 48 true 49 (sMov (X 1)),
  og 48 true 50 (sCall E 51 [(X 49)]),
  og 42 false 51 (sPick (X 48) (X 50) (K (.bool false))),
  og 35 true 52 (sPick (X 42) (K (.bool true)) (X 51)),
  o 53 (sPick (X 35) (X 52) (K (.bool false))),
  o 4 (sMov (X 31)),
  o 5 (sMov (X 53))])
 (.ret)))))
theorem c32 (args : T) (h : AHeap) : (envL prog).call 32 args h = trim h (fin [.tmp 4, .tmp 5] (runC (envL prog) (b32 (envL prog)) (args ++ List.replicate (54 - args.length) .undef) h)) :=
 call_tr (fn := Go.Proofs.Try.f32) tab32 (by kernel_rfl) (by rfl) (by kernel_rfl) (fun t h => by kernel_rfl) rfl args h
def tab46 : Nat → Cert := fun i => ⟨0, 0, 0, 0, 0, 0⟩
noncomputable def b46 (E : Env) : CT :=
 .seq (.reg [o 4 (sMov (K (.bool false)))])
 (.seq (.reg [o 5 (sMov (X 0)),
  o 6 (sCall E 60 [(X 5)]),
  o 7 (sMov (X 6)),
  og 7 true 8 (sMov (X 1)),
  og 7 true 9 (sCall E 60 [(X 8)]),
  og 7 true 10 (sUn .not (X 9)),
  o 11 (sPick (X 7) (X 10) (K (.bool false))),
  o 12 (sMov (X 11)),
  og 12 false 13 (sMov (X 0)),
  og 12 false 14 (sMov (X 1)),
  og 12 false 15 (sBin .lss .none (X 13) (X 14)),
  o 16 (sPick (X 12) (K (.bool true)) (X 15)),
  o 4 (sMov (X 16))])
 (.ret))
theorem c46 (args : T) (h : AHeap) : (envL prog).call 46 args h = trim h (fin [.tmp 4] (runC (envL prog) (b46 (envL prog)) (args ++ List.replicate (17 - args.length) .undef) h)) :=
 call_tr (fn := Go.Proofs.Try.f46) tab46 (by kernel_rfl) (by rfl) (by kernel_rfl) (fun t h => by kernel_rfl) rfl args h
noncomputable def l48x0 (E : Env) : CT :=
 .seq (.seq (.drw [.op (o 30 (sMov (X 10))),
  .op (o 31 (sMov (X 11))),
  .op (o 32 (sBin .leq .none (X 30) (X 31))),
  .op (o 33 (sMov (X 32))),
  .op (og 33 true 34 (sMov (X 0))),
  .op (og 33 true 35 (sMov (X 10))),
  .op (og 33 true 36 (sIdxAddrS 1 (X 34) (X 35))),
  .op (og 33 true 37 (sLoad 1 false (X 36))),
  .op (og 33 true 38 (sMov (X 0))),
  .op (og 33 true 39 (sMov (X 1))),
  .op (og 33 true 40 (sIdxAddrS 1 (X 38) (X 39))),
  .op (og 33 true 41 (sLoad 1 false (X 40))),
  .hv 4095 (og 33 true 42 (sCall E 46 [(X 37), (X 41)])),
  .op (o 43 (sPick (X 33) (X 42) (K (.bool false))))])
 (.ite (X 43)
 (.skip)
 (.exit 0)))
 (.block 1 (.reg [o 44 (sMov (X 10)),
  o 45 (sBin .add .none (X 44) (K (.int .i64 1))),
  o 10 (sMov (X 45))]))
noncomputable def l48x1 (E : Env) : CT :=
 .seq (.seq (.drw [.op (o 46 (sMov (X 10))),
  .op (o 47 (sMov (X 11))),
  .op (o 48 (sBin .leq .none (X 46) (X 47))),
  .op (o 49 (sMov (X 48))),
  .op (og 49 true 50 (sMov (X 0))),
  .op (og 49 true 51 (sMov (X 11))),
  .op (og 49 true 52 (sIdxAddrS 1 (X 50) (X 51))),
  .op (og 49 true 53 (sLoad 1 false (X 52))),
  .op (og 49 true 54 (sMov (X 0))),
  .op (og 49 true 55 (sMov (X 1))),
  .op (og 49 true 56 (sIdxAddrS 1 (X 54) (X 55))),
  .op (og 49 true 57 (sLoad 1 false (X 56))),
  .hv 4095 (og 49 true 58 (sCall E 46 [(X 53), (X 57)])),
  .op (og 49 true 59 (sUn .not (X 58))),
  .op (o 60 (sPick (X 49) (X 59) (K (.bool false))))])
 (.ite (X 60)
 (.skip)
 (.exit 2)))
 (.block 3 (.reg [o 61 (sMov (X 11)),
  o 62 (sBin .sub .none (X 61) (K (.int .i64 1))),
  o 11 (sMov (X 62))]))
noncomputable def l48x2 (E : Env) : CT :=
 .seq (.seq (.drw [.op (o 99 (sMov (X 10))),
  .op (o 100 (sMov (X 11))),
  .op (o 101 (sBin .leq .none (X 99) (X 100))),
  .op (o 102 (sMov (X 101))),
  .op (og 102 true 103 (sMov (X 0))),
  .op (og 102 true 104 (sMov (X 10))),
  .op (og 102 true 105 (sIdxAddrS 1 (X 103) (X 104))),
  .op (og 102 true 106 (sLoad 1 false (X 105))),
  .op (og 102 true 107 (sMov (X 0))),
  .op (og 102 true 108 (sMov (X 1))),
  .op (og 102 true 109 (sIdxAddrS 1 (X 107) (X 108))),
  .op (og 102 true 110 (sLoad 1 false (X 109))),
  .hv 4095 (og 102 true 111 (sCall E 46 [(X 106), (X 110)])),
  .op (o 112 (sPick (X 102) (X 111) (K (.bool false))))])
 (.ite (X 112)
 (.skip)
 (.exit 6)))
 (.block 7 (.reg [o 113 (sMov (X 10)),
  o 114 (sBin .add .none (X 113) (K (.int .i64 1))),
  o 10 (sMov (X 114))]))
noncomputable def l48x3 (E : Env) : CT :=
 .seq (.seq (.drw [.op (o 115 (sMov (X 10))),
  .op (o 116 (sMov (X 11))),
  .op (o 117 (sBin .leq .none (X 115) (X 116))),
  .op (o 118 (sMov (X 117))),
  .op (og 118 true 119 (sMov (X 0))),
  .op (og 118 true 120 (sMov (X 11))),
  .op (og 118 true 121 (sIdxAddrS 1 (X 119) (X 120))),
  .op (og 118 true 122 (sLoad 1 false (X 121))),
  .op (og 118 true 123 (sMov (X 0))),
  .op (og 118 true 124 (sMov (X 1))),
  .op (og 118 true 125 (sIdxAddrS 1 (X 123) (X 124))),
  .op (og 118 true 126 (sLoad 1 false (X 125))),
  .hv 4095 (og 118 true 127 (sCall E 46 [(X 122), (X 126)])),
  .op (og 118 true 128 (sUn .not (X 127))),
  .op (o 129 (sPick (X 118) (X 128) (K (.bool false))))])
 (.ite (X 129)
 (.skip)
 (.exit 8)))
 (.block 9 (.reg [o 130 (sMov (X 11)),
  o 131 (sBin .sub .none (X 130) (K (.int .i64 1))),
  o 11 (sMov (X 131))]))
noncomputable def l48x4 (E : Env) : CT :=
 .block 5 (.seq (.block 6 (.loop (l48x2 E)))
 (.seq (.block 8 (.loop (l48x3 E)))
 (.seq (.seq (.reg [o 132 (sMov (X 10)),
  o 133 (sMov (X 11)),
  o 134 (sBin .gtr .none (X 132) (X 133))])
 (.ite (X 134)
 (.exit 4)
 (.skip)))
 (.seq (.drw [.op (o 135 (sMov (X 0))),
  .op (o 136 (sMov (X 10))),
  .op (o 137 (sMov (X 0))),
  .op (o 138 (sMov (X 11))),
  .op (o 139 (sMov (X 0))),
  .op (o 140 (sMov (X 11))),
  .op (o 141 (sIdxAddrS 1 (X 139) (X 140))),
  .op (o 142 (sLoad 1 false (X 141))),
  .op (o 143 (sMov (X 0))),
  .op (o 144 (sMov (X 10))),
  .op (o 145 (sIdxAddrS 1 (X 143) (X 144))),
  .op (o 146 (sLoad 1 false (X 145))),
  .op (o 147 (sIdxAddrS 1 (X 135) (X 136))),
  .hv 8179 (u (sStore 1 (X 147) (X 142))),
  .op (o 148 (sIdxAddrS 1 (X 137) (X 138))),
  .hv 32767 (u (sStore 1 (X 148) (X 146)))])
 (.seq (.reg [o 149 (sMov (X 10)),
  o 150 (sBin .add .none (X 149) (K (.int .i64 1))),
  o 10 (sMov (X 150))])
 (.reg [o 151 (sMov (X 11)),
  o 152 (sBin .sub .none (X 151) (K (.int .i64 1))),
  o 11 (sMov (X 152))]))))))
noncomputable def b48 (E : Env) : CT :=
 .seq (.reg [o 8 (sMov (K (.int .i64 0))),
  o 9 (sMov (K (.bool false)))])
 (.seq (.drw [.op (o 12 (sMov (X 0))),
  .op (o 13 (sMov (X 1))),
  .op (o 14 (sMov (X 0))),
  .op (o 15 (sMov (X 3))),
  .op (o 16 (sMov (X 0))),
  .op (o 17 (sMov (X 3))),
  .op (o 18 (sIdxAddrS 1 (X 16) (X 17))),
  .op (o 19 (sLoad 1 false (X 18))),
  .op (o 20 (sMov (X 0))),
  .op (o 21 (sMov (X 1))),
  .op (o 22 (sIdxAddrS 1 (X 20) (X 21))),
  .op (o 23 (sLoad 1 false (X 22))),
  .op (o 24 (sIdxAddrS 1 (X 12) (X 13))),
  .hv 8179 (u (sStore 1 (X 24) (X 19))),
  .op (o 25 (sIdxAddrS 1 (X 14) (X 15))),
  .hv 32767 (u (sStore 1 (X 25) (X 23)))])
 (.seq (.reg [o 26 (sMov (X 1)),
  o 27 (sBin .add .none (X 26) (K (.int .i64 1))),
  o 28 (sMov (X 2)),
  o 29 (sBin .sub .none (X 28) (K (.int .i64 1))),
  o 10 (sMov (X 27)),
  o 11 (sMov (X 29))])
 (.seq (.block 0 (.loop (l48x0 E)))
 (.seq (.block 2 (.loop (l48x1 E)))
 (.seq (.seq (.reg [o 63 (sMov (X 10)),
  o 64 (sMov (X 11)),
  o 65 (sBin .gtr .none (X 63) (X 64))])
 (.ite (X 65)
 (.seq (.drw [.op (o 66 (sMov (X 0))),
  .op (o 67 (sMov (X 11))),
  .op (o 68 (sMov (X 0))),
  .op (o 69 (sMov (X 1))),
  .op (o 70 (sMov (X 0))),
  .op (o 71 (sMov (X 1))),
  .op (o 72 (sIdxAddrS 1 (X 70) (X 71))),
  .op (o 73 (sLoad 1 false (X 72))),
  .op (o 74 (sMov (X 0))),
  .op (o 75 (sMov (X 11))),
  .op (o 76 (sIdxAddrS 1 (X 74) (X 75))),
  .op (o 77 (sLoad 1 false (X 76))),
  .op (o 78 (sIdxAddrS 1 (X 66) (X 67))),
  .hv 8179 (u (sStore 1 (X 78) (X 73))),
  .op (o 79 (sIdxAddrS 1 (X 68) (X 69))),
  .hv 32767 (u (sStore 1 (X 79) (X 77)))])
 (.seq (.reg [o 80 (sMov (X 11)),
  o 8 (sMov (X 80)),
  o 9 (sMov (K (.bool true)))])
 (.ret)))
 (.skip)))
 (.seq (.drw [.op (o 81 (sMov (X 0))),
  .op (o 82 (sMov (X 10))),
  .op (o 83 (sMov (X 0))),
  .op (o 84 (sMov (X 11))),
  .op (o 85 (sMov (X 0))),
  .op (o 86 (sMov (X 11))),
  .op (o 87 (sIdxAddrS 1 (X 85) (X 86))),
  .op (o 88 (sLoad 1 false (X 87))),
  .op (o 89 (sMov (X 0))),
  .op (o 90 (sMov (X 10))),
  .op (o 91 (sIdxAddrS 1 (X 89) (X 90))),
  .op (o 92 (sLoad 1 false (X 91))),
  .op (o 93 (sIdxAddrS 1 (X 81) (X 82))),
  .hv 8179 (u (sStore 1 (X 93) (X 88))),
  .op (o 94 (sIdxAddrS 1 (X 83) (X 84))),
  .hv 32767 (u (sStore 1 (X 94) (X 92)))])
 (.seq (.reg [o 95 (sMov (X 10)),
  o 96 (sBin .add .none (X 95) (K (.int .i64 1))),
  o 10 (sMov (X 96))])
 (.seq (.reg [o 97 (sMov (X 11)),
  o 98 (sBin .sub .none (X 97) (K (.int .i64 1))),
  o 11 (sMov (X 98))])
 (.seq (.block 4 (.loop (l48x4 E)))
 (.seq (.drw [.op (o 153 (sMov (X 0))),
  .op (o 154 (sMov (X 11))),
  .op (o 155 (sMov (X 0))),
  .op (o 156 (sMov (X 1))),
  .op (o 157 (sMov (X 0))),
  .op (o 158 (sMov (X 1))),
  .op (o 159 (sIdxAddrS 1 (X 157) (X 158))),
  .op (o 160 (sLoad 1 false (X 159))),
  .op (o 161 (sMov (X 0))),
  .op (o 162 (sMov (X 11))),
  .op (o 163 (sIdxAddrS 1 (X 161) (X 162))),
  .op (o 164 (sLoad 1 false (X 163))),
  .op (o 165 (sIdxAddrS 1 (X 153) (X 154))),
  .hv 8179 (u (sStore 1 (X 165) (X 160))),
  .op (o 166 (sIdxAddrS 1 (X 155) (X 156))),
  .hv 32767 (u (sStore 1 (X 166) (X 164)))])
 (.seq (.reg [o 167 (sMov (X 11)),
  o 8 (sMov (X 167)),
  o 9 (sMov (K (.bool false)))])
 (.ret))))))))))))
def tab51 : Nat → Cert := fun i => ⟨0, 0, 0, 0, 0, 0⟩
noncomputable def b51 (E : Env) : CT :=
 .seq (.reg [o 2 (sMov (K (.bool false)))])
 (.seq (.reg [o 3 (sMov (X 0)),
  o 4 (sMov (X 0)),
  o 5 (sBin .neq .none (X 3) (X 4)),
  o 2 (sMov (X 5))])
 (.ret))
theorem c51 (args : T) (h : AHeap) : (envL prog).call 51 args h = trim h (fin [.tmp 2] (runC (envL prog) (b51 (envL prog)) (args ++ List.replicate (6 - args.length) .undef) h)) :=
 call_tr (fn := Go.Proofs.Try.f51) tab51 (by kernel_rfl) (by rfl) (by kernel_rfl) (fun t h => by kernel_rfl) rfl args h
def tab52 : Nat → Cert := fun i => bif Nat.beq i 11 then ⟨9, 54, 680906217249386249846784, 1205088896848329185427456, 112382947811375724488742041453776276374570809350632868170734732734838719881293241590782288705168714390777596721837144699999507108449320042638606848, 609987332706579302352693848719322061433462702010702316706625686780384052692097453976043110735309001855013995224369916608979312574511⟩ else bif Nat.beq i 15 then ⟨9, 77, 680906217249386249846784, 1205088896848329185427456, 23115831598601250764242733299745186244064715112560933823724752031692391757118915468275322643558725747272738064420965321799759590965544320155833376631231322711835302609810875268349228821309506037028511729844225, 21211526881130410853267533183424259031483221315037831563207555260244335392337441166579316541022363516950468447371577672569443599734093801526701739672898498476400484063534686101840588701766⟩ else ⟨0, 0, 0, 0, 0, 0⟩
noncomputable def b52 (E : Env) : CT :=
 .seq (.reg [o 6 (sMov (K (.nilSl)))])
 (.seq (.reg [o 10 (sMov (X 0)),
  o 11 (sMov (X 1)),
  o 12 (sSliceS 2 (X 10) (some (X 11)) none none)])
 (.seq (.reg [o 13 (sMov (X 2)),
  o 14 (sLenSl (X 13)),
  o 7 (sMov (X 14))])
 (.seq (.seq (.reg [o 15 (sMov (X 7)),
  o 16 (sBin .eql .none (X 15) (K (.int .i64 0)))])
 (.ite (X 16)
 (.seq (.reg [o 17 (sMov (X 0)),
  o 6 (sMov (X 17))])
 (.ret))
 (.skip)))
 (.seq (.reg [o 18 (sMov (X 0)),
  o 19 (sLenSl (X 18)),
  o 8 (sMov (X 19))])
 (.seq (.seq (.reg [o 20 (sMov (X 1)),
  o 21 (sMov (X 8)),
  o 22 (sBin .eql .none (X 20) (X 21))])
 (.ite (X 22)
 (.seq (.reg [o 23 (sMov (X 0)),
  o 24 (sMov (X 2)),
  o 25 (sApp (ty 2 true 16 [.int .i64 0, .int .i64 0]) (X 23) (X 24)),
  o 6 (sMov (X 25))])
 (.ret))
 (.skip)))
 (.seq (.seq (.reg [o 26 (sMov (X 8)),
  o 27 (sMov (X 7)),
  o 28 (sBin .add .none (X 26) (X 27)),
  o 29 (sMov (X 0)),
  o 30 (sCapSl (X 29)),
  o 31 (sBin .gtr .none (X 28) (X 30))])
 (.ite (X 31)
 (.seq (.reg [o 32 (sMov (X 0)),
  o 33 (sMov (X 1)),
  o 34 (sSliceS 2 (X 32) none (some (X 33)) none),
  o 35 (sMov (X 8)),
  o 36 (sMov (X 7)),
  o 37 (sBin .add .none (X 35) (X 36)),
  o 38 (sMov (X 1)),
  o 39 (sBin .sub .none (X 37) (X 38)),
  o 40 (sAppN (ty 2 true 16 [.int .i64 0, .int .i64 0]) (X 34) (X 39)),
  o 9 (sMov (X 40))])
 (.seq (.reg [o 41 (sMov (X 9)),
  o 42 (sMov (X 1)),
  o 43 (sSliceS 2 (X 41) (some (X 42)) none none),
  o 44 (sMov (X 2)),
  o 45 (sCopy (ty 2 true 16 [.int .i64 0, .int .i64 0]) (X 43) (X 44))])
 (.seq (.drw [.op (o 46 (sMov (X 9))),
  .op (o 47 (sMov (X 1))),
  .op (o 48 (sMov (X 7))),
  .op (o 49 (sBin .add .none (X 47) (X 48))),
  .op (o 50 (sSliceS 2 (X 46) (some (X 49)) none none)),
  .op (o 51 (sMov (X 0))),
  .op (o 52 (sMov (X 1))),
  .op (o 53 (sSliceS 2 (X 51) (some (X 52)) none none)),
  .hv 255 (o 54 (sCopy (ty 2 true 16 [.int .i64 0, .int .i64 0]) (X 50) (X 53)))])
 (.seq (.reg [o 55 (sMov (X 9)),
  o 6 (sMov (X 55))])
 (.ret)))))
 (.skip)))
 (.seq (.reg [o 56 (sMov (X 0)),
  o 57 (sMov (X 8)),
  o 58 (sMov (X 7)),
  o 59 (sBin .add .none (X 57) (X 58)),
  o 60 (sSliceS 2 (X 56) none (some (X 59)) none),
  o 0 (sMov (X 60))])
 (.seq (.seq (.reg [o 61 (sMov (X 2)),
  o 62 (sMov (X 0)),
  o 63 (sMov (X 1)),
  o 64 (sMov (X 7)),
  o 65 (sBin .add .none (X 63) (X 64)),
  o 66 (sSliceS 2 (X 62) (some (X 65)) none none),
  o 67 (sCall E 61 [(X 61), (X 66)]),
  o 68 (sUn .not (X 67))])
 (.ite (X 68)
 (.seq (.drw [.op (o 69 (sMov (X 0))),
  .op (o 70 (sMov (X 1))),
  .op (o 71 (sMov (X 7))),
  .op (o 72 (sBin .add .none (X 70) (X 71))),
  .op (o 73 (sSliceS 2 (X 69) (some (X 72)) none none)),
  .op (o 74 (sMov (X 0))),
  .op (o 75 (sMov (X 1))),
  .op (o 76 (sSliceS 2 (X 74) (some (X 75)) none none)),
  .hv 255 (o 77 (sCopy (ty 2 true 16 [.int .i64 0, .int .i64 0]) (X 73) (X 76)))])
 (.seq (.reg [o 78 (sMov (X 0)),
  o 79 (sMov (X 1)),
  o 80 (sSliceS 2 (X 78) (some (X 79)) none none),
  o 81 (sMov (X 2)),
  o 82 (sCopy (ty 2 true 16 [.int .i64 0, .int .i64 0]) (X 80) (X 81))])
 (.seq (.reg [o 83 (sMov (X 0)),
  o 6 (sMov (X 83))])
 (.ret))))
 (.skip)))
 (.seq (.reg [o 84 (sMov (X 0)),
  o 85 (sMov (X 8)),
  o 86 (sSliceS 2 (X 84) (some (X 85)) none none),
  o 87 (sMov (X 2)),
  o 88 (sCopy (ty 2 true 16 [.int .i64 0, .int .i64 0]) (X 86) (X 87))])
 (.seq (.reg [o 89 (sMov (X 0)),
  o 90 (sMov (X 1)),
  o 91 (sSliceS 2 (X 89) (some (X 90)) none none),
  o 92 (sMov (X 7)),
  o 93 (sCall E 62 [(X 91), (X 92)])])
 (.seq (.reg [o 94 (sMov (X 0)),
  o 6 (sMov (X 94))])
 (.ret))))))))))))
theorem d52 (E : Env) (args : T) (h : AHeap) : callBody prog E 52 args h = trim h (fin [.tmp 6] (runC E (b52 E) (args ++ List.replicate (95 - args.length) .undef) h)) :=
 body_tr (fn := Go.Proofs.Try.f52) tab52 (by kernel_rfl) (by rfl) (by kernel_rfl) (fun t h => by kernel_rfl) rfl args h
def tab60 : Nat → Cert := fun i => ⟨0, 0, 0, 0, 0, 0⟩
noncomputable def b60 (E : Env) : CT :=
 .seq (.reg [o 2 (sMov (K (.bool false)))])
 (.seq (.reg [o 3 (sMov (X 0)),
  o 4 (sMov (X 0)),
  o 5 (sBin .neq .none (X 3) (X 4)),
  o 2 (sMov (X 5))])
 (.ret))
theorem c60 (args : T) (h : AHeap) : (envL prog).call 60 args h = trim h (fin [.tmp 2] (runC (envL prog) (b60 (envL prog)) (args ++ List.replicate (6 - args.length) .undef) h)) :=
 call_tr (fn := Go.Proofs.Try.f60) tab60 (by kernel_rfl) (by rfl) (by kernel_rfl) (fun t h => by kernel_rfl) rfl args h
end Go.Proofs.Ytfioahnogphnfaa.G12
