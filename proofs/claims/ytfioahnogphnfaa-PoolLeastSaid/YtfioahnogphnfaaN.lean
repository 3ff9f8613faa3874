/- What the functions that PoolLeast reaches answer, for every argument. No condition but those in each statement. -/
import Derived.Test.YtfioahnogphnfaaE4
import Derived.Test.YtfioahnogphnfaaProg
set_option maxRecDepth 100000
set_option linter.unusedVariables false
namespace Go.Proofs.Ytfioahnogphnfaa.G12
open Go Go.Proofs.Ytfioahnogphnfaa.Eng
noncomputable abbrev prog : Program := Go.Proofs.Try.prog

/-! f4: revetment/revetmentlaw12.PoolLeast -/
def tab4 : Nat → Cert := fun i => ⟨0, 0, 0, 0, 0, 0⟩
noncomputable def l4x0 (E : Env) : CT :=
  .seq (.seq (.reg [o 50 (sMov (X 9)),
    o 51 (sMov (X 6)),
    o 52 (sBin .lss .none (X 50) (X 51))])
  (.ite (X 52)
  (.skip)
  (.exit 0)))
  (.seq (.block 1 (.seq (.reg [o 55 (sMov (X 7)),
    o 56 (sMov (X 9)),
    o 57 (sIdxAddrS 1 (X 55) (X 56)),
    o 58 (sLoad 1 false (X 57)),
    o 59 (sMov (X 9)),
    o 60 (sBin .neq .none (X 58) (X 59))])
  (.ite (X 60)
  (.seq (.reg [o 4 (sMov (K (.bool false)))])
  (.ret))
  (.skip))))
  (.reg [o 53 (sMov (X 9)),
    o 54 (sBin .add .none (X 53) (K (.int .i64 1))),
    o 9 (sMov (X 54))]))
noncomputable def b4 (E : Env) : CT :=
  .seq (.reg [o 4 (sMov (K (.bool false)))])
  (.seq (.reg [o 14 (sMov (X 0)),
    o 15 (sConv (.int .i64) (X 14)),
    o 16 (sBin .rem .none (X 15) (K (.int .i64 201))),
    o 5 (sMov (X 16))])
  (.seq (.reg [o 17 (sMov (X 1)),
    o 18 (sConv (.int .i64) (X 17)),
    o 19 (sMov (X 5)),
    o 20 (sBin .add .none (X 19) (K (.int .i64 1))),
    o 21 (sBin .rem .none (X 18) (X 20)),
    o 6 (sMov (X 21))])
  (.seq (.reg [o 23 (sBuild [.nilSl, .nilSl, .int .i64 0, .int .i64 0, .int .i64 0, .nilSl] []),
    o 24 (sMov (X 5)),
    o 25 (sMov (X 6)),
    o 26 (sCall E 10 [(X 23), (X 24), (X 25)]),
    o 22 (sMov (X 26)),
    o 27 (sExtract (X 22) 0),
    o 28 (sExtract (X 22) 1),
    o 7 (sMov (X 27)),
    o 8 (sMov (X 28))])
  (.seq (.seq (.reg [o 29 (sMov (X 8)),
    o 30 (sBin .neq .none (X 29) (K (.int .i64 0))),
    o 31 (sMov (X 30)),
    og 31 false 32 (sMov (X 7)),
    og 31 false 33 (sLenSl (X 32)),
    og 31 false 34 (sMov (X 6)),
    og 31 false 35 (sBin .neq .none (X 33) (X 34)),
    o 36 (sPick (X 31) (K (.bool true)) (X 35)),
    o 37 (sMov (X 36)),
    og 37 false 38 (sBuild [.nilSl, .nilSl, .int .i64 0, .int .i64 0, .int .i64 0, .nilSl] []),
    og 37 false 39 (sMov (X 5)),
    og 37 false 40 (sCall E 9 [(X 38), (X 39)]),
    og 37 false 41 (sMov (X 5)),
    og 37 false 42 (sBin .neq .none (X 40) (X 41)),
    o 43 (sPick (X 37) (K (.bool true)) (X 42)),
    o 44 (sMov (X 43)),
    og 44 false 45 (sBuild [.nilSl, .nilSl, .int .i64 0, .int .i64 0, .int .i64 0, .nilSl] []),
    og 44 false 46 (sCall E 8 [(X 45)]),
    og 44 false 47 (sLenSl (X 46)),
    og 44 false 48 (sBin .neq .none (X 47) (K (.int .i64 0))),
    o 49 (sPick (X 44) (K (.bool true)) (X 48))])
  (.ite (X 49)
  (.seq (.reg [o 4 (sMov (K (.bool false)))])
  (.ret))
  (.skip)))
  (.seq (.seq (.reg [o 9 (sMov (K (.int .i64 0)))])
  (.block 0 (.loop (l4x0 E))))
  (.seq (.reg [o 62 (sBuild [.nilSl, .nilSl, .int .i64 0, .int .i64 0, .int .i64 0, .nilSl] []),
    o 63 (sMov (X 5)),
    o 64 (sMov (X 5)),
    o 65 (sBin .add .none (X 64) (K (.int .i64 1))),
    o 66 (sCall E 10 [(X 62), (X 63), (X 65)]),
    o 61 (sMov (X 66)),
    o 67 (sExtract (X 61) 0),
    o 68 (sExtract (X 61) 1),
    o 10 (sMov (X 67)),
    o 11 (sMov (X 68))])
  (.seq (.reg [o 70 (sBuild [.nilSl, .nilSl, .int .i64 0, .int .i64 0, .int .i64 0, .nilSl] []),
    o 71 (sMov (X 5)),
    o 72 (sCall E 10 [(X 70), (X 71), (K (.int .i64 (-1)))]),
    o 69 (sMov (X 72)),
    o 73 (sExtract (X 69) 0),
    o 74 (sExtract (X 69) 1),
    o 12 (sMov (X 73)),
    o 13 (sMov (X 74))])
  (.seq (.reg [o 75 (sMov (X 10)),
    o 76 (sLenSl (X 75)),
    o 77 (sBin .eql .none (X 76) (K (.int .i64 0))),
    o 78 (sMov (X 77)),
    og 78 true 79 (sMov (X 11)),
    og 78 true 80 (sBin .eql .none (X 79) (K (.int .i64 12))),
    o 81 (sPick (X 78) (X 80) (K (.bool false))),
    o 82 (sMov (X 81)),
    og 82 true 83 (sMov (X 12)),
    og 82 true 84 (sLenSl (X 83)),
    og 82 true 85 (sBin .eql .none (X 84) (K (.int .i64 0))),
    o 86 (sPick (X 82) (X 85) (K (.bool false))),
    o 87 (sMov (X 86)),
    og 87 true 88 (sMov (X 13)),
    og 87 true 89 (sBin .eql .none (X 88) (K (.int .i64 1))),
    o 90 (sPick (X 87) (X 89) (K (.bool false))),
    o 91 (sMov (X 90)),
    og 91 true 92 (sCall E 7 []),
    o 93 (sPick (X 91) (X 92) (K (.bool false))),
    o 4 (sMov (X 93))])
  (.ret)))))))))
theorem c4 (args : T) (h : AHeap) : (envL prog).call 4 args h = trim h (fin [.tmp 4] (runC (envL prog) (b4 (envL prog)) (args ++ List.replicate (94 - args.length) .undef) h)) :=
  call_tr (fn := Go.Proofs.Try.f4) tab4 (by kernel_rfl) (by rfl) (by kernel_rfl) (fun t h => by kernel_rfl) rfl args h
theorem d4 (E : Env) (args : T) (h : AHeap) : callBody prog E 4 args h = trim h (fin [.tmp 4] (runC E (b4 E) (args ++ List.replicate (94 - args.length) .undef) h)) :=
  body_tr (fn := Go.Proofs.Try.f4) tab4 (by kernel_rfl) (by rfl) (by kernel_rfl) (fun t h => by kernel_rfl) rfl args h
/-! f8: revetment/pool.Used -/
def tab8 : Nat → Cert := fun i => ⟨0, 0, 0, 0, 0, 0⟩
noncomputable def l8x0 (E : Env) : CT :=
  .seq (.reg [o 21 (sBin .lss .none (X 20) (X 19))])
  (.seq (.ite (X 21)
  (.skip)
  (.exit 2))
  (.seq (.block 3 (.seq (.reg [o 22 (sIdxAddrS 2 (X 18) (X 20)),
    o 23 (sLoad 2 true (X 22)),
    o 7 (sAlloc [.int .i64 0, .int .i64 0]),
    u (sStore 2 (X 7) (X 23))])
  (.reg [o 24 (sMov (X 3)),
    o 25 (sFieldAddr 1 (X 7)),
    o 26 (sLoad 1 false (X 25)),
    o 27 (sBuildSl 1 1 [.int .i64 0] [(0, 1, (X 26))]),
    o 28 (sApp (ty 1 false 8 [.int .i64 0]) (X 24) (X 27)),
    o 3 (sMov (X 28))])))
  (.reg [o 29 (sBin .add .none (X 20) (K (.int .i64 1))),
    o 20 (sMov (X 29))])))
noncomputable def l8x1 (E : Env) : CT :=
  .seq (.reg [o 14 (sBin .lss .none (X 13) (X 12))])
  (.seq (.ite (X 14)
  (.skip)
  (.exit 0))
  (.seq (.block 1 (.seq (.reg [o 15 (sIdxAddrS 3 (X 11) (X 13)),
    o 16 (sLoad 3 true (X 15)),
    o 5 (sAlloc [.int .i64 0, .nilSl, .nilSl]),
    u (sStore 3 (X 5) (X 16))])
  (.seq (.reg [o 17 (sFieldAddr 2 (X 5)),
    o 18 (sLoad 1 false (X 17)),
    o 19 (sLenSl (X 18)),
    o 20 (sMov (K (.int .i64 0)))])
  (.block 2 (.loop (l8x0 E))))))
  (.reg [o 30 (sBin .add .none (X 13) (K (.int .i64 1))),
    o 13 (sMov (X 30))])))
noncomputable def l8x2 (E : Env) : CT :=
  .seq (.reg [o 36 (sBin .lss .none (X 35) (X 34))])
  (.seq (.ite (X 36)
  (.skip)
  (.exit 4))
  (.seq (.block 5 (.seq (.reg [o 37 (sIdxAddrS 2 (X 33) (X 35)),
    o 38 (sLoad 2 true (X 37)),
    o 9 (sAlloc [.int .i64 0, .int .i64 0]),
    u (sStore 2 (X 9) (X 38))])
  (.seq (.reg [o 39 (sFieldAddr 1 (X 9)),
    o 40 (sLoad 1 false (X 39)),
    o 41 (sBin .neq .none (X 40) (K (.int .i64 255)))])
  (.ite (X 41)
  (.reg [o 42 (sMov (X 3)),
    o 43 (sFieldAddr 1 (X 9)),
    o 44 (sLoad 1 false (X 43)),
    o 45 (sBuildSl 1 1 [.int .i64 0] [(0, 1, (X 44))]),
    o 46 (sApp (ty 1 false 8 [.int .i64 0]) (X 42) (X 45)),
    o 3 (sMov (X 46))])
  (.skip)))))
  (.reg [o 47 (sBin .add .none (X 35) (K (.int .i64 1))),
    o 35 (sMov (X 47))])))
noncomputable def b8 (E : Env) : CT :=
  .seq (.reg [o 1 (sBox (X 0)),
    o 2 (sMov (K (.nilSl)))])
  (.seq (.reg [o 3 (sMov (K (.nilSl)))])
  (.seq (.seq (.reg [o 10 (sFieldAddr 1 (X 1)),
    o 11 (sLoad 1 false (X 10)),
    o 12 (sLenSl (X 11)),
    o 13 (sMov (K (.int .i64 0)))])
  (.block 0 (.loop (l8x1 E))))
  (.seq (.seq (.reg [o 31 (sFieldAddr 3 (X 1)),
    o 32 (sFieldAddr 2 (X 31)),
    o 33 (sLoad 1 false (X 32)),
    o 34 (sLenSl (X 33)),
    o 35 (sMov (K (.int .i64 0)))])
  (.block 4 (.loop (l8x2 E))))
  (.seq (.reg [o 48 (sMov (X 3)),
    o 49 (sCall E 15 [(X 48)])])
  (.seq (.reg [o 50 (sMov (X 3)),
    o 51 (sCall E 16 [(X 50)]),
    o 2 (sMov (X 51))])
  (.ret))))))
theorem c8 (args : T) (h : AHeap) : (envL prog).call 8 args h = trim h (fin [.tmp 2] (runC (envL prog) (b8 (envL prog)) (args ++ List.replicate (52 - args.length) .undef) h)) :=
  call_tr (fn := Go.Proofs.Try.f8) tab8 (by kernel_rfl) (by rfl) (by kernel_rfl) (fun t h => by kernel_rfl) rfl args h
/-! f9: revetment/pool.Free -/
def tab9 : Nat → Cert := fun i => ⟨0, 0, 0, 0, 0, 0⟩
noncomputable def l9x0 (E : Env) : CT :=
  .seq (.reg [o 15 (sBin .lss .none (X 14) (X 13))])
  (.seq (.ite (X 15)
  (.skip)
  (.exit 0))
  (.seq (.block 1 (.seq (.reg [o 16 (sIdxAddrS 1 (X 12) (X 14)),
    o 17 (sLoad 1 false (X 16)),
    o 7 (sMov (X 17))])
  (.seq (.reg [o 18 (sMov (X 7)),
    o 19 (sBin .geq .none (X 18) (K (.int .i64 0))),
    o 20 (sMov (X 19)),
    og 20 true 21 (sMov (X 7)),
    og 20 true 22 (sMov (X 1)),
    og 20 true 23 (sBin .lss .none (X 21) (X 22)),
    o 24 (sPick (X 20) (X 23) (K (.bool false)))])
  (.ite (X 24)
  (.reg [o 25 (sMov (X 5)),
    o 26 (sBin .sub .none (X 25) (K (.int .i64 1))),
    o 5 (sMov (X 26))])
  (.skip)))))
  (.reg [o 27 (sBin .add .none (X 14) (K (.int .i64 1))),
    o 14 (sMov (X 27))])))
noncomputable def b9 (E : Env) : CT :=
  .seq (.reg [o 2 (sBox (X 0)),
    o 4 (sMov (K (.int .i64 0)))])
  (.seq (.seq (.reg [o 8 (sMov (X 1)),
    o 9 (sBin .lss .none (X 8) (K (.int .i64 1)))])
  (.ite (X 9)
  (.seq (.reg [o 4 (sMov (K (.int .i64 0)))])
  (.ret))
  (.skip)))
  (.seq (.reg [o 10 (sMov (X 1)),
    o 5 (sMov (X 10))])
  (.seq (.seq (.reg [o 11 (sLoad 6 true (X 2)),
    o 12 (sCall E 8 [(X 11)]),
    o 13 (sLenSl (X 12)),
    o 14 (sMov (K (.int .i64 0)))])
  (.block 0 (.loop (l9x0 E))))
  (.seq (.reg [o 28 (sMov (X 5)),
    o 4 (sMov (X 28))])
  (.ret)))))
theorem c9 (args : T) (h : AHeap) : (envL prog).call 9 args h = trim h (fin [.tmp 4] (runC (envL prog) (b9 (envL prog)) (args ++ List.replicate (29 - args.length) .undef) h)) :=
  call_tr (fn := Go.Proofs.Try.f9) tab9 (by kernel_rfl) (by rfl) (by kernel_rfl) (fun t h => by kernel_rfl) rfl args h
/-! f10: revetment/pool.Take -/
def tab10 : Nat → Cert := fun i => bif Nat.beq i 3 then ⟨6, 23, 25922371584, 33539227648, 174224583546189353451639427374625794818080, 747690861519511779272682397446963219⟩ else ⟨0, 0, 0, 0, 0, 0⟩
noncomputable def aq10x0 (E : Env) : CT :=
  .reg [o 9 (sMov (X 26))]
noncomputable def bq10x0 (E : Env) : CT :=
  .block 2 (.seq (.seq (.reg [o 27 (sLoad 1 false (X 8)),
    o 28 (sLenSl (X 27)),
    o 29 (sLoad 1 false (X 5)),
    o 30 (sBin .eql .none (X 28) (X 29))])
  (.ite (X 30)
  (.exit 1)
  (.skip)))
  (.reg [o 31 (sLoad 1 false (X 8)),
    o 32 (sMov (X 9)),
    o 33 (sBuildSl 1 1 [.int .i64 0] [(0, 1, (X 32))]),
    o 34 (sApp (ty 1 false 8 [.int .i64 0]) (X 31) (X 33)),
    u (sStore 1 (X 8) (X 34))]))
noncomputable def kaq10x0 : Code := (nthRange Go.Proofs.Try.f10 0).1
noncomputable def kbq10x0 : Code := (nthRange Go.Proofs.Try.f10 0).2
theorem eaq10x0 (E : Env) (t : T) (h : AHeap) : evalCode prog E kaq10x0 t h = runC E (aq10x0 E) t h := code_tr tab10 (by kernel_rfl) t h
theorem ebq10x0 (E : Env) (t : T) (h : AHeap) : evalCode prog E kbq10x0 t h = runC E (bq10x0 E) t h := code_tr tab10 (by kernel_rfl) t h
noncomputable def b10 (E : Env) : CT :=
  .seq (.reg [o 3 (sBox (X 0)),
    o 5 (sBox (X 2)),
    o 6 (sMov (K (.nilSl))),
    o 7 (sMov (K (.int .i64 0)))])
  (.seq (.block 0 (.seq (.reg [o 11 (sLoad 1 false (X 5)),
    o 12 (sBin .lss .none (X 11) (K (.int .i64 0))),
    o 13 (sMov (X 12)),
    og 13 false 14 (sLoad 1 false (X 5)),
    og 13 false 15 (sBin .gtr .none (X 14) (K (.int .i64 4096))),
    o 16 (sPick (X 13) (K (.bool true)) (X 15)),
    o 10 (sMov (X 16))])
  (.ite (X 10)
  (.seq (.reg [o 6 (sMov (K (.nilSl))),
    o 7 (sMov (K (.int .i64 1)))])
  (.ret))
  (.seq (.drw [.rd 0 (o 18 (sLoad 1 false (X 5))),
    .op (o 19 (sLoad 6 true (X 3))),
    .op (o 20 (sMov (X 1))),
    .hv 6 (o 21 (sCall E 9 [(X 19), (X 20)])),
    .op (o 22 (sBin .gtr .none (X 18) (X 21))),
    .op (o 17 (sMov (X 22)))])
  (.ite (X 17)
  (.seq (.reg [o 6 (sMov (K (.nilSl))),
    o 7 (sMov (K (.int .i64 12)))])
  (.ret))
  (.skip))))))
  (.seq (.reg [o 8 (sAlloc [.nilSl])])
  (.seq (.seq (.reg [o 23 (sLoad 6 true (X 3)),
    o 24 (sMov (X 1)),
    o 25 (sCall E 17 [(X 23), (X 24)])])
  (.block 1 (.range (X 25) [26] kaq10x0 kbq10x0)))
  (.seq (.reg [o 35 (sLoad 1 false (X 8)),
    o 6 (sMov (X 35)),
    o 7 (sMov (K (.int .i64 0)))])
  (.ret)))))
theorem c10 (args : T) (h : AHeap) : (envL prog).call 10 args h = trim h (fin [.tmp 6, .tmp 7] (runC (envL prog) (b10 (envL prog)) (args ++ List.replicate (36 - args.length) .undef) h)) :=
  call_tr (fn := Go.Proofs.Try.f10) tab10 (by kernel_rfl) (by rfl) (by kernel_rfl) (fun t h => by kernel_rfl) rfl args h
/-! f15: slices.Sort[[]int,int] -/
def tab15 : Nat → Cert := fun i => ⟨0, 0, 0, 0, 0, 0⟩
noncomputable def b15 (E : Env) : CT :=
  .seq (.reg [o 3 (sMov (X 0)),
    o 4 (sLenSl (X 3)),
    o 2 (sMov (X 4))])
  (.reg [o 5 (sMov (X 0)),
    o 6 (sMov (X 2)),
    o 7 (sMov (X 2)),
    o 8 (sConv (.int .u64) (X 7)),
    o 9 (sCall E 30 [(X 8)]),
    o 10 (sCall E 29 [(X 5), (K (.int .i64 0)), (X 6), (X 9)])])
theorem c15 (args : T) (h : AHeap) : (envL prog).call 15 args h = trim h (fin [] (runC (envL prog) (b15 (envL prog)) (args ++ List.replicate (11 - args.length) .undef) h)) :=
  call_tr (fn := Go.Proofs.Try.f15) tab15 (by kernel_rfl) (by rfl) (by kernel_rfl) (fun t h => by kernel_rfl) rfl args h
/-! f16: slices.Compact[[]int,int] -/
def tab16 : Nat → Cert := fun i => bif Nat.beq i 6 then ⟨10, 25, 326971007360474210652352675840, 632877634534691839980386385920, 932895263682960510679373386348352327327762612020585652427584328757984362497, 1401917266865285525169130149188584885931384520471265422282797254443025⟩ else bif Nat.beq i 11 then ⟨10, 44, 326971007360474210652352675840, 632877634534691839980386385920, 1463969598495830593511747798607698204145328610191351964684210808364695591188871615247655913539840576533047148171746442691451465760784, 7262577782119834064163686946268206428521138543820301156102815424411072455104353659169724590704609557155119228510162386980⟩ else ⟨0, 0, 0, 0, 0, 0⟩
noncomputable def l16x0 (E : Env) : CT :=
  .seq (.seq (.reg [o 29 (sMov (X 5)),
    o 30 (sMov (X 4)),
    o 31 (sLenSl (X 30)),
    o 32 (sBin .lss .none (X 29) (X 31))])
  (.ite (X 32)
  (.skip)
  (.exit 2)))
  (.seq (.block 3 (.seq (.drw [.op (o 35 (sMov (X 4))),
    .op (o 36 (sMov (X 5))),
    .op (o 37 (sIdxAddrS 1 (X 35) (X 36))),
    .op (o 38 (sLoad 1 false (X 37))),
    .op (o 39 (sMov (X 4))),
    .op (o 40 (sMov (X 5))),
    .op (o 41 (sBin .sub .none (X 40) (K (.int .i64 1)))),
    .op (o 42 (sIdxAddrS 1 (X 39) (X 41))),
    .op (o 43 (sLoad 1 false (X 42))),
    .op (o 44 (sBin .neq .none (X 38) (X 43)))])
  (.ite (X 44)
  (.seq (.reg [o 45 (sMov (X 0)),
    o 46 (sMov (X 3)),
    o 47 (sMov (X 4)),
    o 48 (sMov (X 5)),
    o 49 (sIdxAddrS 1 (X 47) (X 48)),
    o 50 (sLoad 1 false (X 49)),
    o 51 (sIdxAddrS 1 (X 45) (X 46)),
    u (sStore 1 (X 51) (X 50))])
  (.reg [o 52 (sMov (X 3)),
    o 53 (sBin .add .none (X 52) (K (.int .i64 1))),
    o 3 (sMov (X 53))]))
  (.skip))))
  (.reg [o 33 (sMov (X 5)),
    o 34 (sBin .add .none (X 33) (K (.int .i64 1))),
    o 5 (sMov (X 34))]))
noncomputable def l16x1 (E : Env) : CT :=
  .seq (.seq (.reg [o 10 (sMov (X 3)),
    o 11 (sMov (X 0)),
    o 12 (sLenSl (X 11)),
    o 13 (sBin .lss .none (X 10) (X 12))])
  (.ite (X 13)
  (.skip)
  (.exit 0)))
  (.seq (.block 1 (.seq (.drw [.op (o 16 (sMov (X 0))),
    .op (o 17 (sMov (X 3))),
    .op (o 18 (sIdxAddrS 1 (X 16) (X 17))),
    .op (o 19 (sLoad 1 false (X 18))),
    .op (o 20 (sMov (X 0))),
    .op (o 21 (sMov (X 3))),
    .op (o 22 (sBin .sub .none (X 21) (K (.int .i64 1)))),
    .op (o 23 (sIdxAddrS 1 (X 20) (X 22))),
    .op (o 24 (sLoad 1 false (X 23))),
    .op (o 25 (sBin .eql .none (X 19) (X 24)))])
  (.ite (X 25)
  (.seq (.reg [o 26 (sMov (X 0)),
    o 27 (sMov (X 3)),
    o 28 (sSliceS 1 (X 26) (some (X 27)) none none),
    o 4 (sMov (X 28))])
  (.seq (.seq (.reg [o 5 (sMov (K (.int .i64 1)))])
  (.block 2 (.loop (l16x0 E))))
  (.seq (.reg [o 54 (sMov (X 0)),
    o 55 (sMov (X 3)),
    o 56 (sSliceS 1 (X 54) (some (X 55)) none none),
    u (sNone)])
  (.seq (.reg [o 57 (sMov (X 0)),
    o 58 (sMov (X 3)),
    o 59 (sSliceS 1 (X 57) none (some (X 58)) none),
    o 2 (sMov (X 59))])
  (.ret)))))
  (.skip))))
  (.reg [o 14 (sMov (X 3)),
    o 15 (sBin .add .none (X 14) (K (.int .i64 1))),
    o 3 (sMov (X 15))]))
noncomputable def b16 (E : Env) : CT :=
  .seq (.reg [o 2 (sMov (K (.nilSl)))])
  (.seq (.seq (.reg [o 6 (sMov (X 0)),
    o 7 (sLenSl (X 6)),
    o 8 (sBin .lss .none (X 7) (K (.int .i64 2)))])
  (.ite (X 8)
  (.seq (.reg [o 9 (sMov (X 0)),
    o 2 (sMov (X 9))])
  (.ret))
  (.skip)))
  (.seq (.seq (.reg [o 3 (sMov (K (.int .i64 1)))])
  (.block 0 (.loop (l16x1 E))))
  (.seq (.reg [o 60 (sMov (X 0)),
    o 2 (sMov (X 60))])
  (.ret))))
theorem c16 (args : T) (h : AHeap) : (envL prog).call 16 args h = trim h (fin [.tmp 2] (runC (envL prog) (b16 (envL prog)) (args ++ List.replicate (61 - args.length) .undef) h)) :=
  call_tr (fn := Go.Proofs.Try.f16) tab16 (by kernel_rfl) (by rfl) (by kernel_rfl) (fun t h => by kernel_rfl) rfl args h
/-! f17: revetment/pool.free -/
def tab17 : Nat → Cert := fun i => ⟨0, 0, 0, 0, 0, 0⟩
noncomputable def b17 (E : Env) : CT :=
  .seq (.reg [o 2 (sBox (X 0)),
    o 3 (sBox (X 1)),
    o 4 (sMov (K (.nilFn)))])
  (.seq (.reg [o 5 (sFun 31 [(X 2), (X 3)]),
    o 4 (sMov (X 5))])
  (.ret))
theorem c17 (args : T) (h : AHeap) : (envL prog).call 17 args h = trim h (fin [.tmp 4] (runC (envL prog) (b17 (envL prog)) (args ++ List.replicate (6 - args.length) .undef) h)) :=
  call_tr (fn := Go.Proofs.Try.f17) tab17 (by kernel_rfl) (by rfl) (by kernel_rfl) (fun t h => by kernel_rfl) rfl args h
/-! f29: slices.pdqsortOrdered[int] -/
def tab29 : Nat → Cert := fun i => bif Nat.beq i 17 then ⟨15, 87, 13486761244082413762378515975735612260043688306219872821671368884224, 26958712494791488383720142756592452917767601679262219822304480755712, 349402776647554723329881169915251732964019104239957030687897554352002139604131409269703835559929757949618357684069129711657502635918973060875760099838211405127437679684424580155810756775653935115771833780548937088188256855942533458620980373461956001168425867778853881582954958516081106900795012862832326803309611714025077263252211617798762742530156338337185999857325616919175054692432218161154, 397207454918101186481993612508077718511594583053602520806666372614763890226965577329013009175863418993532511723974311411991327841489804674226574478076590101393729399927453664896240078400805533401791485016460172783421619379517698419541213211020583044061535971707769623735965272016050848132603734861394828559177117377412264723522443108998473709454566962910736770448490570⟩ else ⟨0, 0, 0, 0, 0, 0⟩
noncomputable def l29x0 (E : Env) : CT :=
  .block 1 (.seq (.reg [o 19 (sMov (X 2)),
    o 20 (sMov (X 1)),
    o 21 (sBin .sub .none (X 19) (X 20)),
    o 10 (sMov (X 21))])
  (.seq (.seq (.reg [o 22 (sMov (X 10)),
    o 23 (sBin .leq .none (X 22) (K (.int .i64 12)))])
  (.ite (X 23)
  (.seq (.reg [o 24 (sMov (X 0)),
    o 25 (sMov (X 1)),
    o 26 (sMov (X 2)),
    o 27 (sCall E 40 [(X 24), (X 25), (X 26)])])
  (.ret))
  (.skip)))
  (.seq (.seq (.reg [o 28 (sMov (X 3)),
    o 29 (sBin .eql .none (X 28) (K (.int .i64 0)))])
  (.ite (X 29)
  (.seq (.reg [o 30 (sMov (X 0)),
    o 31 (sMov (X 1)),
    o 32 (sMov (X 2)),
    o 33 (sCall E 41 [(X 30), (X 31), (X 32)])])
  (.ret))
  (.skip)))
  (.seq (.seq (.reg [o 34 (sMov (X 8)),
    o 35 (sUn .not (X 34))])
  (.ite (X 35)
  (.seq (.reg [o 36 (sMov (X 0)),
    o 37 (sMov (X 1)),
    o 38 (sMov (X 2)),
    o 39 (sCall E 42 [(X 36), (X 37), (X 38)])])
  (.reg [o 40 (sMov (X 3)),
    o 41 (sBin .sub .none (X 40) (K (.int .i64 1))),
    o 3 (sMov (X 41))]))
  (.skip)))
  (.seq (.reg [o 43 (sMov (X 0)),
    o 44 (sMov (X 1)),
    o 45 (sMov (X 2)),
    o 46 (sCall E 43 [(X 43), (X 44), (X 45)]),
    o 42 (sMov (X 46)),
    o 47 (sExtract (X 42) 0),
    o 48 (sExtract (X 42) 1),
    o 11 (sMov (X 47)),
    o 12 (sMov (X 48))])
  (.seq (.seq (.reg [o 49 (sMov (X 12)),
    o 50 (sBin .eql .none (X 49) (K (.int .i64 2)))])
  (.ite (X 50)
  (.seq (.reg [o 51 (sMov (X 0)),
    o 52 (sMov (X 1)),
    o 53 (sMov (X 2)),
    o 54 (sCall E 44 [(X 51), (X 52), (X 53)])])
  (.seq (.reg [o 55 (sMov (X 2)),
    o 56 (sBin .sub .none (X 55) (K (.int .i64 1))),
    o 57 (sMov (X 11)),
    o 58 (sMov (X 1)),
    o 59 (sBin .sub .none (X 57) (X 58)),
    o 60 (sBin .sub .none (X 56) (X 59)),
    o 11 (sMov (X 60))])
  (.reg [o 12 (sMov (K (.int .i64 1)))])))
  (.skip)))
  (.seq (.seq (.reg [o 61 (sMov (X 8)),
    o 62 (sMov (X 61)),
    og 62 true 63 (sMov (X 9)),
    o 64 (sPick (X 62) (X 63) (K (.bool false))),
    o 65 (sMov (X 64)),
    og 65 true 66 (sMov (X 12)),
    og 65 true 67 (sBin .eql .none (X 66) (K (.int .i64 1))),
    o 68 (sPick (X 65) (X 67) (K (.bool false)))])
  (.ite (X 68)
  (.seq (.reg [o 69 (sMov (X 0)),
    o 70 (sMov (X 1)),
    o 71 (sMov (X 2)),
    o 72 (sCall E 45 [(X 69), (X 70), (X 71)])])
  (.ite (X 72)
  (.ret)
  (.skip)))
  (.skip)))
  (.seq (.seq (.drw [.op (o 73 (sMov (X 1))),
    .op (o 74 (sBin .gtr .none (X 73) (K (.int .i64 0)))),
    .op (o 75 (sMov (X 74))),
    .op (og 75 true 76 (sMov (X 0))),
    .op (og 75 true 77 (sMov (X 1))),
    .op (og 75 true 78 (sBin .sub .none (X 77) (K (.int .i64 1)))),
    .op (og 75 true 79 (sIdxAddrS 1 (X 76) (X 78))),
    .op (og 75 true 80 (sLoad 1 false (X 79))),
    .op (og 75 true 81 (sMov (X 0))),
    .op (og 75 true 82 (sMov (X 11))),
    .op (og 75 true 83 (sIdxAddrS 1 (X 81) (X 82))),
    .op (og 75 true 84 (sLoad 1 false (X 83))),
    .hv 4095 (og 75 true 85 (sCall E 46 [(X 80), (X 84)])),
    .op (og 75 true 86 (sUn .not (X 85))),
    .op (o 87 (sPick (X 75) (X 86) (K (.bool false))))])
  (.ite (X 87)
  (.seq (.reg [o 88 (sMov (X 0)),
    o 89 (sMov (X 1)),
    o 90 (sMov (X 2)),
    o 91 (sMov (X 11)),
    o 92 (sCall E 47 [(X 88), (X 89), (X 90), (X 91)]),
    o 13 (sMov (X 92))])
  (.seq (.reg [o 93 (sMov (X 13)),
    o 1 (sMov (X 93))])
  (.exit 1)))
  (.skip)))
  (.seq (.reg [o 95 (sMov (X 0)),
    o 96 (sMov (X 1)),
    o 97 (sMov (X 2)),
    o 98 (sMov (X 11)),
    o 99 (sCall E 48 [(X 95), (X 96), (X 97), (X 98)]),
    o 94 (sMov (X 99)),
    o 100 (sExtract (X 94) 0),
    o 101 (sExtract (X 94) 1),
    o 14 (sMov (X 100)),
    o 15 (sMov (X 101))])
  (.seq (.reg [o 102 (sMov (X 15)),
    o 9 (sMov (X 102))])
  (.seq (.reg [o 103 (sMov (X 14)),
    o 104 (sMov (X 1)),
    o 105 (sBin .sub .none (X 103) (X 104)),
    o 106 (sMov (X 2)),
    o 107 (sMov (X 14)),
    o 108 (sBin .sub .none (X 106) (X 107)),
    o 16 (sMov (X 105)),
    o 17 (sMov (X 108))])
  (.seq (.reg [o 109 (sMov (X 10)),
    o 110 (sBin .quo .none (X 109) (K (.int .i64 8))),
    o 18 (sMov (X 110))])
  (.seq (.reg [o 111 (sMov (X 16)),
    o 112 (sMov (X 17)),
    o 113 (sBin .lss .none (X 111) (X 112))])
  (.ite (X 113)
  (.seq (.reg [o 114 (sMov (X 16)),
    o 115 (sMov (X 18)),
    o 116 (sBin .geq .none (X 114) (X 115)),
    o 8 (sMov (X 116))])
  (.seq (.reg [o 117 (sMov (X 0)),
    o 118 (sMov (X 1)),
    o 119 (sMov (X 14)),
    o 120 (sMov (X 3)),
    o 121 (sCall E 29 [(X 117), (X 118), (X 119), (X 120)])])
  (.reg [o 122 (sMov (X 14)),
    o 123 (sBin .add .none (X 122) (K (.int .i64 1))),
    o 1 (sMov (X 123))])))
  (.seq (.reg [o 124 (sMov (X 17)),
    o 125 (sMov (X 18)),
    o 126 (sBin .geq .none (X 124) (X 125)),
    o 8 (sMov (X 126))])
  (.seq (.reg [o 127 (sMov (X 0)),
    o 128 (sMov (X 14)),
    o 129 (sBin .add .none (X 128) (K (.int .i64 1))),
    o 130 (sMov (X 2)),
    o 131 (sMov (X 3)),
    o 132 (sCall E 29 [(X 127), (X 129), (X 130), (X 131)])])
  (.reg [o 133 (sMov (X 14)),
    o 2 (sMov (X 133))])))))))))))))))))
noncomputable def b29 (E : Env) : CT :=
  .seq (.reg [o 8 (sMov (K (.bool true)))])
  (.seq (.reg [o 9 (sMov (K (.bool true)))])
  (.block 0 (.loop (l29x0 E))))
theorem c29 (args : T) (h : AHeap) : (envL prog).call 29 args h = trim h (fin [] (runC (envL prog) (b29 (envL prog)) (args ++ List.replicate (134 - args.length) .undef) h)) :=
  call_tr (fn := Go.Proofs.Try.f29) tab29 (by kernel_rfl) (by rfl) (by kernel_rfl) (fun t h => by kernel_rfl) rfl args h
/-! f30: math/bits.Len -/
def tab30 : Nat → Cert := fun i => ⟨0, 0, 0, 0, 0, 0⟩
noncomputable def b30 (E : Env) : CT :=
  .seq (.reg [o 2 (sMov (K (.int .i64 0)))])
  (.seq (.ite (K (.bool false))
  (.seq (.reg [o 3 (sMov (X 0)),
    o 4 (sConv (.int .u32) (X 3)),
    o 5 (sCall E 49 [(X 4)]),
    o 2 (sMov (X 5))])
  (.ret))
  (.skip))
  (.seq (.reg [o 6 (sMov (X 0)),
    o 7 (sCall E 50 [(X 6)]),
    o 2 (sMov (X 7))])
  (.ret)))
theorem c30 (args : T) (h : AHeap) : (envL prog).call 30 args h = trim h (fin [.tmp 2] (runC (envL prog) (b30 (envL prog)) (args ++ List.replicate (8 - args.length) .undef) h)) :=
  call_tr (fn := Go.Proofs.Try.f30) tab30 (by kernel_rfl) (by rfl) (by kernel_rfl) (fun t h => by kernel_rfl) rfl args h
/-! f31: revetment/pool.free$1 -/
def tab31 : Nat → Cert := fun i => ⟨0, 0, 0, 0, 0, 0⟩
noncomputable def l31x0 (E : Env) : CT :=
  .seq (.seq (.reg [o 10 (sMov (X 5)),
    o 11 (sLoad 1 false (X 2)),
    o 12 (sBin .lss .none (X 10) (X 11))])
  (.ite (X 12)
  (.skip)
  (.exit 0)))
  (.seq (.block 1 (.seq (.reg [o 16 (sMov (X 4)),
    o 17 (sMov (X 5)),
    o 18 (sCall E 32 [(X 16), (X 17)]),
    o 15 (sMov (X 18)),
    o 19 (sExtract (X 15) 0),
    o 20 (sExtract (X 15) 1),
    o 6 (sMov (X 19)),
    o 7 (sMov (X 20))])
  (.seq (.reg [o 21 (sMov (X 7)),
    o 22 (sUn .not (X 21)),
    o 23 (sMov (X 22)),
    og 23 true 24 (sMov (X 0)),
    og 23 true 25 (sMov (X 5)),
    og 23 true 26 (sCallV E (X 24) [(X 25)]),
    og 23 true 27 (sUn .not (X 26)),
    o 28 (sPick (X 23) (X 27) (K (.bool false)))])
  (.ite (X 28)
  (.ret)
  (.skip)))))
  (.reg [o 13 (sMov (X 5)),
    o 14 (sBin .add .none (X 13) (K (.int .i64 1))),
    o 5 (sMov (X 14))]))
noncomputable def b31 (E : Env) : CT :=
  .seq (.reg [o 8 (sLoad 6 true (X 1)),
    o 9 (sCall E 8 [(X 8)]),
    o 4 (sMov (X 9))])
  (.seq (.reg [o 5 (sMov (K (.int .i64 0)))])
  (.block 0 (.loop (l31x0 E))))
theorem c31 (args : T) (h : AHeap) : (envL prog).call 31 args h = trim h (fin [] (runC (envL prog) (b31 (envL prog)) (args ++ List.replicate (29 - args.length) .undef) h)) :=
  call_tr (fn := Go.Proofs.Try.f31) tab31 (by kernel_rfl) (by rfl) (by kernel_rfl) (fun t h => by kernel_rfl) rfl args h
/-! f32: slices.BinarySearch[[]int,int] -/
def tab32 : Nat → Cert := fun i => ⟨0, 0, 0, 0, 0, 0⟩
noncomputable def l32x0 (E : Env) : CT :=
  .seq (.seq (.reg [o 13 (sMov (X 7)),
    o 14 (sMov (X 8)),
    o 15 (sBin .lss .none (X 13) (X 14))])
  (.ite (X 15)
  (.skip)
  (.exit 0)))
  (.block 1 (.seq (.reg [o 16 (sMov (X 7)),
    o 17 (sMov (X 8)),
    o 18 (sBin .add .none (X 16) (X 17)),
    o 19 (sConv (.int .u64) (X 18)),
    o 20 (sBin .shr .none (X 19) (K (.int .u64 1))),
    o 21 (sConv (.int .i64) (X 20)),
    o 9 (sMov (X 21))])
  (.seq (.reg [o 22 (sMov (X 0)),
    o 23 (sMov (X 9)),
    o 24 (sIdxAddrS 1 (X 22) (X 23)),
    o 25 (sLoad 1 false (X 24)),
    o 26 (sMov (X 1)),
    o 27 (sCall E 46 [(X 25), (X 26)])])
  (.ite (X 27)
  (.reg [o 28 (sMov (X 9)),
    o 29 (sBin .add .none (X 28) (K (.int .i64 1))),
    o 7 (sMov (X 29))])
  (.reg [o 30 (sMov (X 9)),
    o 8 (sMov (X 30))])))))
noncomputable def b32 (E : Env) : CT :=
  .seq (.reg [o 4 (sMov (K (.int .i64 0))),
    o 5 (sMov (K (.bool false)))])
  (.seq (.reg [o 10 (sMov (X 0)),
    o 11 (sLenSl (X 10)),
    o 6 (sMov (X 11))])
  (.seq (.reg [o 12 (sMov (X 6)),
    o 7 (sMov (K (.int .i64 0))),
    o 8 (sMov (X 12))])
  (.seq (.block 0 (.loop (l32x0 E)))
  (.seq (.reg [o 31 (sMov (X 7)),
    o 32 (sMov (X 7)),
    o 33 (sMov (X 6)),
    o 34 (sBin .lss .none (X 32) (X 33)),
    o 35 (sMov (X 34)),
    og 35 true 36 (sMov (X 0)),
    og 35 true 37 (sMov (X 7)),
    og 35 true 38 (sIdxAddrS 1 (X 36) (X 37)),
    og 35 true 39 (sLoad 1 false (X 38)),
    og 35 true 40 (sMov (X 1)),
    og 35 true 41 (sBin .eql .none (X 39) (X 40)),
    og 35 true 42 (sMov (X 41)),
    og 42 false 43 (sMov (X 0)),
    og 42 false 44 (sMov (X 7)),
    og 42 false 45 (sIdxAddrS 1 (X 43) (X 44)),
    og 42 false 46 (sLoad 1 false (X 45)),
    og 42 false 47 (sCall E 51 [(X 46)]),
    og 42 false 48 (sMov (X 47)),
    og 48 true 49 (sMov (X 1)),
    og 48 true 50 (sCall E 51 [(X 49)]),
    og 42 false 51 (sPick (X 48) (X 50) (K (.bool false))),
    og 35 true 52 (sPick (X 42) (K (.bool true)) (X 51)),
    o 53 (sPick (X 35) (X 52) (K (.bool false))),
    o 4 (sMov (X 31)),
    o 5 (sMov (X 53))])
  (.ret)))))
theorem c32 (args : T) (h : AHeap) : (envL prog).call 32 args h = trim h (fin [.tmp 4, .tmp 5] (runC (envL prog) (b32 (envL prog)) (args ++ List.replicate (54 - args.length) .undef) h)) :=
  call_tr (fn := Go.Proofs.Try.f32) tab32 (by kernel_rfl) (by rfl) (by kernel_rfl) (fun t h => by kernel_rfl) rfl args h
/-! f40: slices.insertionSortOrdered[int] -/
def tab40 : Nat → Cert := fun i => bif Nat.beq i 4 then ⟨15, 30, 13493349890741113867148608593403304040401601063256115125701553684480, 26958712494423689827702791507966296191899655341395297606068678426624, 1455097056174000853603282143978836523292350313453054640654737514099225920057876472439661826222133513621319003806068228322417323328667776, 83938242768762458065703533202029076503246494129503209367457527616773083876564378012684264468245426706026742549450737647544696849⟩ else bif Nat.beq i 6 then ⟨18, 49, 17087798509191605139220260804600306928744705717746765506608052722898532744533862217887759638462464, 17087798509205203873340781695073508074300091633574987627131312269651700819188781055633792163643392, 20152837033678636429235925583374161711804908903013241079996337227214460091663731122520278367577433049655866957348674821554375855220672117220314848271966852008366797477774852051147867760545890092698199655675761434307620396110109188692884993492739289395217118347132929, 4985545459153943777922252468053460360003516346184065342350780691311350137702630428365436385956263407239453380561541296108380420575289873656251867823416875458020667073880103768170738181834794197627535684676486050563088014992245800665350178⟩ else ⟨0, 0, 0, 0, 0, 0⟩
noncomputable def l40x0 (E : Env) : CT :=
  .seq (.seq (.drw [.op (o 16 (sMov (X 7))),
    .op (o 17 (sMov (X 1))),
    .op (o 18 (sBin .gtr .none (X 16) (X 17))),
    .op (o 19 (sMov (X 18))),
    .op (og 19 true 20 (sMov (X 0))),
    .op (og 19 true 21 (sMov (X 7))),
    .op (og 19 true 22 (sIdxAddrS 1 (X 20) (X 21))),
    .op (og 19 true 23 (sLoad 1 false (X 22))),
    .op (og 19 true 24 (sMov (X 0))),
    .op (og 19 true 25 (sMov (X 7))),
    .op (og 19 true 26 (sBin .sub .none (X 25) (K (.int .i64 1)))),
    .op (og 19 true 27 (sIdxAddrS 1 (X 24) (X 26))),
    .op (og 19 true 28 (sLoad 1 false (X 27))),
    .hv 8191 (og 19 true 29 (sCall E 46 [(X 23), (X 28)])),
    .op (o 30 (sPick (X 19) (X 29) (K (.bool false))))])
  (.ite (X 30)
  (.skip)
  (.exit 2)))
  (.seq (.block 3 (.drw [.op (o 33 (sMov (X 0))),
    .op (o 34 (sMov (X 7))),
    .op (o 35 (sMov (X 0))),
    .op (o 36 (sMov (X 7))),
    .op (o 37 (sBin .sub .none (X 36) (K (.int .i64 1)))),
    .op (o 38 (sMov (X 0))),
    .op (o 39 (sMov (X 7))),
    .op (o 40 (sBin .sub .none (X 39) (K (.int .i64 1)))),
    .op (o 41 (sIdxAddrS 1 (X 38) (X 40))),
    .op (o 42 (sLoad 1 false (X 41))),
    .op (o 43 (sMov (X 0))),
    .op (o 44 (sMov (X 7))),
    .op (o 45 (sIdxAddrS 1 (X 43) (X 44))),
    .op (o 46 (sLoad 1 false (X 45))),
    .op (o 47 (sIdxAddrS 1 (X 33) (X 34))),
    .hv 32739 (u (sStore 1 (X 47) (X 42))),
    .op (o 48 (sIdxAddrS 1 (X 35) (X 37))),
    .hv 131071 (u (sStore 1 (X 48) (X 46)))]))
  (.reg [o 31 (sMov (X 7)),
    o 32 (sBin .sub .none (X 31) (K (.int .i64 1))),
    o 7 (sMov (X 32))]))
noncomputable def l40x1 (E : Env) : CT :=
  .seq (.seq (.reg [o 10 (sMov (X 6)),
    o 11 (sMov (X 2)),
    o 12 (sBin .lss .none (X 10) (X 11))])
  (.ite (X 12)
  (.skip)
  (.exit 0)))
  (.seq (.block 1 (.seq (.reg [o 15 (sMov (X 6)),
    o 7 (sMov (X 15))])
  (.block 2 (.loop (l40x0 E)))))
  (.reg [o 13 (sMov (X 6)),
    o 14 (sBin .add .none (X 13) (K (.int .i64 1))),
    o 6 (sMov (X 14))]))
noncomputable def b40 (E : Env) : CT :=
  .seq (.reg [o 8 (sMov (X 1)),
    o 9 (sBin .add .none (X 8) (K (.int .i64 1))),
    o 6 (sMov (X 9))])
  (.block 0 (.loop (l40x1 E)))
theorem c40 (args : T) (h : AHeap) : (envL prog).call 40 args h = trim h (fin [] (runC (envL prog) (b40 (envL prog)) (args ++ List.replicate (49 - args.length) .undef) h)) :=
  call_tr (fn := Go.Proofs.Try.f40) tab40 (by kernel_rfl) (by rfl) (by kernel_rfl) (fun t h => by kernel_rfl) rfl args h
/-! f41: slices.heapSortOrdered[int] -/
def tab41 : Nat → Cert := fun i => bif Nat.beq i 10 then ⟨20, 51, 1291123092072294509569753175756534561963669231326633831035548762268908526393761719291065692990471817259949485013180874752, 1291123092072358727592243943083882076029332780186931769856990154453209880754924112549268120877351593505537841736007548928, 7022238808055921515252815792946761569154046137941022113639471246244473205640641716237496264671079600731032071311359659556634315751505129648974307551053165259068711440263192493443031795840309329071439040161316273173291164310809300939757530647335595878827190148578181830980034816160292049084452790780320284673, 113007221121142709557266812630980598457903458880107519055806781581460517903049012328712496775300432545362556611493481508322604214298475326552580395898053068565104515918515814721518996324315285787906834432979017911085374490525202217213346252135472415841703605329823495991400071202⟩ else ⟨0, 0, 0, 0, 0, 0⟩
noncomputable def l41x0 (E : Env) : CT :=
  .seq (.seq (.reg [o 18 (sMov (X 9)),
    o 19 (sBin .geq .none (X 18) (K (.int .i64 0)))])
  (.ite (X 19)
  (.skip)
  (.exit 0)))
  (.seq (.block 1 (.reg [o 22 (sMov (X 0)),
    o 23 (sMov (X 9)),
    o 24 (sMov (X 8)),
    o 25 (sMov (X 6)),
    o 26 (sCall E 55 [(X 22), (X 23), (X 24), (X 25)])]))
  (.reg [o 20 (sMov (X 9)),
    o 21 (sBin .sub .none (X 20) (K (.int .i64 1))),
    o 9 (sMov (X 21))]))
noncomputable def l41x1 (E : Env) : CT :=
  .seq (.seq (.reg [o 29 (sMov (X 10)),
    o 30 (sBin .geq .none (X 29) (K (.int .i64 0)))])
  (.ite (X 30)
  (.skip)
  (.exit 2)))
  (.seq (.block 3 (.seq (.drw [.op (o 33 (sMov (X 0))),
    .op (o 34 (sMov (X 6))),
    .op (o 35 (sMov (X 0))),
    .op (o 36 (sMov (X 6))),
    .op (o 37 (sMov (X 10))),
    .op (o 38 (sBin .add .none (X 36) (X 37))),
    .op (o 39 (sMov (X 0))),
    .op (o 40 (sMov (X 6))),
    .op (o 41 (sMov (X 10))),
    .op (o 42 (sBin .add .none (X 40) (X 41))),
    .op (o 43 (sIdxAddrS 1 (X 39) (X 42))),
    .op (o 44 (sLoad 1 false (X 43))),
    .op (o 45 (sMov (X 0))),
    .op (o 46 (sMov (X 6))),
    .op (o 47 (sIdxAddrS 1 (X 45) (X 46))),
    .op (o 48 (sLoad 1 false (X 47))),
    .op (o 49 (sIdxAddrS 1 (X 33) (X 34))),
    .hv 131011 (u (sStore 1 (X 49) (X 44))),
    .op (o 50 (sIdxAddrS 1 (X 35) (X 38))),
    .hv 524287 (u (sStore 1 (X 50) (X 48)))])
  (.reg [o 51 (sMov (X 0)),
    o 52 (sMov (X 7)),
    o 53 (sMov (X 10)),
    o 54 (sMov (X 6)),
    o 55 (sCall E 55 [(X 51), (X 52), (X 53), (X 54)])])))
  (.reg [o 31 (sMov (X 10)),
    o 32 (sBin .sub .none (X 31) (K (.int .i64 1))),
    o 10 (sMov (X 32))]))
noncomputable def b41 (E : Env) : CT :=
  .seq (.reg [o 11 (sMov (X 1)),
    o 6 (sMov (X 11))])
  (.seq (.reg [o 7 (sMov (K (.int .i64 0)))])
  (.seq (.reg [o 12 (sMov (X 2)),
    o 13 (sMov (X 1)),
    o 14 (sBin .sub .none (X 12) (X 13)),
    o 8 (sMov (X 14))])
  (.seq (.seq (.reg [o 15 (sMov (X 8)),
    o 16 (sBin .sub .none (X 15) (K (.int .i64 1))),
    o 17 (sBin .quo .none (X 16) (K (.int .i64 2))),
    o 9 (sMov (X 17))])
  (.block 0 (.loop (l41x0 E))))
  (.seq (.reg [o 27 (sMov (X 8)),
    o 28 (sBin .sub .none (X 27) (K (.int .i64 1))),
    o 10 (sMov (X 28))])
  (.block 2 (.loop (l41x1 E)))))))
theorem c41 (args : T) (h : AHeap) : (envL prog).call 41 args h = trim h (fin [] (runC (envL prog) (b41 (envL prog)) (args ++ List.replicate (56 - args.length) .undef) h)) :=
  call_tr (fn := Go.Proofs.Try.f41) tab41 (by kernel_rfl) (by rfl) (by kernel_rfl) (fun t h => by kernel_rfl) rfl args h
/-! f42: slices.breakPatternsOrdered[int] -/
def tab42 : Nat → Cert := fun i => bif Nat.beq i 10 then ⟨20, 65, 1291123092072294509569753175756534561963669231326633831035548762268908526393761719291065692990471817259949485013180874752, 1291123092072358727592243943083882076029332780186931769856990154453209880754924112549268120877351593505537841736007548928, 13641884886190521164661132248862069263329711211102549471168436518556638209320877108690048838602927688019150312011849985238500508476116159970521240366868882127426918975757988740915696406694585628874914295821372703577822137639743952693142823510632797240488408007798785790242303194640352207262327818369467383090144918949326144263153537637825524471261922832117073645741234691464459310445856030721, 1042337310188518641678969888243285293163270426418067968810062833192241088774150785364149276326604536019716491847581105156533701370616060707128232288656987395448821104920223750238130350299370821303108410479817933755888517873904059152268702529242400704793096587144032186835939672530068651211914692922262019827489225261088273579389355322714480972022480371760⟩ else ⟨0, 0, 0, 0, 0, 0⟩
noncomputable def l42x0 (E : Env) : CT :=
  .seq (.seq (.reg [o 26 (sMov (X 9)),
    o 27 (sMov (X 1)),
    o 28 (sMov (X 6)),
    o 29 (sBin .quo .none (X 28) (K (.int .i64 4))),
    o 30 (sBin .mul .none (X 29) (K (.int .i64 2))),
    o 31 (sBin .add .none (X 27) (X 30)),
    o 32 (sBin .add .none (X 31) (K (.int .i64 1))),
    o 33 (sBin .leq .none (X 26) (X 32))])
  (.ite (X 33)
  (.skip)
  (.exit 0)))
  (.seq (.block 1 (.seq (.reg [o 36 (sCall E 57 [(X 7)]),
    o 37 (sMov (X 8)),
    o 38 (sBin .sub .none (X 37) (K (.int .u64 1))),
    o 39 (sBin .and .none (X 36) (X 38)),
    o 40 (sConv (.int .i64) (X 39)),
    o 10 (sMov (X 40))])
  (.seq (.seq (.reg [o 41 (sMov (X 10)),
    o 42 (sMov (X 6)),
    o 43 (sBin .geq .none (X 41) (X 42))])
  (.ite (X 43)
  (.reg [o 44 (sMov (X 10)),
    o 45 (sMov (X 6)),
    o 46 (sBin .sub .none (X 44) (X 45)),
    o 10 (sMov (X 46))])
  (.skip)))
  (.drw [.op (o 47 (sMov (X 0))),
    .op (o 48 (sMov (X 9))),
    .op (o 49 (sMov (X 0))),
    .op (o 50 (sMov (X 1))),
    .op (o 51 (sMov (X 10))),
    .op (o 52 (sBin .add .none (X 50) (X 51))),
    .op (o 53 (sMov (X 0))),
    .op (o 54 (sMov (X 1))),
    .op (o 55 (sMov (X 10))),
    .op (o 56 (sBin .add .none (X 54) (X 55))),
    .op (o 57 (sIdxAddrS 1 (X 53) (X 56))),
    .op (o 58 (sLoad 1 false (X 57))),
    .op (o 59 (sMov (X 0))),
    .op (o 60 (sMov (X 9))),
    .op (o 61 (sIdxAddrS 1 (X 59) (X 60))),
    .op (o 62 (sLoad 1 false (X 61))),
    .op (o 63 (sIdxAddrS 1 (X 47) (X 48))),
    .hv 131011 (u (sStore 1 (X 63) (X 58))),
    .op (o 64 (sIdxAddrS 1 (X 49) (X 52))),
    .hv 524287 (u (sStore 1 (X 64) (X 62)))]))))
  (.reg [o 34 (sMov (X 9)),
    o 35 (sBin .add .none (X 34) (K (.int .i64 1))),
    o 9 (sMov (X 35))]))
noncomputable def b42 (E : Env) : CT :=
  .seq (.reg [o 11 (sMov (X 2)),
    o 12 (sMov (X 1)),
    o 13 (sBin .sub .none (X 11) (X 12)),
    o 6 (sMov (X 13))])
  (.seq (.reg [o 14 (sMov (X 6)),
    o 15 (sBin .geq .none (X 14) (K (.int .i64 8)))])
  (.ite (X 15)
  (.seq (.reg [o 16 (sMov (X 6)),
    o 17 (sConv (.int .u64) (X 16)),
    o 7 (sAlloc [.int .u64 0]),
    u (sStore 1 (X 7) (X 17))])
  (.seq (.reg [o 18 (sMov (X 6)),
    o 19 (sCall E 56 [(X 18)]),
    o 8 (sMov (X 19))])
  (.seq (.reg [o 20 (sMov (X 1)),
    o 21 (sMov (X 6)),
    o 22 (sBin .quo .none (X 21) (K (.int .i64 4))),
    o 23 (sBin .mul .none (X 22) (K (.int .i64 2))),
    o 24 (sBin .add .none (X 20) (X 23)),
    o 25 (sBin .sub .none (X 24) (K (.int .i64 1))),
    o 9 (sMov (X 25))])
  (.block 0 (.loop (l42x0 E))))))
  (.skip)))
theorem c42 (args : T) (h : AHeap) : (envL prog).call 42 args h = trim h (fin [] (runC (envL prog) (b42 (envL prog)) (args ++ List.replicate (65 - args.length) .undef) h)) :=
  call_tr (fn := Go.Proofs.Try.f42) tab42 (by kernel_rfl) (by rfl) (by kernel_rfl) (fun t h => by kernel_rfl) rfl args h
/-! f43: slices.choosePivotOrdered[int] -/
def tab43 : Nat → Cert := fun i => ⟨0, 0, 0, 0, 0, 0⟩
noncomputable def b43 (E : Env) : CT :=
  .seq (.reg [o 6 (sMov (K (.int .i64 0))),
    o 7 (sMov (K (.int .i64 0)))])
  (.seq (.reg [o 13 (sMov (X 2)),
    o 14 (sMov (X 1)),
    o 15 (sBin .sub .none (X 13) (X 14)),
    o 8 (sMov (X 15))])
  (.seq (.reg [o 9 (sAlloc [.int .i64 0])])
  (.seq (.reg [o 16 (sMov (X 1)),
    o 17 (sMov (X 8)),
    o 18 (sBin .quo .none (X 17) (K (.int .i64 4))),
    o 19 (sBin .mul .none (X 18) (K (.int .i64 1))),
    o 20 (sBin .add .none (X 16) (X 19)),
    o 10 (sMov (X 20))])
  (.seq (.reg [o 21 (sMov (X 1)),
    o 22 (sMov (X 8)),
    o 23 (sBin .quo .none (X 22) (K (.int .i64 4))),
    o 24 (sBin .mul .none (X 23) (K (.int .i64 2))),
    o 25 (sBin .add .none (X 21) (X 24)),
    o 11 (sMov (X 25))])
  (.seq (.reg [o 26 (sMov (X 1)),
    o 27 (sMov (X 8)),
    o 28 (sBin .quo .none (X 27) (K (.int .i64 4))),
    o 29 (sBin .mul .none (X 28) (K (.int .i64 3))),
    o 30 (sBin .add .none (X 26) (X 29)),
    o 12 (sMov (X 30))])
  (.seq (.seq (.reg [o 31 (sMov (X 8)),
    o 32 (sBin .geq .none (X 31) (K (.int .i64 8)))])
  (.ite (X 32)
  (.seq (.seq (.reg [o 33 (sMov (X 8)),
    o 34 (sBin .geq .none (X 33) (K (.int .i64 50)))])
  (.ite (X 34)
  (.seq (.reg [o 35 (sMov (X 0)),
    o 36 (sMov (X 10)),
    o 37 (sCall E 58 [(X 35), (X 36), (X 9)]),
    o 10 (sMov (X 37))])
  (.seq (.reg [o 38 (sMov (X 0)),
    o 39 (sMov (X 11)),
    o 40 (sCall E 58 [(X 38), (X 39), (X 9)]),
    o 11 (sMov (X 40))])
  (.reg [o 41 (sMov (X 0)),
    o 42 (sMov (X 12)),
    o 43 (sCall E 58 [(X 41), (X 42), (X 9)]),
    o 12 (sMov (X 43))])))
  (.skip)))
  (.reg [o 44 (sMov (X 0)),
    o 45 (sMov (X 10)),
    o 46 (sMov (X 11)),
    o 47 (sMov (X 12)),
    o 48 (sCall E 59 [(X 44), (X 45), (X 46), (X 47), (X 9)]),
    o 11 (sMov (X 48))]))
  (.skip)))
  (.seq (.reg [o 49 (sLoad 1 false (X 9))])
  (.block 0 (.seq (.reg [o 52 (sBin .eql .none (X 49) (K (.int .i64 0))),
    o 51 (sMov (X 52))])
  (.ite (X 51)
  (.seq (.reg [o 53 (sMov (X 11)),
    o 6 (sMov (X 53)),
    o 7 (sMov (K (.int .i64 1)))])
  (.ret))
  (.seq (.reg [o 55 (sBin .eql .none (X 49) (K (.int .i64 12))),
    o 54 (sMov (X 55))])
  (.ite (X 54)
  (.seq (.reg [o 56 (sMov (X 11)),
    o 6 (sMov (X 56)),
    o 7 (sMov (K (.int .i64 2)))])
  (.ret))
  (.seq (.reg [o 50 (sMov (X 11)),
    o 6 (sMov (X 50)),
    o 7 (sMov (K (.int .i64 0)))])
  (.ret))))))))))))))
theorem c43 (args : T) (h : AHeap) : (envL prog).call 43 args h = trim h (fin [.tmp 6, .tmp 7] (runC (envL prog) (b43 (envL prog)) (args ++ List.replicate (57 - args.length) .undef) h)) :=
  call_tr (fn := Go.Proofs.Try.f43) tab43 (by kernel_rfl) (by rfl) (by kernel_rfl) (fun t h => by kernel_rfl) rfl args h
/-! f44: slices.reverseRangeOrdered[int] -/
def tab44 : Nat → Cert := fun i => bif Nat.beq i 3 then ⟨16, 28, 57894719459027041039228457592296632997839216734824893010426242787938068856832, 57894719459764238329548227498075550650561006036747800846190911987956708278272, 454274202686737477100230534695774712502513948269849389050298382867672728874658181070639176858466447997735153776892591559266221890207745, 282433580415755630773185425421385536119557289084081792138567543612662221620134092496699646472603025737139006890884202511⟩ else ⟨0, 0, 0, 0, 0, 0⟩
noncomputable def l44x0 (E : Env) : CT :=
  .seq (.seq (.reg [o 11 (sMov (X 6)),
    o 12 (sMov (X 7)),
    o 13 (sBin .lss .none (X 11) (X 12))])
  (.ite (X 13)
  (.skip)
  (.exit 0)))
  (.block 1 (.seq (.drw [.op (o 14 (sMov (X 0))),
    .op (o 15 (sMov (X 6))),
    .op (o 16 (sMov (X 0))),
    .op (o 17 (sMov (X 7))),
    .op (o 18 (sMov (X 0))),
    .op (o 19 (sMov (X 7))),
    .op (o 20 (sIdxAddrS 1 (X 18) (X 19))),
    .op (o 21 (sLoad 1 false (X 20))),
    .op (o 22 (sMov (X 0))),
    .op (o 23 (sMov (X 6))),
    .op (o 24 (sIdxAddrS 1 (X 22) (X 23))),
    .op (o 25 (sLoad 1 false (X 24))),
    .op (o 26 (sIdxAddrS 1 (X 14) (X 15))),
    .hv 8179 (u (sStore 1 (X 26) (X 21))),
    .op (o 27 (sIdxAddrS 1 (X 16) (X 17))),
    .hv 32767 (u (sStore 1 (X 27) (X 25)))])
  (.seq (.reg [o 28 (sMov (X 6)),
    o 29 (sBin .add .none (X 28) (K (.int .i64 1))),
    o 6 (sMov (X 29))])
  (.reg [o 30 (sMov (X 7)),
    o 31 (sBin .sub .none (X 30) (K (.int .i64 1))),
    o 7 (sMov (X 31))]))))
noncomputable def b44 (E : Env) : CT :=
  .seq (.reg [o 8 (sMov (X 1)),
    o 6 (sMov (X 8))])
  (.seq (.reg [o 9 (sMov (X 2)),
    o 10 (sBin .sub .none (X 9) (K (.int .i64 1))),
    o 7 (sMov (X 10))])
  (.block 0 (.loop (l44x0 E))))
theorem c44 (args : T) (h : AHeap) : (envL prog).call 44 args h = trim h (fin [] (runC (envL prog) (b44 (envL prog)) (args ++ List.replicate (32 - args.length) .undef) h)) :=
  call_tr (fn := Go.Proofs.Try.f44) tab44 (by kernel_rfl) (by rfl) (by kernel_rfl) (fun t h => by kernel_rfl) rfl args h
/-! f45: slices.partialInsertionSortOrdered[int] -/
def tab45 : Nat → Cert := fun i => bif Nat.beq i 5 then ⟨16, 32, 28962378159150903293266099500337975587795956243168251021650681077947380531200, 57894719459769173412042431810386803093888088608967233494703305429722385612800, 6707177356360393974972062242110787137487500020258628359033124428752302488888477251979300484150709742170298331715360486969654134758926722579436533199143040, 103017702183686582818298269250254323009560163907691669627794954008350059215753847461335170870621121519584627990652503829039765318388847871671664658⟩ else bif Nat.beq i 11 then ⟨18, 58, 17087798509191605139220260804600306928744705717746765506608052722898532744533862217887759638462464, 17087798509205203873340781695073508074300091633574987627131312269651700819188781055633792163643392, 117813617286336735329147329014502997508531932955064242762945744599261970448238513864931374036086859268495367423013844108247447072246948485597920241477520817117344067713347750525105431960136848518666418423950231284435782043407010475722668441752102887939704421090072086487019602638849077864413966467643163950599634945, 131602448565233486392650794819174550640676946703972435013266711778379373063680457822236419457412755124968681218978443425634761699454829975720142746634230457941418924008780722240525390079711355029723298271858973186113523307938700105073958724660110548746838208183546874466929695785003⟩ else bif Nat.beq i 16 then ⟨11, 78, 664781367397860939244457652677246976, 1328253880591970158389419641225084928, 960962154087001629436309824484290347796540745299306337048243660042871415627176132232690921410890473851706033284022410729503831664669303264870427919635307082925333250570265191382967418034226328734728580785227769700753677959610111516006490329184777561643679745, 502370014379032600071249019957051709932778464156893148381537572259917181126997977106562002322022734315497265559769709050709294499005227289700302756276919682422228622625890362399106408694867159743265073917197925353168461463539529159802949⟩ else bif Nat.beq i 17 then ⟨18, 95, 17087798509191605139220260804600306928744705717746765506608052722898532744533862217887759638462464, 17087798509205203873340781695073508074300091633574987627131312269651700819188781055633792163643392, 36072197718262900877219465707181581209144588163555521730007688105409389889647747457833707649571661379602121801563798285694903399992099493067508699331370387954153856453061025607382070785897924746897734863448922415455482275602257580508078805201978484522002392700520085134521057235379124456182706480555389020659795979641339880760943491660564907054438127566129360186230126162925782756632260333584406757109320317137318749423728277083703502373391153606128086133592249870399734180761820489930912705672295669126872193564673, 3493952645225495848314072838938748790384656655194709020680442917515123557392057989278313693108456426602474061949637101420794273984962066178000050877487477482647714906548279651575072726501278959273295057134364493132834616626738558104756885493710339086120213993924132386227847447852758422585677009454037118965936544235909855985715311819354018653712138959763111889717201586664645864744489885206916662077557503869687591250420264498279685022350868607093909485518928⟩ else bif Nat.beq i 22 then ⟨11, 116, 664781367397860939244457652677246976, 1328253880591970158389419641225084928, 650495762166524942620327520460255350200827504982075635486582507367803496695272182960204768210715497943256571157988880253118037880307491114764121375169276580021254260928082968942938808180676317377761568872582291867702790719595699417061770758790369269057717140635323692762217830068345358258851946030272342395774948938045676007467685226116011261396319474583366575468939075106067212926977, 1832233553065755424826314256677649951253443261587636890204154016990978878631600144826130420702944150662313539574180516434547018364908761165320298691899840224367234956494676571407536070842908201972212280348829279864636139029121290134775352643603267219196035614220458671952810371726206246989922539091644600919283177854854663015362781423482718586614579307⟩ else bif Nat.beq i 23 then ⟨18, 133, 17087798509191605139220260804600306928744705717746765506608052722898532744533862217887759638462464, 17087798509205203873340781695073508074300091633574987627131312269651700819188781055633792163643392, 2895273777245880216023571231502824185909600710664829269003116089350785190159964601870707790805316160788911783631310827885309291518303383093603749102802754086320954330019306689267748808997241462918716115654456244744954673744279641327379782516806514345762337172084764102950321825231774231690479082773598618383492154323672298274098650293221964840416073035267905598488103104038734204711268827300651401657883421685881827778412647717918434392681284057319499839478461356066445029004676632301059399348258720020586904020084678794726777533881674967810404485145841780707652392828559411171608143119506405402598197705348731853423041377639478167310035932446819676173406346290762164660750140089218255949448741929182319314755971155230721, 5196158785949330687817037998952609178678988775864110766585812477247651685777242383578401065458853260630957524719422554720418879429065338680618984535594284785703359930497129669595854100355959102384840718011155924941008391939884708113365149056284748348343165378079889947971182583651369987966151521875248218500447533183574708873634342385023853577706997368272776075154328816895482533354383177143644075745474072316472201796953237302030640331610013946738692362001112765449894496775428657945691803508010334862854496967672909823166185862049386222766744262616173242711398730231470120344241301667815898191840705799559986659311425850767477478641444585590⟩ else ⟨0, 0, 0, 0, 0, 0⟩
noncomputable def l45x0 (E : Env) : CT :=
  .seq (.seq (.drw [.op (o 17 (sMov (X 7))),
    .op (o 18 (sMov (X 2))),
    .op (o 19 (sBin .lss .none (X 17) (X 18))),
    .op (o 20 (sMov (X 19))),
    .op (og 20 true 21 (sMov (X 0))),
    .op (og 20 true 22 (sMov (X 7))),
    .op (og 20 true 23 (sIdxAddrS 1 (X 21) (X 22))),
    .op (og 20 true 24 (sLoad 1 false (X 23))),
    .op (og 20 true 25 (sMov (X 0))),
    .op (og 20 true 26 (sMov (X 7))),
    .op (og 20 true 27 (sBin .sub .none (X 26) (K (.int .i64 1)))),
    .op (og 20 true 28 (sIdxAddrS 1 (X 25) (X 27))),
    .op (og 20 true 29 (sLoad 1 false (X 28))),
    .hv 8191 (og 20 true 30 (sCall E 46 [(X 24), (X 29)])),
    .op (og 20 true 31 (sUn .not (X 30))),
    .op (o 32 (sPick (X 20) (X 31) (K (.bool false))))])
  (.ite (X 32)
  (.skip)
  (.exit 2)))
  (.block 3 (.reg [o 33 (sMov (X 7)),
    o 34 (sBin .add .none (X 33) (K (.int .i64 1))),
    o 7 (sMov (X 34))]))
noncomputable def l45x1 (E : Env) : CT :=
  .seq (.seq (.reg [o 64 (sMov (X 9)),
    o 65 (sBin .geq .none (X 64) (K (.int .i64 1)))])
  (.ite (X 65)
  (.skip)
  (.exit 4)))
  (.seq (.block 5 (.seq (.seq (.drw [.op (o 68 (sMov (X 0))),
    .op (o 69 (sMov (X 9))),
    .op (o 70 (sIdxAddrS 1 (X 68) (X 69))),
    .op (o 71 (sLoad 1 false (X 70))),
    .op (o 72 (sMov (X 0))),
    .op (o 73 (sMov (X 9))),
    .op (o 74 (sBin .sub .none (X 73) (K (.int .i64 1)))),
    .op (o 75 (sIdxAddrS 1 (X 72) (X 74))),
    .op (o 76 (sLoad 1 false (X 75))),
    .hv 511 (o 77 (sCall E 46 [(X 71), (X 76)])),
    .op (o 78 (sUn .not (X 77)))])
  (.ite (X 78)
  (.exit 4)
  (.skip)))
  (.drw [.op (o 79 (sMov (X 0))),
    .op (o 80 (sMov (X 9))),
    .op (o 81 (sMov (X 0))),
    .op (o 82 (sMov (X 9))),
    .op (o 83 (sBin .sub .none (X 82) (K (.int .i64 1)))),
    .op (o 84 (sMov (X 0))),
    .op (o 85 (sMov (X 9))),
    .op (o 86 (sBin .sub .none (X 85) (K (.int .i64 1)))),
    .op (o 87 (sIdxAddrS 1 (X 84) (X 86))),
    .op (o 88 (sLoad 1 false (X 87))),
    .op (o 89 (sMov (X 0))),
    .op (o 90 (sMov (X 9))),
    .op (o 91 (sIdxAddrS 1 (X 89) (X 90))),
    .op (o 92 (sLoad 1 false (X 91))),
    .op (o 93 (sIdxAddrS 1 (X 79) (X 80))),
    .hv 32739 (u (sStore 1 (X 93) (X 88))),
    .op (o 94 (sIdxAddrS 1 (X 81) (X 83))),
    .hv 131071 (u (sStore 1 (X 94) (X 92)))])))
  (.reg [o 66 (sMov (X 9)),
    o 67 (sBin .sub .none (X 66) (K (.int .i64 1))),
    o 9 (sMov (X 67))]))
noncomputable def l45x2 (E : Env) : CT :=
  .seq (.seq (.reg [o 101 (sMov (X 10)),
    o 102 (sMov (X 2)),
    o 103 (sBin .lss .none (X 101) (X 102))])
  (.ite (X 103)
  (.skip)
  (.exit 6)))
  (.seq (.block 7 (.seq (.seq (.drw [.op (o 106 (sMov (X 0))),
    .op (o 107 (sMov (X 10))),
    .op (o 108 (sIdxAddrS 1 (X 106) (X 107))),
    .op (o 109 (sLoad 1 false (X 108))),
    .op (o 110 (sMov (X 0))),
    .op (o 111 (sMov (X 10))),
    .op (o 112 (sBin .sub .none (X 111) (K (.int .i64 1)))),
    .op (o 113 (sIdxAddrS 1 (X 110) (X 112))),
    .op (o 114 (sLoad 1 false (X 113))),
    .hv 511 (o 115 (sCall E 46 [(X 109), (X 114)])),
    .op (o 116 (sUn .not (X 115)))])
  (.ite (X 116)
  (.exit 6)
  (.skip)))
  (.drw [.op (o 117 (sMov (X 0))),
    .op (o 118 (sMov (X 10))),
    .op (o 119 (sMov (X 0))),
    .op (o 120 (sMov (X 10))),
    .op (o 121 (sBin .sub .none (X 120) (K (.int .i64 1)))),
    .op (o 122 (sMov (X 0))),
    .op (o 123 (sMov (X 10))),
    .op (o 124 (sBin .sub .none (X 123) (K (.int .i64 1)))),
    .op (o 125 (sIdxAddrS 1 (X 122) (X 124))),
    .op (o 126 (sLoad 1 false (X 125))),
    .op (o 127 (sMov (X 0))),
    .op (o 128 (sMov (X 10))),
    .op (o 129 (sIdxAddrS 1 (X 127) (X 128))),
    .op (o 130 (sLoad 1 false (X 129))),
    .op (o 131 (sIdxAddrS 1 (X 117) (X 118))),
    .hv 32739 (u (sStore 1 (X 131) (X 126))),
    .op (o 132 (sIdxAddrS 1 (X 119) (X 121))),
    .hv 131071 (u (sStore 1 (X 132) (X 130)))])))
  (.reg [o 104 (sMov (X 10)),
    o 105 (sBin .add .none (X 104) (K (.int .i64 1))),
    o 10 (sMov (X 105))]))
noncomputable def l45x3 (E : Env) : CT :=
  .seq (.seq (.reg [o 13 (sMov (X 8)),
    o 14 (sBin .lss .none (X 13) (K (.int .i64 5)))])
  (.ite (X 14)
  (.skip)
  (.exit 0)))
  (.seq (.block 1 (.seq (.block 2 (.loop (l45x0 E)))
  (.seq (.seq (.reg [o 35 (sMov (X 7)),
    o 36 (sMov (X 2)),
    o 37 (sBin .eql .none (X 35) (X 36))])
  (.ite (X 37)
  (.seq (.reg [o 6 (sMov (K (.bool true)))])
  (.ret))
  (.skip)))
  (.seq (.seq (.reg [o 38 (sMov (X 2)),
    o 39 (sMov (X 1)),
    o 40 (sBin .sub .none (X 38) (X 39)),
    o 41 (sBin .lss .none (X 40) (K (.int .i64 50)))])
  (.ite (X 41)
  (.seq (.reg [o 6 (sMov (K (.bool false)))])
  (.ret))
  (.skip)))
  (.seq (.drw [.op (o 42 (sMov (X 0))),
    .op (o 43 (sMov (X 7))),
    .op (o 44 (sMov (X 0))),
    .op (o 45 (sMov (X 7))),
    .op (o 46 (sBin .sub .none (X 45) (K (.int .i64 1)))),
    .op (o 47 (sMov (X 0))),
    .op (o 48 (sMov (X 7))),
    .op (o 49 (sBin .sub .none (X 48) (K (.int .i64 1)))),
    .op (o 50 (sIdxAddrS 1 (X 47) (X 49))),
    .op (o 51 (sLoad 1 false (X 50))),
    .op (o 52 (sMov (X 0))),
    .op (o 53 (sMov (X 7))),
    .op (o 54 (sIdxAddrS 1 (X 52) (X 53))),
    .op (o 55 (sLoad 1 false (X 54))),
    .op (o 56 (sIdxAddrS 1 (X 42) (X 43))),
    .hv 32739 (u (sStore 1 (X 56) (X 51))),
    .op (o 57 (sIdxAddrS 1 (X 44) (X 46))),
    .hv 131071 (u (sStore 1 (X 57) (X 55)))])
  (.seq (.seq (.reg [o 58 (sMov (X 7)),
    o 59 (sMov (X 1)),
    o 60 (sBin .sub .none (X 58) (X 59)),
    o 61 (sBin .geq .none (X 60) (K (.int .i64 2)))])
  (.ite (X 61)
  (.seq (.reg [o 62 (sMov (X 7)),
    o 63 (sBin .sub .none (X 62) (K (.int .i64 1))),
    o 9 (sMov (X 63))])
  (.block 4 (.loop (l45x1 E))))
  (.skip)))
  (.seq (.reg [o 95 (sMov (X 2)),
    o 96 (sMov (X 7)),
    o 97 (sBin .sub .none (X 95) (X 96)),
    o 98 (sBin .geq .none (X 97) (K (.int .i64 2)))])
  (.ite (X 98)
  (.seq (.reg [o 99 (sMov (X 7)),
    o 100 (sBin .add .none (X 99) (K (.int .i64 1))),
    o 10 (sMov (X 100))])
  (.block 6 (.loop (l45x2 E))))
  (.skip)))))))))
  (.reg [o 15 (sMov (X 8)),
    o 16 (sBin .add .none (X 15) (K (.int .i64 1))),
    o 8 (sMov (X 16))]))
noncomputable def b45 (E : Env) : CT :=
  .seq (.reg [o 6 (sMov (K (.bool false)))])
  (.seq (.reg [o 11 (sMov (X 1)),
    o 12 (sBin .add .none (X 11) (K (.int .i64 1))),
    o 7 (sMov (X 12))])
  (.seq (.seq (.reg [o 8 (sMov (K (.int .i64 0)))])
  (.block 0 (.loop (l45x3 E))))
  (.seq (.reg [o 6 (sMov (K (.bool false)))])
  (.ret))))
theorem c45 (args : T) (h : AHeap) : (envL prog).call 45 args h = trim h (fin [.tmp 6] (runC (envL prog) (b45 (envL prog)) (args ++ List.replicate (133 - args.length) .undef) h)) :=
  call_tr (fn := Go.Proofs.Try.f45) tab45 (by kernel_rfl) (by rfl) (by kernel_rfl) (fun t h => by kernel_rfl) rfl args h
/-! f46: cmp.Less[int] -/
def tab46 : Nat → Cert := fun i => ⟨0, 0, 0, 0, 0, 0⟩
noncomputable def b46 (E : Env) : CT :=
  .seq (.reg [o 4 (sMov (K (.bool false)))])
  (.seq (.reg [o 5 (sMov (X 0)),
    o 6 (sCall E 60 [(X 5)]),
    o 7 (sMov (X 6)),
    og 7 true 8 (sMov (X 1)),
    og 7 true 9 (sCall E 60 [(X 8)]),
    og 7 true 10 (sUn .not (X 9)),
    o 11 (sPick (X 7) (X 10) (K (.bool false))),
    o 12 (sMov (X 11)),
    og 12 false 13 (sMov (X 0)),
    og 12 false 14 (sMov (X 1)),
    og 12 false 15 (sBin .lss .none (X 13) (X 14)),
    o 16 (sPick (X 12) (K (.bool true)) (X 15)),
    o 4 (sMov (X 16))])
  (.ret))
theorem c46 (args : T) (h : AHeap) : (envL prog).call 46 args h = trim h (fin [.tmp 4] (runC (envL prog) (b46 (envL prog)) (args ++ List.replicate (17 - args.length) .undef) h)) :=
  call_tr (fn := Go.Proofs.Try.f46) tab46 (by kernel_rfl) (by rfl) (by kernel_rfl) (fun t h => by kernel_rfl) rfl args h
/-! f47: slices.partitionEqualOrdered[int] -/
def tab47 : Nat → Cert := fun i => bif Nat.beq i 1 then ⟨16, 25, 57894719459027041039228457592296632997839216734824893010426242787938068856832, 57894719459764238329548227498075550650561006036747800846190911987956708278272, 1613906173860683481814133427427217896294221405043388978908636014662923315505113663737954376780121500475955636595547176961, 57337465399751836679135350703524334737188015151864363925467127889457985244805026331199208649364515286155276⟩ else bif Nat.beq i 3 then ⟨15, 43, 13493343463185084288162302594000822900191202146335912335684304633856, 26958712494791488757875980243305025207966650753642865750306726084608, 73070338016609627918641490712727682571094852342272581764491393433452976338099452733629597468664773968632119607752796296727889168108761732898394231915113739162093891910363748604974118888693301760, 730314740123135900890317456158764484924106970652091609168205423868454747334369367361027977792223625155890833533446013232633177741947770947742062664980890816378727377605228741942837278⟩ else bif Nat.beq i 5 then ⟨14, 59, 25158263953833665244739348736996508189508521115359423496192, 50212216063592105922909095258619238511420798403217532649472, 224178431856958848746179721257235495213611199941206516019125549152674103742352837074689918792917301381067780243844558633321229771305090844421701219478220512756522866494272054118103817488922191995171311076753550732468051492545360569026512298407100928, 46575542769021268133918477310861710246560728285431071142391019496413245236832190473655677595981233966163719158237272921023548598884627144781965283132680545885506195240838491223776306402382752256250339299099906193560502634957754073135⟩ else bif Nat.beq i 8 then ⟨16, 79, 57894719459027041039228457592296632997839216734824893010426242787938068856832, 57894719459764238329548227498075550650561006036747800846190911987956708278272, 198515552418983441961769873572196791678758883530162112171126663026013185828846585600331433367283697615338081315404811179094423201656459128155173784672648564558552217577471949591613794136675752210711174600604057563605771439996155727198262547330757587087118560140410365305852936447738838971220422942453392923982111297318723632221796995027563572938952454573739786228718402140807102465, 68675573628736948539462888217844528326192648901054584145463181827675428472503351163022461557041124766311071447585011790953386218304248535207444919717870098368223408490826817820404580597996291744944521246237687356062113444011268262966123535110021981692563819372873847867891551354757223931340725695397257929264280723475118605079825875010⟩ else ⟨0, 0, 0, 0, 0, 0⟩
noncomputable def l47x0 (E : Env) : CT :=
  .seq (.seq (.drw [.op (o 29 (sMov (X 9))),
    .op (o 30 (sMov (X 10))),
    .op (o 31 (sBin .leq .none (X 29) (X 30))),
    .op (o 32 (sMov (X 31))),
    .op (og 32 true 33 (sMov (X 0))),
    .op (og 32 true 34 (sMov (X 1))),
    .op (og 32 true 35 (sIdxAddrS 1 (X 33) (X 34))),
    .op (og 32 true 36 (sLoad 1 false (X 35))),
    .op (og 32 true 37 (sMov (X 0))),
    .op (og 32 true 38 (sMov (X 9))),
    .op (og 32 true 39 (sIdxAddrS 1 (X 37) (X 38))),
    .op (og 32 true 40 (sLoad 1 false (X 39))),
    .hv 4095 (og 32 true 41 (sCall E 46 [(X 36), (X 40)])),
    .op (og 32 true 42 (sUn .not (X 41))),
    .op (o 43 (sPick (X 32) (X 42) (K (.bool false))))])
  (.ite (X 43)
  (.skip)
  (.exit 2)))
  (.block 3 (.reg [o 44 (sMov (X 9)),
    o 45 (sBin .add .none (X 44) (K (.int .i64 1))),
    o 9 (sMov (X 45))]))
noncomputable def l47x1 (E : Env) : CT :=
  .seq (.seq (.drw [.op (o 46 (sMov (X 9))),
    .op (o 47 (sMov (X 10))),
    .op (o 48 (sBin .leq .none (X 46) (X 47))),
    .op (o 49 (sMov (X 48))),
    .op (og 49 true 50 (sMov (X 0))),
    .op (og 49 true 51 (sMov (X 1))),
    .op (og 49 true 52 (sIdxAddrS 1 (X 50) (X 51))),
    .op (og 49 true 53 (sLoad 1 false (X 52))),
    .op (og 49 true 54 (sMov (X 0))),
    .op (og 49 true 55 (sMov (X 10))),
    .op (og 49 true 56 (sIdxAddrS 1 (X 54) (X 55))),
    .op (og 49 true 57 (sLoad 1 false (X 56))),
    .hv 4095 (og 49 true 58 (sCall E 46 [(X 53), (X 57)])),
    .op (o 59 (sPick (X 49) (X 58) (K (.bool false))))])
  (.ite (X 59)
  (.skip)
  (.exit 4)))
  (.block 5 (.reg [o 60 (sMov (X 10)),
    o 61 (sBin .sub .none (X 60) (K (.int .i64 1))),
    o 10 (sMov (X 61))]))
noncomputable def l47x2 (E : Env) : CT :=
  .block 1 (.seq (.block 2 (.loop (l47x0 E)))
  (.seq (.block 4 (.loop (l47x1 E)))
  (.seq (.seq (.reg [o 62 (sMov (X 9)),
    o 63 (sMov (X 10)),
    o 64 (sBin .gtr .none (X 62) (X 63))])
  (.ite (X 64)
  (.exit 0)
  (.skip)))
  (.seq (.drw [.op (o 65 (sMov (X 0))),
    .op (o 66 (sMov (X 9))),
    .op (o 67 (sMov (X 0))),
    .op (o 68 (sMov (X 10))),
    .op (o 69 (sMov (X 0))),
    .op (o 70 (sMov (X 10))),
    .op (o 71 (sIdxAddrS 1 (X 69) (X 70))),
    .op (o 72 (sLoad 1 false (X 71))),
    .op (o 73 (sMov (X 0))),
    .op (o 74 (sMov (X 9))),
    .op (o 75 (sIdxAddrS 1 (X 73) (X 74))),
    .op (o 76 (sLoad 1 false (X 75))),
    .op (o 77 (sIdxAddrS 1 (X 65) (X 66))),
    .hv 8179 (u (sStore 1 (X 77) (X 72))),
    .op (o 78 (sIdxAddrS 1 (X 67) (X 68))),
    .hv 32767 (u (sStore 1 (X 78) (X 76)))])
  (.seq (.reg [o 79 (sMov (X 9)),
    o 80 (sBin .add .none (X 79) (K (.int .i64 1))),
    o 9 (sMov (X 80))])
  (.reg [o 81 (sMov (X 10)),
    o 82 (sBin .sub .none (X 81) (K (.int .i64 1))),
    o 10 (sMov (X 82))]))))))
noncomputable def b47 (E : Env) : CT :=
  .seq (.reg [o 8 (sMov (K (.int .i64 0)))])
  (.seq (.drw [.op (o 11 (sMov (X 0))),
    .op (o 12 (sMov (X 1))),
    .op (o 13 (sMov (X 0))),
    .op (o 14 (sMov (X 3))),
    .op (o 15 (sMov (X 0))),
    .op (o 16 (sMov (X 3))),
    .op (o 17 (sIdxAddrS 1 (X 15) (X 16))),
    .op (o 18 (sLoad 1 false (X 17))),
    .op (o 19 (sMov (X 0))),
    .op (o 20 (sMov (X 1))),
    .op (o 21 (sIdxAddrS 1 (X 19) (X 20))),
    .op (o 22 (sLoad 1 false (X 21))),
    .op (o 23 (sIdxAddrS 1 (X 11) (X 12))),
    .hv 8179 (u (sStore 1 (X 23) (X 18))),
    .op (o 24 (sIdxAddrS 1 (X 13) (X 14))),
    .hv 32767 (u (sStore 1 (X 24) (X 22)))])
  (.seq (.reg [o 25 (sMov (X 1)),
    o 26 (sBin .add .none (X 25) (K (.int .i64 1))),
    o 27 (sMov (X 2)),
    o 28 (sBin .sub .none (X 27) (K (.int .i64 1))),
    o 9 (sMov (X 26)),
    o 10 (sMov (X 28))])
  (.seq (.block 0 (.loop (l47x2 E)))
  (.seq (.reg [o 83 (sMov (X 9)),
    o 8 (sMov (X 83))])
  (.ret)))))
theorem c47 (args : T) (h : AHeap) : (envL prog).call 47 args h = trim h (fin [.tmp 8] (runC (envL prog) (b47 (envL prog)) (args ++ List.replicate (84 - args.length) .undef) h)) :=
  call_tr (fn := Go.Proofs.Try.f47) tab47 (by kernel_rfl) (by rfl) (by kernel_rfl) (fun t h => by kernel_rfl) rfl args h
/-! f48: slices.partitionOrdered[int] -/
def tab48 : Nat → Cert := fun i => bif Nat.beq i 1 then ⟨16, 26, 57894719459027041039228457592296632997839216734824893010426242787938068856832, 57894719459764238329548227498075550650561006036747800846190911987956708278272, 105768955008286754560500594542908910626765896517489149649198853178051574016454609600120235907445947883222674100596700266627073, 976993714433914831394510888855200507486422051806745981593950590678264100976808253269120056437870247606151544845⟩ else bif Nat.beq i 3 then ⟨14, 43, 25158263953833665244739348736996508189508521115359423496192, 50212216063592105922909095258619238511420798403217532649472, 8315240182953430367908641703479061739728252618026527944794976223807128079953901944485981400961181586988296914846874916762015751911555956776107020715619968534912539129520011427709952, 83027173346083134321170002312870165601919662850842952271728498074987186025097044803377227457556685425958088846237616648140053455557309797284467852589488167766231456153631⟩ else bif Nat.beq i 5 then ⟨15, 60, 13493343463185084288162302594000822900191202146335912335684304633856, 26958712494791488757875980243305025207966650753642865750306726084608, 4230483550109819357392315647674000026220236501166715473571606146394098572571057966884450702380947337489294412344390779052106541784869991176385125486595612665152434946459175695993075510345383237227235150314376379990877245731112847498633849775185402716180231635452173485056, 447225123590904994549750576272088506098747361520178788782160762874013885306274780221746212109910895460635300647524949758542570386110200571219548080826847309546882459381485795863090660614543886939752412807468495869227404920760469846889535048142589041573935⟩ else bif Nat.beq i 8 then ⟨16, 80, 57894719459027041039228457592296632997839216734824893010426242787938068856832, 57894719459764238329548227498075550650561006036747800846190911987956708278272, 13009915243330498852406550421816297931364110000054370625036432765309152689771654100485200181267983655778183122589632730049097696660472253643035192570388059348858868172740686122002174995837985456382611114239313763618547137551310362582259597652432620151663835148000894276687636773767802550762874376467264149971141568348355466873843794752392469579962810876668780880860662333870218820976641, 1139423390717191053033478441074597217312749731233010658204583608890956991075708175938523174691857729328824009960959899746488119122783093767078260518849023917845878788392791620481175419209809380153310334348871941618838136999324343839162190652291961477013929023648446406716644252254655552304027452154969412156167507705052877563720894630592579⟩ else bif Nat.beq i 10 then ⟨16, 95, 57894719459027041039228457592296632997839216734824893010426242787938068856832, 57894719459764238329548227498075550650561006036747800846190911987956708278272, 22986530560694051633645216045650343088709874030894332164123541873903085525219490210210318724723385404403830876223851534290907215679457918628557147552691935021693762054974432028381556320227385523334064356414733535868397701843072911811234620617524769473875133450512093061670370995170175000904150812862365957253664155263053549185445506550069921986917292848670111459733549230175552091169727097178770563426786944451340688435482090323512282939026825545986129002497, 2226475078795428876241771709166813299848466485978084902286489242513093875760388150113543644822454500703406114363494955854514880997333471041276497827415271445521333163795999620449459017904199068772512047677022868284257901732612672921857926847958704145088577831724436063982758751414401192764634165420971051216611779074663928195980822865698320057726156690839447440387770832971860842897337507797762654077010⟩ else bif Nat.beq i 13 then ⟨14, 112, 25158263953833665244739348736996508189508521115359423496192, 50212216063592105922909095258619238511420798403217532649472, 5186216106437597065921323886780194296023909829510167218501482699676221759652330495236328669846954912206078312062664234939017087906708710633638367421115127185326067247382569321178761739712959669591046626744398446165389662352058395526850424058988237059100028930909785785430019426412649152250200481404837015251954672928900567022532643642048021191809254586008327740163432464798092147950935806623119239620428144197453176043062810751295152926527187610734999985013156283689206784, 225295299201152737309821386560982870710361381115361121644560247953088278920401690156547157546117718618882492265211491735090688166074968018589639796622449769554897462534811468263426641511693532416742699604201322986091319622058322696375773894349732570249522126594442830078257664649085411286470546029636467440734316289767930289358628580428562520435695251970539916823985685120858451653808824499116202674723824107887071621786526674749613823492196⟩ else bif Nat.beq i 15 then ⟨15, 129, 13493343463185084288162302594000822900191202146335912335684304633856, 26958712494791488757875980243305025207966650753642865750306726084608, 1557526780964941919049705764612513507848501924746956620734713388075356466161021615282398378764614297217165972191135446617585023359427143607764958709706977009529031637540669200021029053900124006777323887056129959613054333347114136615932225125085798417900859852047596200892311688325433233902108610736945623329873534794291306653576393684924302233498640619569178559089432010233894305631114511492882217441357643058231178779342975489613951686101034611015921524263124577968252397699953971646335169882838949596287954061295731572918640561255317673677543242255498269576451598923610448682025984, 594450260158395333558549669631565160084575578434344774066353086154073078859843628777396921602358459244619128394205641668698587862629753994763203548019591230653126181434106990719567504159438292274642709283156959164330545843438333901705561326831811182360655331020710275477149547644183849440951478443550418192760169857676450598154154284421859111131408924358619510595077607959709133056191089025412698864923851272179590308015727196527989884055314299552326316048933358853388107125293027007112020131101483302321318511779529946690311719590050792925560948⟩ else bif Nat.beq i 18 then ⟨16, 149, 57894719459027041039228457592296632997839216734824893010426242787938068856832, 57894719459764238329548227498075550650561006036747800846190911987956708278272, 2827415798091679898460518780764476744052344317227556056402443525984551947590365757492205260835940276324933628407141705779766205605373317605714647369398714221823115485431938362162255878933687350784225975056958442845913957348021231439398584712474944780103152074500239811591903650635301982880381772118355913149688209549663078106070855375830073285935845337693939125054788008565223453485159833451376199680068350479680566305551895695650385375673419031609454450890448677836691394128312030637677519307271298642721482107542770232511226353554175705024872403391177744060543658302945949059741051739901174825859387970393791172633451967704211856597416828337392344146761929954334164749748347141051976601089548805084975550756173119489, 1323601417149198003840432466366593433202673758961385583224236606479349009677585507057021003045065090160577710430457419668001936005634868658550895164682306397409569508681887562897335594391755899751981990924468460817360214714567520995576851472389000667108815623138145058336095531046170424252665316240660368128335747308585498092466246583842754642911191993788510627599713522615876274635582331804070107434366503513916369207304682301009359270353510737293887468966493268487489788173603090156933001170343607008120129944202527330151584022750526048866711606571422335333676575845456446488829447618637939285760910207898165639503978243565813896⟩ else bif Nat.beq i 21 then ⟨16, 167, 57894719459027041039228457592296632997839216734824893010426242787938068856832, 57894719459764238329548227498075550650561006036747800846190911987956708278272, 1406139575383114097655606355170923984454594041944205969515721261607940678148900236835821369382344171351835481567302910412514486207790718399763157997633637881097635108364828042839312366671242172393570289248581798027264200855447831342193918026133395659866837288890515740780185286224495063344156168826086539443208570689193399166786711278849464570637323149424167215588762293138798772328651500482825899325323205268438617896514444692844517236871080373479292110724122638052215971502925601854765014491361899667650491165199837383662173992460384523139704279851324748345627395400730854856522173232442617064839225734858450970724147562129365423613871303038493950221319296775406545275673065440143861644989353986844282312708366183168219442929338148293056716723625645821674749728443064999943510929379055463798620154757121, 10736094697706688362880109625340710778271875391879495400287502913853900270983447390623022385645127683580165459574502706824663528855851033267348939247051231668361354941905720344984377865360278126253005217050913619088187768104057114297675695245593634658242349638536449511947697912885270391748162680447613464446637299185031150941468087896417473039490772178252265575325369072402082014932187420890982146370962209272477061225238766924507148678455013409301036909479561580739538147466883300901152548917156576144972601160925482956065199683416386143926604053867834840272980582116073041595973770715955376518143127265611002262453809388751699946237534949789903392529994462382946047391467018462386452693018090749502161050⟩ else ⟨0, 0, 0, 0, 0, 0⟩
noncomputable def l48x0 (E : Env) : CT :=
  .seq (.seq (.drw [.op (o 30 (sMov (X 10))),
    .op (o 31 (sMov (X 11))),
    .op (o 32 (sBin .leq .none (X 30) (X 31))),
    .op (o 33 (sMov (X 32))),
    .op (og 33 true 34 (sMov (X 0))),
    .op (og 33 true 35 (sMov (X 10))),
    .op (og 33 true 36 (sIdxAddrS 1 (X 34) (X 35))),
    .op (og 33 true 37 (sLoad 1 false (X 36))),
    .op (og 33 true 38 (sMov (X 0))),
    .op (og 33 true 39 (sMov (X 1))),
    .op (og 33 true 40 (sIdxAddrS 1 (X 38) (X 39))),
    .op (og 33 true 41 (sLoad 1 false (X 40))),
    .hv 4095 (og 33 true 42 (sCall E 46 [(X 37), (X 41)])),
    .op (o 43 (sPick (X 33) (X 42) (K (.bool false))))])
  (.ite (X 43)
  (.skip)
  (.exit 0)))
  (.block 1 (.reg [o 44 (sMov (X 10)),
    o 45 (sBin .add .none (X 44) (K (.int .i64 1))),
    o 10 (sMov (X 45))]))
noncomputable def l48x1 (E : Env) : CT :=
  .seq (.seq (.drw [.op (o 46 (sMov (X 10))),
    .op (o 47 (sMov (X 11))),
    .op (o 48 (sBin .leq .none (X 46) (X 47))),
    .op (o 49 (sMov (X 48))),
    .op (og 49 true 50 (sMov (X 0))),
    .op (og 49 true 51 (sMov (X 11))),
    .op (og 49 true 52 (sIdxAddrS 1 (X 50) (X 51))),
    .op (og 49 true 53 (sLoad 1 false (X 52))),
    .op (og 49 true 54 (sMov (X 0))),
    .op (og 49 true 55 (sMov (X 1))),
    .op (og 49 true 56 (sIdxAddrS 1 (X 54) (X 55))),
    .op (og 49 true 57 (sLoad 1 false (X 56))),
    .hv 4095 (og 49 true 58 (sCall E 46 [(X 53), (X 57)])),
    .op (og 49 true 59 (sUn .not (X 58))),
    .op (o 60 (sPick (X 49) (X 59) (K (.bool false))))])
  (.ite (X 60)
  (.skip)
  (.exit 2)))
  (.block 3 (.reg [o 61 (sMov (X 11)),
    o 62 (sBin .sub .none (X 61) (K (.int .i64 1))),
    o 11 (sMov (X 62))]))
noncomputable def l48x2 (E : Env) : CT :=
  .seq (.seq (.drw [.op (o 99 (sMov (X 10))),
    .op (o 100 (sMov (X 11))),
    .op (o 101 (sBin .leq .none (X 99) (X 100))),
    .op (o 102 (sMov (X 101))),
    .op (og 102 true 103 (sMov (X 0))),
    .op (og 102 true 104 (sMov (X 10))),
    .op (og 102 true 105 (sIdxAddrS 1 (X 103) (X 104))),
    .op (og 102 true 106 (sLoad 1 false (X 105))),
    .op (og 102 true 107 (sMov (X 0))),
    .op (og 102 true 108 (sMov (X 1))),
    .op (og 102 true 109 (sIdxAddrS 1 (X 107) (X 108))),
    .op (og 102 true 110 (sLoad 1 false (X 109))),
    .hv 4095 (og 102 true 111 (sCall E 46 [(X 106), (X 110)])),
    .op (o 112 (sPick (X 102) (X 111) (K (.bool false))))])
  (.ite (X 112)
  (.skip)
  (.exit 6)))
  (.block 7 (.reg [o 113 (sMov (X 10)),
    o 114 (sBin .add .none (X 113) (K (.int .i64 1))),
    o 10 (sMov (X 114))]))
noncomputable def l48x3 (E : Env) : CT :=
  .seq (.seq (.drw [.op (o 115 (sMov (X 10))),
    .op (o 116 (sMov (X 11))),
    .op (o 117 (sBin .leq .none (X 115) (X 116))),
    .op (o 118 (sMov (X 117))),
    .op (og 118 true 119 (sMov (X 0))),
    .op (og 118 true 120 (sMov (X 11))),
    .op (og 118 true 121 (sIdxAddrS 1 (X 119) (X 120))),
    .op (og 118 true 122 (sLoad 1 false (X 121))),
    .op (og 118 true 123 (sMov (X 0))),
    .op (og 118 true 124 (sMov (X 1))),
    .op (og 118 true 125 (sIdxAddrS 1 (X 123) (X 124))),
    .op (og 118 true 126 (sLoad 1 false (X 125))),
    .hv 4095 (og 118 true 127 (sCall E 46 [(X 122), (X 126)])),
    .op (og 118 true 128 (sUn .not (X 127))),
    .op (o 129 (sPick (X 118) (X 128) (K (.bool false))))])
  (.ite (X 129)
  (.skip)
  (.exit 8)))
  (.block 9 (.reg [o 130 (sMov (X 11)),
    o 131 (sBin .sub .none (X 130) (K (.int .i64 1))),
    o 11 (sMov (X 131))]))
noncomputable def l48x4 (E : Env) : CT :=
  .block 5 (.seq (.block 6 (.loop (l48x2 E)))
  (.seq (.block 8 (.loop (l48x3 E)))
  (.seq (.seq (.reg [o 132 (sMov (X 10)),
    o 133 (sMov (X 11)),
    o 134 (sBin .gtr .none (X 132) (X 133))])
  (.ite (X 134)
  (.exit 4)
  (.skip)))
  (.seq (.drw [.op (o 135 (sMov (X 0))),
    .op (o 136 (sMov (X 10))),
    .op (o 137 (sMov (X 0))),
    .op (o 138 (sMov (X 11))),
    .op (o 139 (sMov (X 0))),
    .op (o 140 (sMov (X 11))),
    .op (o 141 (sIdxAddrS 1 (X 139) (X 140))),
    .op (o 142 (sLoad 1 false (X 141))),
    .op (o 143 (sMov (X 0))),
    .op (o 144 (sMov (X 10))),
    .op (o 145 (sIdxAddrS 1 (X 143) (X 144))),
    .op (o 146 (sLoad 1 false (X 145))),
    .op (o 147 (sIdxAddrS 1 (X 135) (X 136))),
    .hv 8179 (u (sStore 1 (X 147) (X 142))),
    .op (o 148 (sIdxAddrS 1 (X 137) (X 138))),
    .hv 32767 (u (sStore 1 (X 148) (X 146)))])
  (.seq (.reg [o 149 (sMov (X 10)),
    o 150 (sBin .add .none (X 149) (K (.int .i64 1))),
    o 10 (sMov (X 150))])
  (.reg [o 151 (sMov (X 11)),
    o 152 (sBin .sub .none (X 151) (K (.int .i64 1))),
    o 11 (sMov (X 152))]))))))
noncomputable def b48 (E : Env) : CT :=
  .seq (.reg [o 8 (sMov (K (.int .i64 0))),
    o 9 (sMov (K (.bool false)))])
  (.seq (.drw [.op (o 12 (sMov (X 0))),
    .op (o 13 (sMov (X 1))),
    .op (o 14 (sMov (X 0))),
    .op (o 15 (sMov (X 3))),
    .op (o 16 (sMov (X 0))),
    .op (o 17 (sMov (X 3))),
    .op (o 18 (sIdxAddrS 1 (X 16) (X 17))),
    .op (o 19 (sLoad 1 false (X 18))),
    .op (o 20 (sMov (X 0))),
    .op (o 21 (sMov (X 1))),
    .op (o 22 (sIdxAddrS 1 (X 20) (X 21))),
    .op (o 23 (sLoad 1 false (X 22))),
    .op (o 24 (sIdxAddrS 1 (X 12) (X 13))),
    .hv 8179 (u (sStore 1 (X 24) (X 19))),
    .op (o 25 (sIdxAddrS 1 (X 14) (X 15))),
    .hv 32767 (u (sStore 1 (X 25) (X 23)))])
  (.seq (.reg [o 26 (sMov (X 1)),
    o 27 (sBin .add .none (X 26) (K (.int .i64 1))),
    o 28 (sMov (X 2)),
    o 29 (sBin .sub .none (X 28) (K (.int .i64 1))),
    o 10 (sMov (X 27)),
    o 11 (sMov (X 29))])
  (.seq (.block 0 (.loop (l48x0 E)))
  (.seq (.block 2 (.loop (l48x1 E)))
  (.seq (.seq (.reg [o 63 (sMov (X 10)),
    o 64 (sMov (X 11)),
    o 65 (sBin .gtr .none (X 63) (X 64))])
  (.ite (X 65)
  (.seq (.drw [.op (o 66 (sMov (X 0))),
    .op (o 67 (sMov (X 11))),
    .op (o 68 (sMov (X 0))),
    .op (o 69 (sMov (X 1))),
    .op (o 70 (sMov (X 0))),
    .op (o 71 (sMov (X 1))),
    .op (o 72 (sIdxAddrS 1 (X 70) (X 71))),
    .op (o 73 (sLoad 1 false (X 72))),
    .op (o 74 (sMov (X 0))),
    .op (o 75 (sMov (X 11))),
    .op (o 76 (sIdxAddrS 1 (X 74) (X 75))),
    .op (o 77 (sLoad 1 false (X 76))),
    .op (o 78 (sIdxAddrS 1 (X 66) (X 67))),
    .hv 8179 (u (sStore 1 (X 78) (X 73))),
    .op (o 79 (sIdxAddrS 1 (X 68) (X 69))),
    .hv 32767 (u (sStore 1 (X 79) (X 77)))])
  (.seq (.reg [o 80 (sMov (X 11)),
    o 8 (sMov (X 80)),
    o 9 (sMov (K (.bool true)))])
  (.ret)))
  (.skip)))
  (.seq (.drw [.op (o 81 (sMov (X 0))),
    .op (o 82 (sMov (X 10))),
    .op (o 83 (sMov (X 0))),
    .op (o 84 (sMov (X 11))),
    .op (o 85 (sMov (X 0))),
    .op (o 86 (sMov (X 11))),
    .op (o 87 (sIdxAddrS 1 (X 85) (X 86))),
    .op (o 88 (sLoad 1 false (X 87))),
    .op (o 89 (sMov (X 0))),
    .op (o 90 (sMov (X 10))),
    .op (o 91 (sIdxAddrS 1 (X 89) (X 90))),
    .op (o 92 (sLoad 1 false (X 91))),
    .op (o 93 (sIdxAddrS 1 (X 81) (X 82))),
    .hv 8179 (u (sStore 1 (X 93) (X 88))),
    .op (o 94 (sIdxAddrS 1 (X 83) (X 84))),
    .hv 32767 (u (sStore 1 (X 94) (X 92)))])
  (.seq (.reg [o 95 (sMov (X 10)),
    o 96 (sBin .add .none (X 95) (K (.int .i64 1))),
    o 10 (sMov (X 96))])
  (.seq (.reg [o 97 (sMov (X 11)),
    o 98 (sBin .sub .none (X 97) (K (.int .i64 1))),
    o 11 (sMov (X 98))])
  (.seq (.block 4 (.loop (l48x4 E)))
  (.seq (.drw [.op (o 153 (sMov (X 0))),
    .op (o 154 (sMov (X 11))),
    .op (o 155 (sMov (X 0))),
    .op (o 156 (sMov (X 1))),
    .op (o 157 (sMov (X 0))),
    .op (o 158 (sMov (X 1))),
    .op (o 159 (sIdxAddrS 1 (X 157) (X 158))),
    .op (o 160 (sLoad 1 false (X 159))),
    .op (o 161 (sMov (X 0))),
    .op (o 162 (sMov (X 11))),
    .op (o 163 (sIdxAddrS 1 (X 161) (X 162))),
    .op (o 164 (sLoad 1 false (X 163))),
    .op (o 165 (sIdxAddrS 1 (X 153) (X 154))),
    .hv 8179 (u (sStore 1 (X 165) (X 160))),
    .op (o 166 (sIdxAddrS 1 (X 155) (X 156))),
    .hv 32767 (u (sStore 1 (X 166) (X 164)))])
  (.seq (.reg [o 167 (sMov (X 11)),
    o 8 (sMov (X 167)),
    o 9 (sMov (K (.bool false)))])
  (.ret))))))))))))
theorem c48 (args : T) (h : AHeap) : (envL prog).call 48 args h = trim h (fin [.tmp 8, .tmp 9] (runC (envL prog) (b48 (envL prog)) (args ++ List.replicate (168 - args.length) .undef) h)) :=
  call_tr (fn := Go.Proofs.Try.f48) tab48 (by kernel_rfl) (by rfl) (by kernel_rfl) (fun t h => by kernel_rfl) rfl args h
/-! f49: math/bits.Len32 -/
def tab49 : Nat → Cert := fun i => ⟨0, 0, 0, 0, 0, 0⟩
noncomputable def b49 (E : Env) : CT :=
  .seq (.reg [o 2 (sMov (K (.int .i64 0)))])
  (.seq (.seq (.reg [o 3 (sMov (X 0)),
    o 4 (sBin .geq .none (X 3) (K (.int .u32 65536)))])
  (.ite (X 4)
  (.seq (.reg [o 5 (sMov (X 0)),
    o 6 (sBin .shr .none (X 5) (K (.int .u64 16))),
    o 0 (sMov (X 6))])
  (.reg [o 2 (sMov (K (.int .i64 16)))]))
  (.skip)))
  (.seq (.seq (.reg [o 7 (sMov (X 0)),
    o 8 (sBin .geq .none (X 7) (K (.int .u32 256)))])
  (.ite (X 8)
  (.seq (.reg [o 9 (sMov (X 0)),
    o 10 (sBin .shr .none (X 9) (K (.int .u64 8))),
    o 0 (sMov (X 10))])
  (.reg [o 11 (sMov (X 2)),
    o 12 (sBin .add .none (X 11) (K (.int .i64 8))),
    o 2 (sMov (X 12))]))
  (.skip)))
  (.seq (.reg [o 13 (sMov (X 2)),
    o 14 (sMov (X 0)),
    o 15 (sConv (.int .u8) (X 14)),
    o 16 (sIdxStr (K (.str ⟨[0, 1, 2, 2, 3, 3, 3, 3, 4, 4, 4, 4, 4, 4, 4, 4, 5, 5, 5, 5, 5, 5, 5, 5, 5, 5, 5, 5, 5, 5, 5, 5, 6, 6, 6, 6, 6, 6, 6, 6, 6, 6, 6, 6, 6, 6, 6, 6, 6, 6, 6, 6, 6, 6, 6, 6, 6, 6, 6, 6, 6, 6, 6, 6, 7, 7, 7, 7, 7, 7, 7, 7, 7, 7, 7, 7, 7, 7, 7, 7, 7, 7, 7, 7, 7, 7, 7, 7, 7, 7, 7, 7, 7, 7, 7, 7, 7, 7, 7, 7, 7, 7, 7, 7, 7, 7, 7, 7, 7, 7, 7, 7, 7, 7, 7, 7, 7, 7, 7, 7, 7, 7, 7, 7, 7, 7, 7, 7, 8, 8, 8, 8, 8, 8, 8, 8, 8, 8, 8, 8, 8, 8, 8, 8, 8, 8, 8, 8, 8, 8, 8, 8, 8, 8, 8, 8, 8, 8, 8, 8, 8, 8, 8, 8, 8, 8, 8, 8, 8, 8, 8, 8, 8, 8, 8, 8, 8, 8, 8, 8, 8, 8, 8, 8, 8, 8, 8, 8, 8, 8, 8, 8, 8, 8, 8, 8, 8, 8, 8, 8, 8, 8, 8, 8, 8, 8, 8, 8, 8, 8, 8, 8, 8, 8, 8, 8, 8, 8, 8, 8, 8, 8, 8, 8, 8, 8, 8, 8, 8, 8, 8, 8, 8, 8, 8, 8, 8, 8, 8, 8, 8, 8, 8, 8, 8, 8, 8, 8, 8, 8, 8, 8, 8, 8, 8, 8].toArray⟩)) (X 15)),
    o 17 (sConv (.int .i64) (X 16)),
    o 18 (sBin .add .none (X 13) (X 17)),
    o 2 (sMov (X 18))])
  (.ret))))
theorem c49 (args : T) (h : AHeap) : (envL prog).call 49 args h = trim h (fin [.tmp 2] (runC (envL prog) (b49 (envL prog)) (args ++ List.replicate (19 - args.length) .undef) h)) :=
  call_tr (fn := Go.Proofs.Try.f49) tab49 (by kernel_rfl) (by rfl) (by kernel_rfl) (fun t h => by kernel_rfl) rfl args h
/-! f50: math/bits.Len64 -/
def tab50 : Nat → Cert := fun i => ⟨0, 0, 0, 0, 0, 0⟩
noncomputable def b50 (E : Env) : CT :=
  .seq (.reg [o 2 (sMov (K (.int .i64 0)))])
  (.seq (.seq (.reg [o 3 (sMov (X 0)),
    o 4 (sBin .geq .none (X 3) (K (.int .u64 4294967296)))])
  (.ite (X 4)
  (.seq (.reg [o 5 (sMov (X 0)),
    o 6 (sBin .shr .none (X 5) (K (.int .u64 32))),
    o 0 (sMov (X 6))])
  (.reg [o 2 (sMov (K (.int .i64 32)))]))
  (.skip)))
  (.seq (.seq (.reg [o 7 (sMov (X 0)),
    o 8 (sBin .geq .none (X 7) (K (.int .u64 65536)))])
  (.ite (X 8)
  (.seq (.reg [o 9 (sMov (X 0)),
    o 10 (sBin .shr .none (X 9) (K (.int .u64 16))),
    o 0 (sMov (X 10))])
  (.reg [o 11 (sMov (X 2)),
    o 12 (sBin .add .none (X 11) (K (.int .i64 16))),
    o 2 (sMov (X 12))]))
  (.skip)))
  (.seq (.seq (.reg [o 13 (sMov (X 0)),
    o 14 (sBin .geq .none (X 13) (K (.int .u64 256)))])
  (.ite (X 14)
  (.seq (.reg [o 15 (sMov (X 0)),
    o 16 (sBin .shr .none (X 15) (K (.int .u64 8))),
    o 0 (sMov (X 16))])
  (.reg [o 17 (sMov (X 2)),
    o 18 (sBin .add .none (X 17) (K (.int .i64 8))),
    o 2 (sMov (X 18))]))
  (.skip)))
  (.seq (.reg [o 19 (sMov (X 2)),
    o 20 (sMov (X 0)),
    o 21 (sConv (.int .u8) (X 20)),
    o 22 (sIdxStr (K (.str ⟨[0, 1, 2, 2, 3, 3, 3, 3, 4, 4, 4, 4, 4, 4, 4, 4, 5, 5, 5, 5, 5, 5, 5, 5, 5, 5, 5, 5, 5, 5, 5, 5, 6, 6, 6, 6, 6, 6, 6, 6, 6, 6, 6, 6, 6, 6, 6, 6, 6, 6, 6, 6, 6, 6, 6, 6, 6, 6, 6, 6, 6, 6, 6, 6, 7, 7, 7, 7, 7, 7, 7, 7, 7, 7, 7, 7, 7, 7, 7, 7, 7, 7, 7, 7, 7, 7, 7, 7, 7, 7, 7, 7, 7, 7, 7, 7, 7, 7, 7, 7, 7, 7, 7, 7, 7, 7, 7, 7, 7, 7, 7, 7, 7, 7, 7, 7, 7, 7, 7, 7, 7, 7, 7, 7, 7, 7, 7, 7, 8, 8, 8, 8, 8, 8, 8, 8, 8, 8, 8, 8, 8, 8, 8, 8, 8, 8, 8, 8, 8, 8, 8, 8, 8, 8, 8, 8, 8, 8, 8, 8, 8, 8, 8, 8, 8, 8, 8, 8, 8, 8, 8, 8, 8, 8, 8, 8, 8, 8, 8, 8, 8, 8, 8, 8, 8, 8, 8, 8, 8, 8, 8, 8, 8, 8, 8, 8, 8, 8, 8, 8, 8, 8, 8, 8, 8, 8, 8, 8, 8, 8, 8, 8, 8, 8, 8, 8, 8, 8, 8, 8, 8, 8, 8, 8, 8, 8, 8, 8, 8, 8, 8, 8, 8, 8, 8, 8, 8, 8, 8, 8, 8, 8, 8, 8, 8, 8, 8, 8, 8, 8, 8, 8, 8, 8, 8, 8].toArray⟩)) (X 21)),
    o 23 (sConv (.int .i64) (X 22)),
    o 24 (sBin .add .none (X 19) (X 23)),
    o 2 (sMov (X 24))])
  (.ret)))))
theorem c50 (args : T) (h : AHeap) : (envL prog).call 50 args h = trim h (fin [.tmp 2] (runC (envL prog) (b50 (envL prog)) (args ++ List.replicate (25 - args.length) .undef) h)) :=
  call_tr (fn := Go.Proofs.Try.f50) tab50 (by kernel_rfl) (by rfl) (by kernel_rfl) (fun t h => by kernel_rfl) rfl args h
/-! f51: slices.isNaN[int] -/
def tab51 : Nat → Cert := fun i => ⟨0, 0, 0, 0, 0, 0⟩
noncomputable def b51 (E : Env) : CT :=
  .seq (.reg [o 2 (sMov (K (.bool false)))])
  (.seq (.reg [o 3 (sMov (X 0)),
    o 4 (sMov (X 0)),
    o 5 (sBin .neq .none (X 3) (X 4)),
    o 2 (sMov (X 5))])
  (.ret))
theorem c51 (args : T) (h : AHeap) : (envL prog).call 51 args h = trim h (fin [.tmp 2] (runC (envL prog) (b51 (envL prog)) (args ++ List.replicate (6 - args.length) .undef) h)) :=
  call_tr (fn := Go.Proofs.Try.f51) tab51 (by kernel_rfl) (by rfl) (by kernel_rfl) (fun t h => by kernel_rfl) rfl args h
/-! f55: slices.siftDownOrdered[int] -/
def tab55 : Nat → Cert := fun i => bif Nat.beq i 3 then ⟨20, 36, 645602181798728057131587448240135231159135510307478730308144788149321134017015916443861081856855851649650130285663092736, 1291123092072354346647350252719733101040229486455609811868915691596763800851514246092596956063060013943264933581335560192, 2757994455920068237064790687386480626910861687125883936940229725221193196985413723714666613729333538620162534546623053360752133177408069348738820876159112527400308700888400855853304451668820648863319218778784743293440, 2969742254029013696749883521819845367280529512446673114114873412189219400353019448187596002532557160992741717120560477500748887892621077802161402961106780625613750322905699214067522303069217917117237592850450⟩ else bif Nat.beq i 5 then ⟨14, 52, 25109185185323398071317743809032535551484148613988707467264, 50212216067634318122037102810549377712284050263439608643584, 706003489677054453844131008732980268405281810652769786048641710037324758565578948818176505962105282203241321646070299084921224222649510105814626126307545453178371897222591171923975613612676571467983177226987991883317249, 16617012189749709166227696274478602195162787008276039043703075542639948004952754026290392306614305449640906637817693093516384952172014270132146033553728197544696584151161631427730053645727294932410974601256⟩ else bif Nat.beq i 6 then ⟨24, 75, 123665189680020930089842455385935485094702377526269401858546311786262598952899553980560090872275820939901112336418298919780242117526093963068236283198521722023342863087042560, 123665189680020956690934973940669559082906539109322808847442238823950983498120810054472690767810011617101778490999305126280099856167906737583713348340727810253099870220976128, 44655217860456380225251627891820367557815291246913510221705071006993104566438862835512053006379588879735368597031223738380576722542113500717717046111952906252640226670744559810801154078437390122093944962121491037707934494022705300823013379488401444846511051669300874589411219142116344713381304617582884910873557282783073823577126508715722989975731714693397361590215243717164072411140043778467290713846505021299903619948513975082719757599755481105359734705713190534349093487288354538251186533505961418921926345646570283383249186259421848666113, 3754517292716860140932372169651189469476835055555086181946997572921741416483655949773821495432034608470622863307607574403072146600373033012132364560619096412840631770008316474261654709585334234880351605383550971405306375273602840283250040506472692786948215926135532080833344413944407800537895157976587833731626250298584414609831189549453700796111425820214409905202848943474807896585112490384308350062292246169006195802905906476411945989016404073459759503284003177971210710826173282949882486592634934⟩ else ⟨0, 0, 0, 0, 0, 0⟩
noncomputable def l55x0 (E : Env) : CT :=
  .block 1 (.seq (.reg [o 11 (sMov (X 8)),
    o 12 (sBin .mul .none (K (.int .i64 2)) (X 11)),
    o 13 (sBin .add .none (X 12) (K (.int .i64 1))),
    o 9 (sMov (X 13))])
  (.seq (.seq (.reg [o 14 (sMov (X 9)),
    o 15 (sMov (X 2)),
    o 16 (sBin .geq .none (X 14) (X 15))])
  (.ite (X 16)
  (.exit 0)
  (.skip)))
  (.seq (.seq (.drw [.op (o 17 (sMov (X 9))),
    .op (o 18 (sBin .add .none (X 17) (K (.int .i64 1)))),
    .op (o 19 (sMov (X 2))),
    .op (o 20 (sBin .lss .none (X 18) (X 19))),
    .op (o 21 (sMov (X 20))),
    .op (og 21 true 22 (sMov (X 0))),
    .op (og 21 true 23 (sMov (X 3))),
    .op (og 21 true 24 (sMov (X 9))),
    .op (og 21 true 25 (sBin .add .none (X 23) (X 24))),
    .op (og 21 true 26 (sIdxAddrS 1 (X 22) (X 25))),
    .op (og 21 true 27 (sLoad 1 false (X 26))),
    .op (og 21 true 28 (sMov (X 0))),
    .op (og 21 true 29 (sMov (X 3))),
    .op (og 21 true 30 (sMov (X 9))),
    .op (og 21 true 31 (sBin .add .none (X 29) (X 30))),
    .op (og 21 true 32 (sBin .add .none (X 31) (K (.int .i64 1)))),
    .op (og 21 true 33 (sIdxAddrS 1 (X 28) (X 32))),
    .op (og 21 true 34 (sLoad 1 false (X 33))),
    .hv 262143 (og 21 true 35 (sCall E 46 [(X 27), (X 34)])),
    .op (o 36 (sPick (X 21) (X 35) (K (.bool false))))])
  (.ite (X 36)
  (.reg [o 37 (sMov (X 9)),
    o 38 (sBin .add .none (X 37) (K (.int .i64 1))),
    o 9 (sMov (X 38))])
  (.skip)))
  (.seq (.seq (.drw [.op (o 39 (sMov (X 0))),
    .op (o 40 (sMov (X 3))),
    .op (o 41 (sMov (X 8))),
    .op (o 42 (sBin .add .none (X 40) (X 41))),
    .op (o 43 (sIdxAddrS 1 (X 39) (X 42))),
    .op (o 44 (sLoad 1 false (X 43))),
    .op (o 45 (sMov (X 0))),
    .op (o 46 (sMov (X 3))),
    .op (o 47 (sMov (X 9))),
    .op (o 48 (sBin .add .none (X 46) (X 47))),
    .op (o 49 (sIdxAddrS 1 (X 45) (X 48))),
    .op (o 50 (sLoad 1 false (X 49))),
    .hv 4095 (o 51 (sCall E 46 [(X 44), (X 50)])),
    .op (o 52 (sUn .not (X 51)))])
  (.ite (X 52)
  (.ret)
  (.skip)))
  (.seq (.drw [.op (o 53 (sMov (X 0))),
    .op (o 54 (sMov (X 3))),
    .op (o 55 (sMov (X 8))),
    .op (o 56 (sBin .add .none (X 54) (X 55))),
    .op (o 57 (sMov (X 0))),
    .op (o 58 (sMov (X 3))),
    .op (o 59 (sMov (X 9))),
    .op (o 60 (sBin .add .none (X 58) (X 59))),
    .op (o 61 (sMov (X 0))),
    .op (o 62 (sMov (X 3))),
    .op (o 63 (sMov (X 9))),
    .op (o 64 (sBin .add .none (X 62) (X 63))),
    .op (o 65 (sIdxAddrS 1 (X 61) (X 64))),
    .op (o 66 (sLoad 1 false (X 65))),
    .op (o 67 (sMov (X 0))),
    .op (o 68 (sMov (X 3))),
    .op (o 69 (sMov (X 8))),
    .op (o 70 (sBin .add .none (X 68) (X 69))),
    .op (o 71 (sIdxAddrS 1 (X 67) (X 70))),
    .op (o 72 (sLoad 1 false (X 71))),
    .op (o 73 (sIdxAddrS 1 (X 53) (X 56))),
    .hv 2096911 (u (sStore 1 (X 73) (X 66))),
    .op (o 74 (sIdxAddrS 1 (X 57) (X 60))),
    .hv 8388607 (u (sStore 1 (X 74) (X 72)))])
  (.reg [o 75 (sMov (X 9)),
    o 8 (sMov (X 75))]))))))
noncomputable def b55 (E : Env) : CT :=
  .seq (.reg [o 10 (sMov (X 1)),
    o 8 (sMov (X 10))])
  (.block 0 (.loop (l55x0 E)))
theorem c55 (args : T) (h : AHeap) : (envL prog).call 55 args h = trim h (fin [] (runC (envL prog) (b55 (envL prog)) (args ++ List.replicate (76 - args.length) .undef) h)) :=
  call_tr (fn := Go.Proofs.Try.f55) tab55 (by kernel_rfl) (by rfl) (by kernel_rfl) (fun t h => by kernel_rfl) rfl args h
/-! f56: slices.nextPowerOfTwo -/
def tab56 : Nat → Cert := fun i => ⟨0, 0, 0, 0, 0, 0⟩
noncomputable def b56 (E : Env) : CT :=
  .seq (.reg [o 2 (sMov (K (.int .u64 0)))])
  (.seq (.reg [o 3 (sMov (X 0)),
    o 4 (sConv (.int .u64) (X 3)),
    o 5 (sCall E 30 [(X 4)]),
    o 6 (sBin .shl .none (K (.int .u64 1)) (X 5)),
    o 2 (sMov (X 6))])
  (.ret))
theorem c56 (args : T) (h : AHeap) : (envL prog).call 56 args h = trim h (fin [.tmp 2] (runC (envL prog) (b56 (envL prog)) (args ++ List.replicate (7 - args.length) .undef) h)) :=
  call_tr (fn := Go.Proofs.Try.f56) tab56 (by kernel_rfl) (by rfl) (by kernel_rfl) (fun t h => by kernel_rfl) rfl args h
/-! f57: (*slices.xorshift).Next -/
def tab57 : Nat → Cert := fun i => bif Nat.beq i 1 then ⟨10, 12, 632895716475972771038994891776, 632895786158557516676081910784, 996921641187686426129870066552963073, 950950768349467600376140156932⟩ else bif Nat.beq i 2 then ⟨10, 21, 632895716475972771038994891776, 632895786158557516676081910784, 1234128419523449763548935371233300768137573164784632213530476545, 7857036370411782195135753838658542811253232176726029⟩ else bif Nat.beq i 3 then ⟨10, 30, 632895716475972771038994891776, 632895786158557516676081910784, 1527776982254569911791587760454311095962126870927221038801806915663021374815204865340342273, 53005411991071162092723775427562237540642243020906600868786672754390728726⟩ else ⟨0, 0, 0, 0, 0, 0⟩
noncomputable def b57 (E : Env) : CT :=
  .seq (.reg [o 2 (sMov (K (.int .u64 0)))])
  (.seq (.drw [.op (o 3 (sMov (X 0))),
    .op (o 4 (sNil (X 3))),
    .op (o 5 (sLoad 1 false (X 4))),
    .op (o 6 (sMov (X 0))),
    .op (o 7 (sNil (X 6))),
    .op (o 8 (sLoad 1 false (X 7))),
    .op (o 9 (sBin .shl .none (X 8) (K (.int .u64 13)))),
    .op (o 10 (sBin .xor .none (X 5) (X 9))),
    .op (o 11 (sNil (X 3))),
    .hv 511 (u (sStore 1 (X 11) (X 10)))])
  (.seq (.drw [.op (o 12 (sMov (X 0))),
    .op (o 13 (sNil (X 12))),
    .op (o 14 (sLoad 1 false (X 13))),
    .op (o 15 (sMov (X 0))),
    .op (o 16 (sNil (X 15))),
    .op (o 17 (sLoad 1 false (X 16))),
    .op (o 18 (sBin .shr .none (X 17) (K (.int .u64 7)))),
    .op (o 19 (sBin .xor .none (X 14) (X 18))),
    .op (o 20 (sNil (X 12))),
    .hv 511 (u (sStore 1 (X 20) (X 19)))])
  (.seq (.drw [.op (o 21 (sMov (X 0))),
    .op (o 22 (sNil (X 21))),
    .op (o 23 (sLoad 1 false (X 22))),
    .op (o 24 (sMov (X 0))),
    .op (o 25 (sNil (X 24))),
    .op (o 26 (sLoad 1 false (X 25))),
    .op (o 27 (sBin .shl .none (X 26) (K (.int .u64 17)))),
    .op (o 28 (sBin .xor .none (X 23) (X 27))),
    .op (o 29 (sNil (X 21))),
    .hv 511 (u (sStore 1 (X 29) (X 28)))])
  (.seq (.reg [o 30 (sMov (X 0)),
    o 31 (sNil (X 30)),
    o 32 (sLoad 1 false (X 31)),
    o 2 (sMov (X 32))])
  (.ret)))))
theorem c57 (args : T) (h : AHeap) : (envL prog).call 57 args h = trim h (fin [.tmp 2] (runC (envL prog) (b57 (envL prog)) (args ++ List.replicate (33 - args.length) .undef) h)) :=
  call_tr (fn := Go.Proofs.Try.f57) tab57 (by kernel_rfl) (by rfl) (by kernel_rfl) (fun t h => by kernel_rfl) rfl args h
/-! f58: slices.medianAdjacentOrdered[int] -/
def tab58 : Nat → Cert := fun i => ⟨0, 0, 0, 0, 0, 0⟩
noncomputable def b58 (E : Env) : CT :=
  .seq (.reg [o 6 (sMov (K (.int .i64 0)))])
  (.seq (.reg [o 7 (sMov (X 0)),
    o 8 (sMov (X 1)),
    o 9 (sBin .sub .none (X 8) (K (.int .i64 1))),
    o 10 (sMov (X 1)),
    o 11 (sMov (X 1)),
    o 12 (sBin .add .none (X 11) (K (.int .i64 1))),
    o 13 (sMov (X 2)),
    o 14 (sCall E 59 [(X 7), (X 9), (X 10), (X 12), (X 13)]),
    o 6 (sMov (X 14))])
  (.ret))
theorem c58 (args : T) (h : AHeap) : (envL prog).call 58 args h = trim h (fin [.tmp 6] (runC (envL prog) (b58 (envL prog)) (args ++ List.replicate (15 - args.length) .undef) h)) :=
  call_tr (fn := Go.Proofs.Try.f58) tab58 (by kernel_rfl) (by rfl) (by kernel_rfl) (fun t h => by kernel_rfl) rfl args h
/-! f59: slices.medianOrdered[int] -/
def tab59 : Nat → Cert := fun i => ⟨0, 0, 0, 0, 0, 0⟩
noncomputable def b59 (E : Env) : CT :=
  .seq (.reg [o 10 (sMov (K (.int .i64 0)))])
  (.seq (.reg [o 12 (sMov (X 0)),
    o 13 (sMov (X 1)),
    o 14 (sMov (X 2)),
    o 15 (sMov (X 4)),
    o 16 (sCall E 63 [(X 12), (X 13), (X 14), (X 15)]),
    o 11 (sMov (X 16)),
    o 17 (sExtract (X 11) 0),
    o 18 (sExtract (X 11) 1),
    o 1 (sMov (X 17)),
    o 2 (sMov (X 18))])
  (.seq (.reg [o 20 (sMov (X 0)),
    o 21 (sMov (X 2)),
    o 22 (sMov (X 3)),
    o 23 (sMov (X 4)),
    o 24 (sCall E 63 [(X 20), (X 21), (X 22), (X 23)]),
    o 19 (sMov (X 24)),
    o 25 (sExtract (X 19) 0),
    o 26 (sExtract (X 19) 1),
    o 2 (sMov (X 25)),
    o 3 (sMov (X 26))])
  (.seq (.reg [o 28 (sMov (X 0)),
    o 29 (sMov (X 1)),
    o 30 (sMov (X 2)),
    o 31 (sMov (X 4)),
    o 32 (sCall E 63 [(X 28), (X 29), (X 30), (X 31)]),
    o 27 (sMov (X 32)),
    o 33 (sExtract (X 27) 0),
    o 34 (sExtract (X 27) 1),
    o 1 (sMov (X 33)),
    o 2 (sMov (X 34))])
  (.seq (.reg [o 35 (sMov (X 2)),
    o 10 (sMov (X 35))])
  (.ret)))))
theorem c59 (args : T) (h : AHeap) : (envL prog).call 59 args h = trim h (fin [.tmp 10] (runC (envL prog) (b59 (envL prog)) (args ++ List.replicate (36 - args.length) .undef) h)) :=
  call_tr (fn := Go.Proofs.Try.f59) tab59 (by kernel_rfl) (by rfl) (by kernel_rfl) (fun t h => by kernel_rfl) rfl args h
/-! f60: cmp.isNaN[int] -/
def tab60 : Nat → Cert := fun i => ⟨0, 0, 0, 0, 0, 0⟩
noncomputable def b60 (E : Env) : CT :=
  .seq (.reg [o 2 (sMov (K (.bool false)))])
  (.seq (.reg [o 3 (sMov (X 0)),
    o 4 (sMov (X 0)),
    o 5 (sBin .neq .none (X 3) (X 4)),
    o 2 (sMov (X 5))])
  (.ret))
theorem c60 (args : T) (h : AHeap) : (envL prog).call 60 args h = trim h (fin [.tmp 2] (runC (envL prog) (b60 (envL prog)) (args ++ List.replicate (6 - args.length) .undef) h)) :=
  call_tr (fn := Go.Proofs.Try.f60) tab60 (by kernel_rfl) (by rfl) (by kernel_rfl) (fun t h => by kernel_rfl) rfl args h
/-! f63: slices.order2Ordered[int] -/
def tab63 : Nat → Cert := fun i => bif Nat.beq i 1 then ⟨9, 18, 642833002171759447506944, 1205237335491016659828736, 3105696554530419069790510528801239694403112534017, 423715690048249819131568951036895879473659915⟩ else ⟨0, 0, 0, 0, 0, 0⟩
noncomputable def b63 (E : Env) : CT :=
  .seq (.reg [o 8 (sMov (K (.int .i64 0))),
    o 9 (sMov (K (.int .i64 0)))])
  (.seq (.seq (.drw [.op (o 10 (sMov (X 0))),
    .op (o 11 (sMov (X 2))),
    .op (o 12 (sIdxAddrS 1 (X 10) (X 11))),
    .op (o 13 (sLoad 1 false (X 12))),
    .op (o 14 (sMov (X 0))),
    .op (o 15 (sMov (X 1))),
    .op (o 16 (sIdxAddrS 1 (X 14) (X 15))),
    .op (o 17 (sLoad 1 false (X 16))),
    .hv 255 (o 18 (sCall E 46 [(X 13), (X 17)]))])
  (.ite (X 18)
  (.seq (.reg [o 19 (sMov (X 3)),
    o 20 (sNil (X 19)),
    o 21 (sLoad 1 false (X 20)),
    o 22 (sBin .add .none (X 21) (K (.int .i64 1))),
    o 23 (sNil (X 19)),
    u (sStore 1 (X 23) (X 22))])
  (.seq (.reg [o 24 (sMov (X 2)),
    o 25 (sMov (X 1)),
    o 8 (sMov (X 24)),
    o 9 (sMov (X 25))])
  (.ret)))
  (.skip)))
  (.seq (.reg [o 26 (sMov (X 1)),
    o 27 (sMov (X 2)),
    o 8 (sMov (X 26)),
    o 9 (sMov (X 27))])
  (.ret)))
theorem c63 (args : T) (h : AHeap) : (envL prog).call 63 args h = trim h (fin [.tmp 8, .tmp 9] (runC (envL prog) (b63 (envL prog)) (args ++ List.replicate (28 - args.length) .undef) h)) :=
  call_tr (fn := Go.Proofs.Try.f63) tab63 (by kernel_rfl) (by rfl) (by kernel_rfl) (fun t h => by kernel_rfl) rfl args h
end Go.Proofs.Ytfioahnogphnfaa.G12

