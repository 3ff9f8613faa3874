/- What the functions that ChainCuts reaches answer, for every argument. No condition but those in each statement. -/
import Derived.Test.YthhodjcgcgkaaaaE5
import Derived.Test.YthhodjcgcgkaaaaProg
set_option maxRecDepth 100000
set_option linter.unusedVariables false
namespace Go.Proofs.Ythhodjcgcgkaaaa.G11
open Go Go.Proofs.Ythhodjcgcgkaaaa.Eng
noncomputable abbrev prog : Program := Go.Proofs.Try.prog
def tab4 : Nat → Cert := fun i => ⟨0, 0, 0, 0, 0, 0⟩
noncomputable def b4 (E : Env) : CT :=
 .seq (.reg [o 4 (sMov (K (.bool false)))])
 (.seq (.seq (.reg [o 6 (sMov (X 0)),
  o 7 (sCall E 9 [(X 6)]),
  o 8 (sUn .not (X 7))])
 (.ite (X 8)
 (.seq (.reg [o 9 (sCall E 10 []),
  o 4 (sMov (X 9))])
 (.ret))
 (.skip)))
 (.seq (.reg [o 10 (sMov (X 0)),
  o 11 (sCall E 11 [(X 10)]),
  o 5 (sMov (X 11))])
 (.seq (.reg [o 12 (sMov (X 5)),
  o 13 (sMov (X 1)),
  o 14 (sCall E 22 [(X 12), (X 13)]),
  o 15 (sMov (X 0)),
  o 16 (sMov (X 1)),
  o 17 (sCall E 23 [(X 15), (X 16)]),
  o 18 (sCall E 21 [(X 14), (X 17)]),
  o 19 (sMov (X 18)),
  og 19 true 20 (sMov (X 5)),
  og 19 true 21 (sMov (X 1)),
  og 19 true 22 (sCall E 24 [(X 20), (X 21)]),
  og 19 true 23 (sMov (X 0)),
  og 19 true 24 (sMov (X 1)),
  og 19 true 25 (sCall E 25 [(X 23), (X 24)]),
  og 19 true 26 (sCall E 21 [(X 22), (X 25)]),
  o 27 (sPick (X 19) (X 26) (K (.bool false))),
  o 28 (sMov (X 27)),
  og 28 true 29 (sMov (X 5)),
  og 28 true 30 (sMov (X 0)),
  og 28 true 31 (sCall E 21 [(X 29), (X 30)]),
  o 32 (sPick (X 28) (X 31) (K (.bool false))),
  o 33 (sMov (X 32)),
  og 33 true 34 (sCall E 10 []),
  o 35 (sPick (X 33) (X 34) (K (.bool false))),
  o 4 (sMov (X 35))])
 (.ret))))
theorem c4 (args : T) (h : AHeap) : (envL prog).call 4 args h = trim h (fin [.tmp 4] (runC (envL prog) (b4 (envL prog)) (args ++ List.replicate (36 - args.length) .undef) h)) :=
 call_tr (fn := Go.Proofs.Try.f4) tab4 (by kernel_rfl) (by rfl) (by kernel_rfl) (fun t h => by kernel_rfl) rfl args h
theorem d4 (E : Env) (args : T) (h : AHeap) : callBody prog E 4 args h = trim h (fin [.tmp 4] (runC E (b4 E) (args ++ List.replicate (36 - args.length) .undef) h)) :=
 body_tr (fn := Go.Proofs.Try.f4) tab4 (by kernel_rfl) (by rfl) (by kernel_rfl) (fun t h => by kernel_rfl) rfl args h
def tab9 : Nat → Cert := fun i => ⟨0, 0, 0, 0, 0, 0⟩
noncomputable def l9x0 (E : Env) : CT :=
 .seq (.seq (.reg [o 4 (sMov (X 3)),
  o 5 (sMov (X 0)),
  o 6 (sLenSl (X 5)),
  o 7 (sBin .lss .none (X 4) (X 6))])
 (.ite (X 7)
 (.skip)
 (.exit 0)))
 (.seq (.block 1 (.seq (.reg [o 10 (sMov (X 0)),
  o 11 (sMov (X 3)),
  o 12 (sIdxAddrS 3 (X 10) (X 11)),
  o 13 (sFieldAddr 1 (X 12)),
  o 14 (sLoad 1 false (X 13)),
  o 15 (sLenSl (X 14)),
  o 16 (sBin .gtr .none (X 15) (K (.int .i64 40))),
  o 17 (sMov (X 16)),
  og 17 false 18 (sMov (X 0)),
  og 17 false 19 (sMov (X 3)),
  og 17 false 20 (sIdxAddrS 3 (X 18) (X 19)),
  og 17 false 21 (sFieldAddr 2 (X 20)),
  og 17 false 22 (sLoad 1 false (X 21)),
  og 17 false 23 (sLenSl (X 22)),
  og 17 false 24 (sBin .gtr .none (X 23) (K (.int .i64 80))),
  o 25 (sPick (X 17) (K (.bool true)) (X 24))])
 (.ite (X 25)
 (.seq (.reg [o 2 (sMov (K (.bool false)))])
 (.ret))
 (.skip))))
 (.reg [o 8 (sMov (X 3)),
  o 9 (sBin .add .none (X 8) (K (.int .i64 1))),
  o 3 (sMov (X 9))]))
noncomputable def b9 (E : Env) : CT :=
 .seq (.reg [o 2 (sMov (K (.bool false)))])
 (.seq (.seq (.reg [o 3 (sMov (K (.int .i64 0)))])
 (.block 0 (.loop (l9x0 E))))
 (.seq (.reg [o 26 (sMov (X 0)),
  o 27 (sLenSl (X 26)),
  o 28 (sBin .leq .none (X 27) (K (.int .i64 12))),
  o 2 (sMov (X 28))])
 (.ret)))
theorem c9 (args : T) (h : AHeap) : (envL prog).call 9 args h = trim h (fin [.tmp 2] (runC (envL prog) (b9 (envL prog)) (args ++ List.replicate (29 - args.length) .undef) h)) :=
 call_tr (fn := Go.Proofs.Try.f9) tab9 (by kernel_rfl) (by rfl) (by kernel_rfl) (fun t h => by kernel_rfl) rfl args h
def tab10 : Nat → Cert := fun i => ⟨0, 0, 0, 0, 0, 0⟩
noncomputable def b10 (E : Env) : CT :=
 .seq (.reg [o 0 (sMov (K (.bool false)))])
 (.seq (.reg [o 8 (sCall E 31 []),
  o 1 (sMov (X 8))])
 (.seq (.reg [o 9 (sMov (X 1)),
  o 10 (sCall E 22 [(X 9), (K (.int .i64 1))]),
  o 2 (sMov (X 10))])
 (.seq (.reg [o 11 (sMov (X 1)),
  o 12 (sCall E 24 [(X 11), (K (.int .i64 1))]),
  o 3 (sMov (X 12))])
 (.seq (.reg [o 14 (sMov (X 1)),
  o 15 (sCall E 12 [(X 14), (K (.int .i64 0)), (K (.int .i64 3))]),
  o 13 (sMov (X 15)),
  o 16 (sExtract (X 13) 0),
  o 17 (sExtract (X 13) 1),
  o 4 (sMov (X 16)),
  o 5 (sMov (X 17))])
 (.seq (.reg [o 19 (sMov (X 1)),
  o 20 (sCall E 12 [(X 19), (K (.int .i64 0)), (K (.int .i64 4))]),
  o 18 (sMov (X 20)),
  o 21 (sExtract (X 18) 0),
  o 22 (sExtract (X 18) 1),
  o 6 (sMov (X 21)),
  o 7 (sMov (X 22))])
 (.seq (.reg [o 23 (sMov (X 1)),
  o 24 (sCall E 14 [(X 23), (K (.int .i64 8)), (K (.int .i64 4))]),
  o 25 (sMov (X 24)),
  og 25 true 26 (sMov (X 1)),
  og 25 true 27 (sCall E 16 [(X 26), (K (.int .i64 5))]),
  og 25 true 28 (sBin .eql .none (X 27) (K (.int .i64 2))),
  o 29 (sPick (X 25) (X 28) (K (.bool false))),
  o 30 (sMov (X 29)),
  og 30 true 31 (sMov (X 1)),
  og 30 true 32 (sCall E 16 [(X 31), (K (.int .i64 2))]),
  og 30 true 33 (sBin .eql .none (X 32) (K (.int .i64 (-1)))),
  o 34 (sPick (X 30) (X 33) (K (.bool false))),
  o 35 (sMov (X 34)),
  og 35 true 36 (sMov (X 2)),
  og 35 true 37 (sLenSl (X 36)),
  og 35 true 38 (sBin .eql .none (X 37) (K (.int .i64 2))),
  o 39 (sPick (X 35) (X 38) (K (.bool false))),
  o 40 (sMov (X 39)),
  og 40 true 41 (sMov (X 2)),
  og 40 true 42 (sIdxAddrS 3 (X 41) (K (.int .i64 0))),
  og 40 true 43 (sFieldAddr 2 (X 42)),
  og 40 true 44 (sLoad 1 false (X 43)),
  og 40 true 45 (sLenSl (X 44)),
  og 40 true 46 (sBin .eql .none (X 45) (K (.int .i64 3))),
  o 47 (sPick (X 40) (X 46) (K (.bool false))),
  o 48 (sMov (X 47)),
  og 48 true 49 (sMov (X 2)),
  og 48 true 50 (sIdxAddrS 3 (X 49) (K (.int .i64 0))),
  og 48 true 51 (sFieldAddr 1 (X 50)),
  og 48 true 52 (sLoad 1 false (X 51)),
  og 48 true 53 (sIdxAddrS 1 (X 52) (K (.int .i64 0))),
  og 48 true 54 (sLoad 1 false (X 53)),
  og 48 true 55 (sBin .eql .none (X 54) (K (.int .u8 14))),
  o 56 (sPick (X 48) (X 55) (K (.bool false))),
  o 57 (sMov (X 56)),
  og 57 true 58 (sMov (X 3)),
  og 57 true 59 (sLenSl (X 58)),
  og 57 true 60 (sBin .eql .none (X 59) (K (.int .i64 2))),
  o 61 (sPick (X 57) (X 60) (K (.bool false))),
  o 62 (sMov (X 61)),
  og 62 true 63 (sMov (X 3)),
  og 62 true 64 (sIdxAddrS 3 (X 63) (K (.int .i64 1))),
  og 62 true 65 (sFieldAddr 2 (X 64)),
  og 62 true 66 (sLoad 1 false (X 65)),
  og 62 true 67 (sLenSl (X 66)),
  og 62 true 68 (sBin .eql .none (X 67) (K (.int .i64 0))),
  o 69 (sPick (X 62) (X 68) (K (.bool false))),
  o 70 (sMov (X 69)),
  og 70 true 71 (sMov (X 3)),
  og 70 true 72 (sIdxAddrS 3 (X 71) (K (.int .i64 1))),
  og 70 true 73 (sFieldAddr 1 (X 72)),
  og 70 true 74 (sLoad 1 false (X 73)),
  og 70 true 75 (sIdxAddrS 1 (X 74) (K (.int .i64 0))),
  og 70 true 76 (sLoad 1 false (X 75)),
  og 70 true 77 (sBin .eql .none (X 76) (K (.int .u8 0))),
  o 78 (sPick (X 70) (X 77) (K (.bool false))),
  o 79 (sMov (X 78)),
  og 79 true 80 (sMov (X 5)),
  o 81 (sPick (X 79) (X 80) (K (.bool false))),
  o 82 (sMov (X 81)),
  og 82 true 83 (sMov (X 4)),
  og 82 true 84 (sBin .eql .none (X 83) (K (.int .i64 3))),
  o 85 (sPick (X 82) (X 84) (K (.bool false))),
  o 86 (sMov (X 85)),
  og 86 true 87 (sMov (X 7)),
  og 86 true 88 (sUn .not (X 87)),
  o 89 (sPick (X 86) (X 88) (K (.bool false))),
  o 90 (sMov (X 89)),
  og 90 true 91 (sMov (X 1)),
  og 90 true 92 (sCall E 19 [(X 91), (K (.int .i64 0)), (K (.int .i64 2))]),
  og 90 true 93 (sBuildSl 1 1 [.int .u8 0] [(0, 1, (K (.int .u8 14)))]),
  og 90 true 94 (sCall E 18 [(X 92), (X 93)]),
  o 95 (sPick (X 90) (X 94) (K (.bool false))),
  o 0 (sMov (X 95))])
 (.ret)))))))
theorem d10 (E : Env) (args : T) (h : AHeap) : callBody prog E 10 args h = trim h (fin [.tmp 0] (runC E (b10 E) (args ++ List.replicate (96 - args.length) .undef) h)) :=
 body_tr (fn := Go.Proofs.Try.f10) tab10 (by kernel_rfl) (by rfl) (by kernel_rfl) (fun t h => by kernel_rfl) rfl args h
def tab11 : Nat → Cert := fun i => bif Nat.beq i 5 then ⟨24, 34, 123665188297956341489705328660100994040701509796628765393282705292376775491875249131562981529530227696830600829213124663389497742820965827251959667118486893146851803905654784, 123665189680020956703452420371365345793402128922964192686355718144248408764028748182070656932443682073954020777391514008574333533808118129279582007983941216098465064670986240, 218497496942966181991559260880349864975321524803769982612594698812958555625021422703123933621147944294927040160385117000418079909352018341426941603768637229458190957185643976355684743536863784974657983173230053752838585075561107570950027297685512, 101745825747359546209796801745576505077055471908381831274261949310596483330430297846841473805970714656032122947437292044354909686915189876665613749089572875302114848571679569007095894424137497364187878770095125221659902491105205526986764⟩ else ⟨0, 0, 0, 0, 0, 0⟩
noncomputable def l11x0 (E : Env) : CT :=
 .seq (.seq (.reg [o 5 (sMov (X 4)),
  o 6 (sMov (X 0)),
  o 7 (sLenSl (X 6)),
  o 8 (sBin .lss .none (X 5) (X 7))])
 (.ite (X 8)
 (.skip)
 (.exit 0)))
 (.seq (.block 1 (.drw [.op (o 11 (sMov (X 3))),
  .op (o 12 (sMov (X 0))),
  .op (o 13 (sMov (X 4))),
  .op (o 14 (sIdxAddrS 3 (X 12) (X 13))),
  .op (o 15 (sFieldAddr 0 (X 14))),
  .rd 5 (o 16 (sLoad 1 false (X 15))),
  .op (o 17 (sBuildSl 1 0 [.int .u8 0] [])),
  .op (o 18 (sMov (X 0))),
  .op (o 19 (sMov (X 4))),
  .op (o 20 (sIdxAddrS 3 (X 18) (X 19))),
  .op (o 21 (sFieldAddr 1 (X 20))),
  .op (o 22 (sLoad 1 false (X 21))),
  .op (o 24 (sBuildSl 2 0 [.int .i64 0, .int .i64 0] [])),
  .op (o 25 (sMov (X 0))),
  .op (o 26 (sMov (X 4))),
  .op (o 27 (sIdxAddrS 3 (X 25) (X 26))),
  .op (o 28 (sFieldAddr 2 (X 27))),
  .rd 18 (o 29 (sLoad 1 false (X 28))),
  .hv 4032 (o 23 (sApp (ty 1 false 1 [.int .u8 0]) (X 17) (X 22))),
  .hv 524224 (o 30 (sApp (ty 2 true 16 [.int .i64 0, .int .i64 0]) (X 24) (X 29))),
  .op (o 31 (sBuild [.int .i64 0, .nilSl, .nilSl] [(0, 1, (X 16)), (1, 1, (X 23)), (2, 1, (X 30))])),
  .op (o 32 (sBuildSl 3 1 [.int .i64 0, .nilSl, .nilSl] [(0, 3, (X 31))])),
  .hv 4194303 (o 33 (sApp (ty 3 true 56 [.int .i64 0, .nilSl, .nilSl]) (X 11) (X 32))),
  .op (o 3 (sMov (X 33)))]))
 (.reg [o 9 (sMov (X 4)),
  o 10 (sBin .add .none (X 9) (K (.int .i64 1))),
  o 4 (sMov (X 10))]))
noncomputable def b11 (E : Env) : CT :=
 .seq (.reg [o 2 (sMov (K (.nilSl)))])
 (.seq (.reg [o 3 (sMov (K (.nilSl)))])
 (.seq (.seq (.reg [o 4 (sMov (K (.int .i64 0)))])
 (.block 0 (.loop (l11x0 E))))
 (.seq (.reg [o 34 (sMov (X 3)),
  o 2 (sMov (X 34))])
 (.ret))))
theorem c11 (args : T) (h : AHeap) : (envL prog).call 11 args h = trim h (fin [.tmp 2] (runC (envL prog) (b11 (envL prog)) (args ++ List.replicate (35 - args.length) .undef) h)) :=
 call_tr (fn := Go.Proofs.Try.f11) tab11 (by kernel_rfl) (by rfl) (by kernel_rfl) (fun t h => by kernel_rfl) rfl args h
def tab12 : Nat → Cert := fun i => ⟨0, 0, 0, 0, 0, 0⟩
noncomputable def aq12x0 (E : Env) : CT :=
 .reg [o 9 (sAlloc [.int .i64 0, .nilSl, .nilSl]),
  u (sStore 3 (X 9) (X 14))]
noncomputable def bq12x0 (E : Env) : CT :=
 .block 1 (.seq (.reg [o 16 (sFieldAddr 2 (X 9)),
  o 17 (sLoad 1 false (X 16)),
  o 18 (sLoad 1 false (X 5)),
  o 19 (sCall E 26 [(X 17), (X 18)]),
  o 15 (sMov (X 19)),
  o 20 (sExtract (X 15) 0),
  o 21 (sExtract (X 15) 1),
  u (sStore 1 (X 6) (X 20)),
  u (sStore 1 (X 7) (X 21))])
 (.seq (.reg [o 22 (sLoad 1 false (X 7))])
 (.ite (X 22)
 (.seq (.reg [o 23 (sLoad 1 false (X 6)),
  u (sStore 1 (X 6) (X 23)),
  u (sStore 1 (X 7) (K (.bool true)))])
 (.ret))
 (.skip))))
noncomputable def kaq12x0 : Code := (nthRange Go.Proofs.Try.f12 0).1
noncomputable def kbq12x0 : Code := (nthRange Go.Proofs.Try.f12 0).2
theorem eaq12x0 (E : Env) (t : T) (h : AHeap) : evalCode prog E kaq12x0 t h = runC E (aq12x0 E) t h := code_tr tab12 (by kernel_rfl) t h
theorem ebq12x0 (E : Env) (t : T) (h : AHeap) : evalCode prog E kbq12x0 t h = runC E (bq12x0 E) t h := code_tr tab12 (by kernel_rfl) t h
noncomputable def b12 (E : Env) : CT :=
 .seq (.reg [o 5 (sBox (X 2)),
  o 6 (sAlloc [.int .i64 0]),
  o 7 (sAlloc [.bool false])])
 (.seq (.seq (.reg [o 10 (sMov (X 0)),
  o 11 (sMov (X 1)),
  o 12 (sCall E 32 [(X 10), (X 11)])])
 (.block 0 (.range (X 12) [13, 14] kaq12x0 kbq12x0)))
 (.seq (.reg [u (sStore 1 (X 6) (K (.int .i64 0))),
  u (sStore 1 (X 7) (K (.bool false)))])
 (.ret)))
theorem c12 (args : T) (h : AHeap) : (envL prog).call 12 args h = trim h (fin [.cell 6 1 false, .cell 7 1 false] (runC (envL prog) (b12 (envL prog)) (args ++ List.replicate (24 - args.length) .undef) h)) :=
 call_tr (fn := Go.Proofs.Try.f12) tab12 (by kernel_rfl) (by rfl) (by kernel_rfl) (fun t h => by kernel_rfl) rfl args h
def tab14 : Nat → Cert := fun i => bif Nat.beq i 7 then ⟨25, 43, 34812909121011335196656214016632767997840829462749138344832195379092733351160280114368459919889280209772584522835387045792376155151324300324561089389200316152743191243459525274715432157184, 69617315882342512291642881477108290795808739161222699080920214833351908619100982194779461620409143511048112917758754117540891806882145539893837862635986031505225687665965272144664909053952, 202426960613634076434335032550943331740861803360183631553168059300631602878522618336196548323712208353414766544879666657444158253084091293424371119223093221743631321511596339453351156680739272083919248731575288092920848678094018380149173112349813881429305598041386837508685065046128739858145349534257260109836128899328639488, 2024921547109137613417993539810473467089266335261361541122574936241877803252792585534968486927815901978802223679123871654271022260548871320125164849058659774102900402664311211739475871247921816559680102091611651395659288415264994705965195507043685553973055641574783825399203616866638144283196931881096481117044756⟩ else ⟨0, 0, 0, 0, 0, 0⟩
noncomputable def aq14x0 (E : Env) : CT :=
 .seq (.reg [o 8 (sMov (X 17))])
 (.reg [o 9 (sAlloc [.int .i64 0, .nilSl, .nilSl]),
  u (sStore 3 (X 9) (X 18))])
noncomputable def l14x0 (E : Env) : CT :=
 .seq (.reg [o 48 (sBin .lss .none (X 47) (X 46))])
 (.seq (.ite (X 48)
 (.skip)
 (.exit 2))
 (.seq (.block 3 (.seq (.reg [o 49 (sIdxAddrS 2 (X 45) (X 47)),
  o 50 (sLoad 2 true (X 49)),
  o 11 (sAlloc [.int .i64 0, .int .i64 0]),
  u (sStore 2 (X 11) (X 50))])
 (.seq (.seq (.reg [o 51 (sLoad 1 false (X 7)),
  o 52 (sFieldAddr 1 (X 11)),
  o 53 (sLoad 1 false (X 52)),
  o 54 (sCall E 35 [(X 51), (X 53)])])
 (.ite (X 54)
 (.seq (.reg [u (sStore 1 (X 6) (K (.bool false)))])
 (.ret))
 (.skip)))
 (.reg [o 55 (sLoad 1 false (X 7)),
  o 56 (sFieldAddr 1 (X 11)),
  o 57 (sLoad 1 false (X 56)),
  o 58 (sBuildSl 1 1 [.int .i64 0] [(0, 1, (X 57))]),
  o 59 (sApp (ty 1 false 8 [.int .i64 0]) (X 55) (X 58)),
  u (sStore 1 (X 7) (X 59))]))))
 (.reg [o 60 (sBin .add .none (X 47) (K (.int .i64 1))),
  o 47 (sMov (X 60))])))
noncomputable def bq14x0 (E : Env) : CT :=
 .block 1 (.seq (.seq (.drw [.op (o 19 (sLoad 3 true (X 9))),
  .op (o 20 (sLoad 1 false (X 4))),
  .op (o 21 (sLoad 1 false (X 5))),
  .op (o 22 (sMov (X 8))),
  .op (o 23 (sLoad 1 false (X 3))),
  .op (o 24 (sLenSl (X 23))),
  .op (o 25 (sBin .sub .none (X 24) (K (.int .i64 1)))),
  .op (o 26 (sBin .eql .none (X 22) (X 25))),
  .hv 255 (o 27 (sCall E 34 [(X 19), (X 20), (X 21), (X 26)])),
  .op (o 28 (sUn .not (X 27))),
  .op (o 29 (sMov (X 28))),
  .op (og 29 false 30 (sMov (X 8))),
  .op (og 29 false 31 (sBin .gtr .none (X 30) (K (.int .i64 0)))),
  .op (og 29 false 32 (sMov (X 31))),
  .op (og 32 true 33 (sFieldAddr 0 (X 9))),
  .op (og 32 true 34 (sLoad 1 false (X 33))),
  .op (og 32 true 35 (sLoad 1 false (X 3))),
  .op (og 32 true 36 (sMov (X 8))),
  .op (og 32 true 37 (sBin .sub .none (X 36) (K (.int .i64 1)))),
  .op (og 32 true 38 (sIdxAddrS 3 (X 35) (X 37))),
  .op (og 32 true 39 (sFieldAddr 0 (X 38))),
  .op (og 32 true 40 (sLoad 1 false (X 39))),
  .op (og 32 true 41 (sBin .leq .none (X 34) (X 40))),
  .op (og 29 false 42 (sPick (X 32) (X 41) (K (.bool false)))),
  .op (o 43 (sPick (X 29) (K (.bool true)) (X 42)))])
 (.ite (X 43)
 (.seq (.reg [u (sStore 1 (X 6) (K (.bool false)))])
 (.ret))
 (.skip)))
 (.seq (.reg [o 44 (sFieldAddr 2 (X 9)),
  o 45 (sLoad 1 false (X 44)),
  o 46 (sLenSl (X 45)),
  o 47 (sMov (K (.int .i64 0)))])
 (.block 2 (.loop (l14x0 E)))))
noncomputable def kaq14x0 : Code := (nthRange Go.Proofs.Try.f14 0).1
noncomputable def kbq14x0 : Code := (nthRange Go.Proofs.Try.f14 0).2
theorem eaq14x0 (E : Env) (t : T) (h : AHeap) : evalCode prog E kaq14x0 t h = runC E (aq14x0 E) t h := code_tr tab14 (by kernel_rfl) t h
theorem ebq14x0 (E : Env) (t : T) (h : AHeap) : evalCode prog E kbq14x0 t h = runC E (bq14x0 E) t h := code_tr tab14 (by kernel_rfl) t h
noncomputable def b14 (E : Env) : CT :=
 .seq (.reg [o 3 (sBox (X 0)),
  o 4 (sBox (X 1)),
  o 5 (sBox (X 2)),
  o 6 (sAlloc [.bool false])])
 (.seq (.seq (.reg [o 12 (sLoad 1 false (X 3)),
  o 13 (sLenSl (X 12)),
  o 14 (sBin .gtr .none (X 13) (K (.int .i64 8)))])
 (.ite (X 14)
 (.seq (.reg [u (sStore 1 (X 6) (K (.bool false)))])
 (.ret))
 (.skip)))
 (.seq (.reg [o 7 (sAlloc [.nilSl])])
 (.seq (.seq (.reg [o 15 (sLoad 1 false (X 3)),
  o 16 (sCall E 32 [(X 15), (K (.int .i64 0))])])
 (.block 0 (.range (X 16) [17, 18] kaq14x0 kbq14x0)))
 (.seq (.reg [u (sStore 1 (X 6) (K (.bool true)))])
 (.ret)))))
theorem c14 (args : T) (h : AHeap) : (envL prog).call 14 args h = trim h (fin [.cell 6 1 false] (runC (envL prog) (b14 (envL prog)) (args ++ List.replicate (61 - args.length) .undef) h)) :=
 call_tr (fn := Go.Proofs.Try.f14) tab14 (by kernel_rfl) (by rfl) (by kernel_rfl) (fun t h => by kernel_rfl) rfl args h
def tab16 : Nat → Cert := fun i => ⟨0, 0, 0, 0, 0, 0⟩
noncomputable def b16 (E : Env) : CT :=
 .seq (.reg [o 3 (sBox (X 1)),
  o 4 (sMov (K (.int .i64 0)))])
 (.seq (.reg [o 5 (sMov (X 0)),
  o 6 (sFun 40 [(X 3)]),
  o 7 (sCall E 39 [(X 5), (X 6)]),
  o 4 (sMov (X 7))])
 (.ret))
theorem c16 (args : T) (h : AHeap) : (envL prog).call 16 args h = trim h (fin [.tmp 4] (runC (envL prog) (b16 (envL prog)) (args ++ List.replicate (8 - args.length) .undef) h)) :=
 call_tr (fn := Go.Proofs.Try.f16) tab16 (by kernel_rfl) (by rfl) (by kernel_rfl) (fun t h => by kernel_rfl) rfl args h
def tab18 : Nat → Cert := fun i => ⟨0, 0, 0, 0, 0, 0⟩
noncomputable def b18 (E : Env) : CT :=
 .seq (.reg [o 4 (sMov (K (.bool false)))])
 (.seq (.reg [o 5 (sMov (X 0)),
  o 6 (sConv .bytesStr (X 5)),
  o 7 (sMov (X 1)),
  o 8 (sConv .bytesStr (X 7)),
  o 9 (sBin .eql .none (X 6) (X 8)),
  o 4 (sMov (X 9))])
 (.ret))
theorem c18 (args : T) (h : AHeap) : (envL prog).call 18 args h = trim h (fin [.tmp 4] (runC (envL prog) (b18 (envL prog)) (args ++ List.replicate (10 - args.length) .undef) h)) :=
 call_tr (fn := Go.Proofs.Try.f18) tab18 (by kernel_rfl) (by rfl) (by kernel_rfl) (fun t h => by kernel_rfl) rfl args h
def tab19 : Nat → Cert := fun i => ⟨0, 0, 0, 0, 0, 0⟩
noncomputable def aq19x0 (E : Env) : CT :=
 .seq (.reg [o 8 (sMov (X 14))])
 (.reg [o 9 (sAlloc [.int .i64 0, .nilSl, .nilSl]),
  u (sStore 3 (X 9) (X 15))])
noncomputable def bq19x0 (E : Env) : CT :=
 .block 1 (.seq (.seq (.reg [o 16 (sMov (X 8)),
  o 17 (sLoad 1 false (X 5)),
  o 18 (sBin .geq .none (X 16) (X 17))])
 (.ite (X 18)
 (.exit 0)
 (.skip)))
 (.reg [o 19 (sLoad 1 false (X 7)),
  o 20 (sFieldAddr 1 (X 9)),
  o 21 (sLoad 1 false (X 20)),
  o 22 (sCall E 27 [(X 19), (X 21)]),
  u (sStore 1 (X 7) (X 22))]))
noncomputable def kaq19x0 : Code := (nthRange Go.Proofs.Try.f19 0).1
noncomputable def kbq19x0 : Code := (nthRange Go.Proofs.Try.f19 0).2
theorem eaq19x0 (E : Env) (t : T) (h : AHeap) : evalCode prog E kaq19x0 t h = runC E (aq19x0 E) t h := code_tr tab19 (by kernel_rfl) t h
theorem ebq19x0 (E : Env) (t : T) (h : AHeap) : evalCode prog E kbq19x0 t h = runC E (bq19x0 E) t h := code_tr tab19 (by kernel_rfl) t h
noncomputable def b19 (E : Env) : CT :=
 .seq (.reg [o 5 (sBox (X 2)),
  o 6 (sMov (K (.nilSl)))])
 (.seq (.reg [o 7 (sAlloc [.nilSl])])
 (.seq (.seq (.reg [o 10 (sMov (X 0)),
  o 11 (sMov (X 1)),
  o 12 (sMax [(X 11), (K (.int .i64 0))]),
  o 13 (sCall E 32 [(X 10), (X 12)])])
 (.block 0 (.range (X 13) [14, 15] kaq19x0 kbq19x0)))
 (.seq (.reg [o 23 (sLoad 1 false (X 7)),
  o 6 (sMov (X 23))])
 (.ret))))
theorem c19 (args : T) (h : AHeap) : (envL prog).call 19 args h = trim h (fin [.tmp 6] (runC (envL prog) (b19 (envL prog)) (args ++ List.replicate (24 - args.length) .undef) h)) :=
 call_tr (fn := Go.Proofs.Try.f19) tab19 (by kernel_rfl) (by rfl) (by kernel_rfl) (fun t h => by kernel_rfl) rfl args h
def tab21 : Nat → Cert := fun i => bif Nat.beq i 6 then ⟨39, 55, 18393714005322109932537714173468209513764622780563944169880353907224181909480037057148766754048982860856738546805833398203322976163863361853604025709971013124607152900842994189292489940983326975651623733259173225208049071582073641301415154701901631585056310264242703367760519882147957951170990526854270155005613319041270438384168096730275763338665652694524541192044188670489982731366383834512063364827725781071132185285161735758412180804480085785807956213760, 36778448897010133200598087576555873105751962982778933244180346920956606623795568932758818118686800248824161655727640869980214787043705241746117149959731867167131146241162402880557446145485046260898737642038057008338365118374164339820494576105995806233557161402178408468208879229814116840605682513234441658434245937411310368114814559275507435193135290342684711575427324559049129856794886980827248753559539004557621444739485049981709009228103408033244437807104, 2561042110801131804330593371042229871479507547072596117078531118401892870180404548210860035513017065422455508952897566192041421476942160228004549605091173052760170189487186573178253385458015731140009429312101051392464771184568571724216816703490716591444457161879667945302762807534024240986431640297111645898361713656364881238621368951316040850698848613960675875907618258964484681116995543667121806637594711659569345417936629790297975079747739699698931152450418629466260261858853667924991114688468694538477744111463314632811201041060728165986995878178707105311996140490211041083432343033061966153241452511692769302426075337098511342247536614178817, 7959374964870345260200459075611032843577704443602375443628137847286895808559368912662827979693279609917478873697025819215961363166301204182664478293886609393327618826823555079141129273664635212826960250833623012490825580032809117862739040756291157576203198493324523372525582102296165847635317679841528671013296247621458209638008355311161625367960626430594782068686290613136159683989858926411648983838632063291961863062420449749776522686268582820660093443560821499653613114907541276038024133491132652224279269479018874984588925191361275582695410608170036955187729048071706526557210460528216229778549216380372364199479527884537724946⟩ else ⟨0, 0, 0, 0, 0, 0⟩
noncomputable def l21x0 (E : Env) : CT :=
 .seq (.seq (.reg [o 11 (sMov (X 5)),
  o 12 (sMov (X 0)),
  o 13 (sLenSl (X 12)),
  o 14 (sBin .lss .none (X 11) (X 13))])
 (.ite (X 14)
 (.skip)
 (.exit 0)))
 (.seq (.block 1 (.seq (.drw [.op (o 17 (sMov (X 0))),
  .op (o 18 (sMov (X 5))),
  .op (o 19 (sIdxAddrS 3 (X 17) (X 18))),
  .op (o 20 (sFieldAddr 0 (X 19))),
  .op (o 21 (sLoad 1 false (X 20))),
  .op (o 22 (sMov (X 1))),
  .op (o 23 (sMov (X 5))),
  .op (o 24 (sIdxAddrS 3 (X 22) (X 23))),
  .op (o 25 (sFieldAddr 0 (X 24))),
  .op (o 26 (sLoad 1 false (X 25))),
  .op (o 27 (sBin .neq .none (X 21) (X 26))),
  .op (o 28 (sMov (X 27))),
  .op (og 28 false 29 (sMov (X 0))),
  .op (og 28 false 30 (sMov (X 5))),
  .op (og 28 false 31 (sIdxAddrS 3 (X 29) (X 30))),
  .op (og 28 false 32 (sFieldAddr 1 (X 31))),
  .op (og 28 false 33 (sLoad 1 false (X 32))),
  .op (og 28 false 34 (sMov (X 1))),
  .op (og 28 false 35 (sMov (X 5))),
  .op (og 28 false 36 (sIdxAddrS 3 (X 34) (X 35))),
  .op (og 28 false 37 (sFieldAddr 1 (X 36))),
  .op (og 28 false 38 (sLoad 1 false (X 37))),
  .hv 4194303 (og 28 false 39 (sCall E 18 [(X 33), (X 38)])),
  .op (og 28 false 40 (sUn .not (X 39))),
  .op (o 41 (sPick (X 28) (K (.bool true)) (X 40))),
  .op (o 42 (sMov (X 41))),
  .op (og 42 false 43 (sMov (X 0))),
  .op (og 42 false 44 (sMov (X 5))),
  .op (og 42 false 45 (sIdxAddrS 3 (X 43) (X 44))),
  .op (og 42 false 46 (sFieldAddr 2 (X 45))),
  .op (og 42 false 47 (sLoad 1 false (X 46))),
  .op (og 42 false 48 (sMov (X 1))),
  .op (og 42 false 49 (sMov (X 5))),
  .op (og 42 false 50 (sIdxAddrS 3 (X 48) (X 49))),
  .op (og 42 false 51 (sFieldAddr 2 (X 50))),
  .op (og 42 false 52 (sLoad 1 false (X 51))),
  .hv 68719476735 (og 42 false 53 (sCall E 42 [(X 47), (X 52)])),
  .op (og 42 false 54 (sUn .not (X 53))),
  .op (o 55 (sPick (X 42) (K (.bool true)) (X 54)))])
 (.ite (X 55)
 (.seq (.reg [o 4 (sMov (K (.bool false)))])
 (.ret))
 (.skip))))
 (.reg [o 15 (sMov (X 5)),
  o 16 (sBin .add .none (X 15) (K (.int .i64 1))),
  o 5 (sMov (X 16))]))
noncomputable def b21 (E : Env) : CT :=
 .seq (.reg [o 4 (sMov (K (.bool false)))])
 (.seq (.seq (.reg [o 6 (sMov (X 0)),
  o 7 (sLenSl (X 6)),
  o 8 (sMov (X 1)),
  o 9 (sLenSl (X 8)),
  o 10 (sBin .neq .none (X 7) (X 9))])
 (.ite (X 10)
 (.seq (.reg [o 4 (sMov (K (.bool false)))])
 (.ret))
 (.skip)))
 (.seq (.seq (.reg [o 5 (sMov (K (.int .i64 0)))])
 (.block 0 (.loop (l21x0 E))))
 (.seq (.reg [o 4 (sMov (K (.bool true)))])
 (.ret))))
theorem c21 (args : T) (h : AHeap) : (envL prog).call 21 args h = trim h (fin [.tmp 4] (runC (envL prog) (b21 (envL prog)) (args ++ List.replicate (56 - args.length) .undef) h)) :=
 call_tr (fn := Go.Proofs.Try.f21) tab21 (by kernel_rfl) (by rfl) (by kernel_rfl) (fun t h => by kernel_rfl) rfl args h
def tab22 : Nat → Cert := fun i => bif Nat.beq i 5 then ⟨11, 28, 1328101688236288039412356468071989248, 1328101688243541594330044260300095488, 260740729362331724371075627168182311526998100162651603994165745741558917572623747212445220865, 43422033652713202766035185496059406722459368605663873215133368010653437001749⟩ else bif Nat.beq i 6 then ⟨11, 38, 995946886283180634205326102042247168, 1328253885236360925894167555163029504, 423075820026374759676044469627668227170086408974666214429912941757861540770874365409241101737627914578308041039908817969610784, 340441200812232165302725510969052109643826695629514208629387312470622912391518637699518313486044958294045⟩ else bif Nat.beq i 7 then ⟨14, 51, 31380527715642717591591199373480650813915496031931082997760, 43934731186416433165201389437000105246478338099625230073856, 48477412468669819810864428888245217094997815741389602761573093374202915504736314737051866400930967855476429201763381490648616342670332212453449985358434144157689869800684104142138433990985270018785883577216768409632, 866817204276964282457650435247928269604495863843326126112998262351906579975174696089077726414712546952197419583450127525305724279012903658079034279287557747397569043045559510499814539304⟩ else ⟨0, 0, 0, 0, 0, 0⟩
noncomputable def b22 (E : Env) : CT :=
 .seq (.reg [o 4 (sMov (K (.nilSl)))])
 (.seq (.reg [o 7 (sMov (X 0)),
  o 8 (sCall E 43 [(X 7)]),
  o 0 (sMov (X 8))])
 (.seq (.seq (.reg [o 9 (sMov (X 1)),
  o 10 (sBin .lss .none (X 9) (K (.int .i64 0))),
  o 11 (sMov (X 10)),
  og 11 false 12 (sMov (X 1)),
  og 11 false 13 (sMov (X 0)),
  og 11 false 14 (sLenSl (X 13)),
  og 11 false 15 (sBin .geq .none (X 12) (X 14)),
  o 16 (sPick (X 11) (K (.bool true)) (X 15))])
 (.ite (X 16)
 (.seq (.reg [o 17 (sMov (X 0)),
  o 4 (sMov (X 17))])
 (.ret))
 (.skip)))
 (.seq (.seq (.reg [o 18 (sMov (X 1)),
  o 19 (sBin .gtr .none (X 18) (K (.int .i64 0)))])
 (.ite (X 19)
 (.seq (.drw [.op (o 20 (sMov (X 0))),
  .op (o 21 (sMov (X 1))),
  .op (o 22 (sBin .sub .none (X 21) (K (.int .i64 1)))),
  .op (o 23 (sIdxAddrS 3 (X 20) (X 22))),
  .op (o 24 (sMov (X 0))),
  .op (o 25 (sMov (X 1))),
  .op (o 26 (sIdxAddrS 3 (X 24) (X 25))),
  .op (o 27 (sLoad 3 true (X 26))),
  .op (o 6 (sAlloc [.int .i64 0, .nilSl, .nilSl])),
  .op (o 5 (sMov (X 23))),
  .hv 1023 (u (sStore 3 (X 6) (X 27)))])
 (.seq (.drw [.op (o 28 (sMov (X 5))),
  .op (o 29 (sMov (X 5))),
  .op (o 30 (sNil (X 29))),
  .op (o 31 (sFieldAddr 1 (X 30))),
  .op (o 32 (sLoad 1 false (X 31))),
  .op (o 33 (sFieldAddr 1 (X 6))),
  .op (o 34 (sLoad 1 false (X 33))),
  .hv 126 (o 35 (sCall E 27 [(X 32), (X 34)])),
  .op (o 36 (sNil (X 28))),
  .op (o 37 (sFieldAddr 1 (X 36))),
  .hv 1023 (u (sStore 1 (X 37) (X 35)))])
 (.drw [.op (o 39 (sMov (X 5))),
  .op (o 40 (sMov (X 5))),
  .op (o 41 (sNil (X 40))),
  .op (o 42 (sFieldAddr 2 (X 41))),
  .op (o 43 (sLoad 1 false (X 42))),
  .op (o 44 (sFieldAddr 2 (X 6))),
  .op (o 45 (sLoad 1 false (X 44))),
  .hv 126 (o 46 (sCall E 44 [(X 43), (X 45)])),
  .op (o 38 (sMov (X 46))),
  .op (o 47 (sExtract (X 38) 0)),
  .op (o 48 (sExtract (X 38) 1)),
  .op (o 49 (sNil (X 39))),
  .op (o 50 (sFieldAddr 2 (X 49))),
  .hv 7167 (u (sStore 1 (X 50) (X 47)))])))
 (.skip)))
 (.seq (.reg [o 51 (sMov (X 0)),
  o 52 (sMov (X 1)),
  o 53 (sMov (X 1)),
  o 54 (sBin .add .none (X 53) (K (.int .i64 1))),
  o 55 (sCall E 45 [(X 51), (X 52), (X 54)]),
  o 4 (sMov (X 55))])
 (.ret)))))
theorem d22 (E : Env) (args : T) (h : AHeap) : callBody prog E 22 args h = trim h (fin [.tmp 4] (runC E (b22 E) (args ++ List.replicate (56 - args.length) .undef) h)) :=
 body_tr (fn := Go.Proofs.Try.f22) tab22 (by kernel_rfl) (by rfl) (by kernel_rfl) (fun t h => by kernel_rfl) rfl args h
def tab23 : Nat → Cert := fun i => bif Nat.beq i 10 then ⟨25, 59, 69617315882342504577726229041557854829319486201748843897459200600204223040544208446457988327141893910361231253120684276317784828310981373585117106632024798336144470525343005187328706609152, 69617315882342512291617088301136636895103676262654785344301097195917133391947736756558873701416761853531227512519571645249437550740353729283301357452114978310119215302782063515395805937664, 783979790890977652690431746941386148569706739790199634913100370673311845652445966824743601814230628894728717245086146910565222924226145257214327109642705691857032475064521800924855009277743502618287949035593019482453808371759990402864257838415535332720932907358947598868390336500357512752570717423660762909887411953949710450015234791888805136846862551081436427249989617342772486116655631485269231435602320444029726838407199293324307772691447840, 185590664894190137082081864859027889372799120569851818638178183490023403934000807168487003979103236614397138203171546685596580186007246460136413202800494399694363998210036341959455768040477295057362190979889001122085023127185692430526479989242845080294753317767133299333393740354802098437513501336892352901455195738539001412970756471484750485691881659677775525521997431780735763145629342129248519678369617412132⟩ else ⟨0, 0, 0, 0, 0, 0⟩
noncomputable def l23x0 (E : Env) : CT :=
 .seq (.seq (.reg [o 9 (sMov (X 6)),
  o 10 (sMov (X 0)),
  o 11 (sLenSl (X 10)),
  o 12 (sBin .lss .none (X 9) (X 11))])
 (.ite (X 12)
 (.skip)
 (.exit 0)))
 (.seq (.block 1 (.seq (.seq (.reg [o 15 (sMov (X 6)),
  o 16 (sMov (X 1)),
  o 17 (sBin .neq .none (X 15) (X 16))])
 (.ite (X 17)
 (.seq (.reg [o 18 (sMov (X 5)),
  o 19 (sMov (X 0)),
  o 20 (sMov (X 6)),
  o 21 (sIdxAddrS 3 (X 19) (X 20)),
  o 22 (sLoad 3 true (X 21)),
  o 23 (sCall E 46 [(X 22)]),
  o 24 (sBuildSl 3 1 [.int .i64 0, .nilSl, .nilSl] [(0, 3, (X 23))]),
  o 25 (sApp (ty 3 true 56 [.int .i64 0, .nilSl, .nilSl]) (X 18) (X 24)),
  o 5 (sMov (X 25))])
 (.exit 1))
 (.skip)))
 (.seq (.reg [o 26 (sMov (X 5)),
  o 27 (sLenSl (X 26)),
  o 7 (sMov (X 27))])
 (.seq (.reg [o 28 (sMov (X 7)),
  o 29 (sBin .gtr .none (X 28) (K (.int .i64 0)))])
 (.ite (X 29)
 (.seq (.reg [o 30 (sMov (X 5)),
  o 31 (sMov (X 7)),
  o 32 (sBin .sub .none (X 31) (K (.int .i64 1))),
  o 33 (sIdxAddrS 3 (X 30) (X 32)),
  o 34 (sLoad 3 true (X 33)),
  o 8 (sAlloc [.int .i64 0, .nilSl, .nilSl]),
  u (sStore 3 (X 8) (X 34))])
 (.drw [.op (o 35 (sMov (X 5))),
  .op (o 36 (sMov (X 7))),
  .op (o 37 (sBin .sub .none (X 36) (K (.int .i64 1)))),
  .op (o 38 (sFieldAddr 0 (X 8))),
  .rd 4 (o 39 (sLoad 1 false (X 38))),
  .op (o 40 (sFieldAddr 1 (X 8))),
  .op (o 41 (sLoad 1 false (X 40))),
  .op (o 42 (sMov (X 0))),
  .op (o 43 (sMov (X 6))),
  .op (o 44 (sIdxAddrS 3 (X 42) (X 43))),
  .op (o 45 (sFieldAddr 1 (X 44))),
  .op (o 46 (sLoad 1 false (X 45))),
  .op (o 48 (sFieldAddr 2 (X 8))),
  .rd 14 (o 49 (sLoad 1 false (X 48))),
  .op (o 50 (sMov (X 0))),
  .op (o 51 (sMov (X 6))),
  .op (o 52 (sIdxAddrS 3 (X 50) (X 51))),
  .op (o 53 (sFieldAddr 2 (X 52))),
  .rd 19 (o 54 (sLoad 1 false (X 53))),
  .hv 4064 (o 47 (sCall E 41 [(X 41), (X 46)])),
  .hv 1048544 (o 55 (sCall E 47 [(X 49), (X 54)])),
  .op (o 56 (sField 1 false 0 (X 55))),
  .op (o 57 (sBuild [.int .i64 0, .nilSl, .nilSl] [(0, 1, (X 39)), (1, 1, (X 47)), (2, 1, (X 56))])),
  .op (o 58 (sIdxAddrS 3 (X 35) (X 37))),
  .hv 16777215 (u (sStore 3 (X 58) (X 57)))]))
 (.skip))))))
 (.reg [o 13 (sMov (X 6)),
  o 14 (sBin .add .none (X 13) (K (.int .i64 1))),
  o 6 (sMov (X 14))]))
noncomputable def b23 (E : Env) : CT :=
 .seq (.reg [o 4 (sMov (K (.nilSl)))])
 (.seq (.reg [o 5 (sMov (K (.nilSl)))])
 (.seq (.seq (.reg [o 6 (sMov (K (.int .i64 0)))])
 (.block 0 (.loop (l23x0 E))))
 (.seq (.reg [o 59 (sMov (X 5)),
  o 4 (sMov (X 59))])
 (.ret))))
theorem c23 (args : T) (h : AHeap) : (envL prog).call 23 args h = trim h (fin [.tmp 4] (runC (envL prog) (b23 (envL prog)) (args ++ List.replicate (60 - args.length) .undef) h)) :=
 call_tr (fn := Go.Proofs.Try.f23) tab23 (by kernel_rfl) (by rfl) (by kernel_rfl) (fun t h => by kernel_rfl) rfl args h
def tab24 : Nat → Cert := fun i => ⟨0, 0, 0, 0, 0, 0⟩
noncomputable def b24 (E : Env) : CT :=
 .seq (.reg [o 4 (sMov (K (.nilSl)))])
 (.seq (.reg [o 5 (sMov (X 0)),
  o 6 (sCall E 43 [(X 5)]),
  o 0 (sMov (X 6))])
 (.seq (.seq (.reg [o 7 (sMov (X 1)),
  o 8 (sBin .lss .none (X 7) (K (.int .i64 0))),
  o 9 (sMov (X 8)),
  og 9 false 10 (sMov (X 1)),
  og 9 false 11 (sMov (X 0)),
  og 9 false 12 (sLenSl (X 11)),
  og 9 false 13 (sBin .geq .none (X 10) (X 12)),
  o 14 (sPick (X 9) (K (.bool true)) (X 13))])
 (.ite (X 14)
 (.seq (.reg [o 15 (sMov (X 0)),
  o 4 (sMov (X 15))])
 (.ret))
 (.skip)))
 (.seq (.reg [o 16 (sMov (X 0)),
  o 17 (sMov (X 1)),
  o 18 (sBin .add .none (X 17) (K (.int .i64 1))),
  o 19 (sSliceS 3 (X 16) none (some (X 18)) none),
  o 0 (sMov (X 19))])
 (.seq (.reg [o 20 (sMov (X 0)),
  o 21 (sMov (X 1)),
  o 22 (sMov (X 0)),
  o 23 (sMov (X 1)),
  o 24 (sMov (X 0)),
  o 25 (sMov (X 1)),
  o 26 (sIdxAddrS 3 (X 24) (X 25)),
  o 27 (sFieldAddr 1 (X 26)),
  o 28 (sLoad 1 false (X 27)),
  o 29 (sLenSl (X 28)),
  o 30 (sMake (ty 1 false 1 [.int .u8 0]) (X 29) (X 29)),
  o 31 (sIdxAddrS 3 (X 20) (X 21)),
  o 32 (sFieldAddr 1 (X 31)),
  u (sStore 1 (X 32) (X 30)),
  o 33 (sIdxAddrS 3 (X 22) (X 23)),
  o 34 (sFieldAddr 2 (X 33)),
  u (sStore 1 (X 34) (K (.nilSl)))])
 (.seq (.reg [o 35 (sMov (X 0)),
  o 4 (sMov (X 35))])
 (.ret))))))
theorem c24 (args : T) (h : AHeap) : (envL prog).call 24 args h = trim h (fin [.tmp 4] (runC (envL prog) (b24 (envL prog)) (args ++ List.replicate (36 - args.length) .undef) h)) :=
 call_tr (fn := Go.Proofs.Try.f24) tab24 (by kernel_rfl) (by rfl) (by kernel_rfl) (fun t h => by kernel_rfl) rfl args h
def tab25 : Nat → Cert := fun i => ⟨0, 0, 0, 0, 0, 0⟩
noncomputable def l25x0 (E : Env) : CT :=
 .seq (.seq (.reg [o 8 (sMov (X 6)),
  o 9 (sMov (X 0)),
  o 10 (sLenSl (X 9)),
  o 11 (sBin .lss .none (X 8) (X 10))])
 (.ite (X 11)
 (.skip)
 (.exit 0)))
 (.seq (.block 1 (.seq (.reg [o 14 (sMov (X 0)),
  o 15 (sMov (X 6)),
  o 16 (sIdxAddrS 3 (X 14) (X 15)),
  o 17 (sLoad 3 true (X 16)),
  o 18 (sCall E 46 [(X 17)]),
  o 7 (sAlloc [.int .i64 0, .nilSl, .nilSl]),
  u (sStore 3 (X 7) (X 18))])
 (.seq (.seq (.reg [o 19 (sMov (X 6)),
  o 20 (sMov (X 1)),
  o 21 (sBin .eql .none (X 19) (X 20))])
 (.ite (X 21)
 (.reg [o 22 (sFieldAddr 1 (X 7)),
  o 23 (sLoad 1 false (X 22)),
  o 24 (sLenSl (X 23)),
  o 25 (sMake (ty 1 false 1 [.int .u8 0]) (X 24) (X 24)),
  o 26 (sFieldAddr 1 (X 7)),
  u (sStore 1 (X 26) (X 25)),
  o 27 (sFieldAddr 2 (X 7)),
  u (sStore 1 (X 27) (K (.nilSl)))])
 (.skip)))
 (.seq (.reg [o 28 (sMov (X 1)),
  o 29 (sBin .lss .none (X 28) (K (.int .i64 0))),
  o 30 (sMov (X 29)),
  og 30 false 31 (sMov (X 1)),
  og 30 false 32 (sMov (X 0)),
  og 30 false 33 (sLenSl (X 32)),
  og 30 false 34 (sBin .geq .none (X 31) (X 33)),
  o 35 (sPick (X 30) (K (.bool true)) (X 34)),
  o 36 (sMov (X 35)),
  og 36 false 37 (sMov (X 6)),
  og 36 false 38 (sMov (X 1)),
  og 36 false 39 (sBin .leq .none (X 37) (X 38)),
  o 40 (sPick (X 36) (K (.bool true)) (X 39))])
 (.ite (X 40)
 (.reg [o 41 (sMov (X 5)),
  o 42 (sLoad 3 true (X 7)),
  o 43 (sBuildSl 3 1 [.int .i64 0, .nilSl, .nilSl] [(0, 3, (X 42))]),
  o 44 (sApp (ty 3 true 56 [.int .i64 0, .nilSl, .nilSl]) (X 41) (X 43)),
  o 5 (sMov (X 44))])
 (.skip))))))
 (.reg [o 12 (sMov (X 6)),
  o 13 (sBin .add .none (X 12) (K (.int .i64 1))),
  o 6 (sMov (X 13))]))
noncomputable def b25 (E : Env) : CT :=
 .seq (.reg [o 4 (sMov (K (.nilSl)))])
 (.seq (.reg [o 5 (sMov (K (.nilSl)))])
 (.seq (.seq (.reg [o 6 (sMov (K (.int .i64 0)))])
 (.block 0 (.loop (l25x0 E))))
 (.seq (.reg [o 45 (sMov (X 5)),
  o 4 (sMov (X 45))])
 (.ret))))
theorem c25 (args : T) (h : AHeap) : (envL prog).call 25 args h = trim h (fin [.tmp 4] (runC (envL prog) (b25 (envL prog)) (args ++ List.replicate (46 - args.length) .undef) h)) :=
 call_tr (fn := Go.Proofs.Try.f25) tab25 (by kernel_rfl) (by rfl) (by kernel_rfl) (fun t h => by kernel_rfl) rfl args h
def tab26 : Nat → Cert := fun i => ⟨0, 0, 0, 0, 0, 0⟩
noncomputable def b26 (E : Env) : CT :=
 .seq (.reg [o 4 (sMov (K (.int .i64 0))),
  o 5 (sMov (K (.bool false)))])
 (.seq (.reg [o 7 (sMov (X 0)),
  o 8 (sMov (X 1)),
  o 9 (sCall E 48 [(X 7), (X 8)]),
  o 6 (sMov (X 9))])
 (.seq (.seq (.reg [o 10 (sMov (X 6)),
  o 11 (sBin .lss .none (X 10) (K (.int .i64 0)))])
 (.ite (X 11)
 (.seq (.reg [o 4 (sMov (K (.int .i64 0))),
  o 5 (sMov (K (.bool false)))])
 (.ret))
 (.skip)))
 (.seq (.reg [o 12 (sMov (X 0)),
  o 13 (sMov (X 6)),
  o 14 (sIdxAddrS 2 (X 12) (X 13)),
  o 15 (sFieldAddr 1 (X 14)),
  o 16 (sLoad 1 false (X 15)),
  o 4 (sMov (X 16)),
  o 5 (sMov (K (.bool true)))])
 (.ret))))
theorem c26 (args : T) (h : AHeap) : (envL prog).call 26 args h = trim h (fin [.tmp 4, .tmp 5] (runC (envL prog) (b26 (envL prog)) (args ++ List.replicate (17 - args.length) .undef) h)) :=
 call_tr (fn := Go.Proofs.Try.f26) tab26 (by kernel_rfl) (by rfl) (by kernel_rfl) (fun t h => by kernel_rfl) rfl args h
def tab27 : Nat → Cert := fun i => ⟨0, 0, 0, 0, 0, 0⟩
noncomputable def l27x0 (E : Env) : CT :=
 .seq (.reg [o 20 (sBin .lss .none (X 19) (X 18))])
 (.seq (.ite (X 20)
 (.skip)
 (.exit 0))
 (.seq (.block 1 (.seq (.reg [o 21 (sMov (X 19)),
  o 22 (sIdxAddrS 1 (X 17) (X 19)),
  o 23 (sLoad 1 false (X 22)),
  o 6 (sMov (X 21)),
  o 7 (sMov (X 23))])
 (.reg [o 24 (sMov (X 5)),
  o 25 (sMov (X 6)),
  o 26 (sIdxAddrS 1 (X 24) (X 25)),
  o 27 (sLoad 1 false (X 26)),
  o 28 (sMov (X 7)),
  o 29 (sBin .or .none (X 27) (X 28)),
  o 30 (sIdxAddrS 1 (X 24) (X 25)),
  u (sStore 1 (X 30) (X 29))])))
 (.reg [o 31 (sBin .add .none (X 19) (K (.int .i64 1))),
  o 19 (sMov (X 31))])))
noncomputable def b27 (E : Env) : CT :=
 .seq (.reg [o 4 (sMov (K (.nilSl)))])
 (.seq (.seq (.reg [o 8 (sMov (X 0)),
  o 9 (sLenSl (X 8)),
  o 10 (sMov (X 1)),
  o 11 (sLenSl (X 10)),
  o 12 (sBin .lss .none (X 9) (X 11))])
 (.ite (X 12)
 (.reg [o 13 (sMov (X 1)),
  o 14 (sMov (X 0)),
  o 0 (sMov (X 13)),
  o 1 (sMov (X 14))])
 (.skip)))
 (.seq (.reg [o 15 (sMov (X 0)),
  o 16 (sCall E 49 [(X 15)]),
  o 5 (sMov (X 16))])
 (.seq (.seq (.reg [o 17 (sMov (X 1)),
  o 18 (sLenSl (X 17)),
  o 19 (sMov (K (.int .i64 0)))])
 (.block 0 (.loop (l27x0 E))))
 (.seq (.reg [o 32 (sMov (X 5)),
  o 4 (sMov (X 32))])
 (.ret)))))
theorem c27 (args : T) (h : AHeap) : (envL prog).call 27 args h = trim h (fin [.tmp 4] (runC (envL prog) (b27 (envL prog)) (args ++ List.replicate (33 - args.length) .undef) h)) :=
 call_tr (fn := Go.Proofs.Try.f27) tab27 (by kernel_rfl) (by rfl) (by kernel_rfl) (fun t h => by kernel_rfl) rfl args h
def tab31 : Nat → Cert := fun i => ⟨0, 0, 0, 0, 0, 0⟩
noncomputable def b31 (E : Env) : CT :=
 .seq (.reg [o 0 (sMov (K (.nilSl)))])
 (.seq (.reg [o 1 (sBuildSl 1 1 [.int .u8 0] [(0, 1, (K (.int .u8 6)))]),
  o 2 (sBuild [.int .i64 0, .int .i64 0] [(0, 1, (K (.int .i64 1))), (1, 1, (K (.int .i64 0)))]),
  o 3 (sBuild [.int .i64 0, .int .i64 0] [(0, 1, (K (.int .i64 2))), (1, 1, (K (.int .i64 1)))]),
  o 4 (sBuildSl 2 2 [.int .i64 0, .int .i64 0] [(0, 2, (X 2)), (2, 2, (X 3))]),
  o 5 (sBuild [.int .i64 0, .nilSl, .nilSl] [(0, 1, (K (.int .i64 1))), (1, 1, (X 1)), (2, 1, (X 4))]),
  o 6 (sBuildSl 1 1 [.int .u8 0] [(0, 1, (K (.int .u8 12)))]),
  o 7 (sBuild [.int .i64 0, .int .i64 0] [(0, 1, (K (.int .i64 2))), (1, 1, (K (.int .i64 2)))]),
  o 8 (sBuild [.int .i64 0, .int .i64 0] [(0, 1, (K (.int .i64 3))), (1, 1, (K (.int .i64 3)))]),
  o 9 (sBuildSl 2 2 [.int .i64 0, .int .i64 0] [(0, 2, (X 7)), (2, 2, (X 8))]),
  o 10 (sBuild [.int .i64 0, .nilSl, .nilSl] [(0, 1, (K (.int .i64 4))), (1, 1, (X 6)), (2, 1, (X 9))]),
  o 11 (sBuildSl 1 1 [.int .u8 0] [(0, 1, (K (.int .u8 16)))]),
  o 12 (sBuild [.int .i64 0, .nilSl, .nilSl] [(0, 1, (K (.int .i64 5))), (1, 1, (X 11))]),
  o 13 (sBuildSl 3 3 [.int .i64 0, .nilSl, .nilSl] [(0, 3, (X 5)), (3, 3, (X 10)), (6, 3, (X 12))]),
  o 0 (sMov (X 13))])
 (.ret))
theorem c31 (args : T) (h : AHeap) : (envL prog).call 31 args h = trim h (fin [.tmp 0] (runC (envL prog) (b31 (envL prog)) (args ++ List.replicate (14 - args.length) .undef) h)) :=
 call_tr (fn := Go.Proofs.Try.f31) tab31 (by kernel_rfl) (by rfl) (by kernel_rfl) (fun t h => by kernel_rfl) rfl args h
def tab32 : Nat → Cert := fun i => ⟨0, 0, 0, 0, 0, 0⟩
noncomputable def b32 (E : Env) : CT :=
 .seq (.reg [o 2 (sBox (X 0)),
  o 3 (sBox (X 1)),
  o 4 (sMov (K (.nilFn)))])
 (.seq (.reg [o 5 (sFun 52 [(X 3), (X 2)]),
  o 4 (sMov (X 5))])
 (.ret))
theorem c32 (args : T) (h : AHeap) : (envL prog).call 32 args h = trim h (fin [.tmp 4] (runC (envL prog) (b32 (envL prog)) (args ++ List.replicate (6 - args.length) .undef) h)) :=
 call_tr (fn := Go.Proofs.Try.f32) tab32 (by kernel_rfl) (by rfl) (by kernel_rfl) (fun t h => by kernel_rfl) rfl args h
def tab33 : Nat → Cert := fun i => ⟨0, 0, 0, 0, 0, 0⟩
noncomputable def l33x0 (E : Env) : CT :=
 .seq (.seq (.reg [o 6 (sMov (X 5)),
  o 7 (sMov (X 0)),
  o 8 (sLenSl (X 7)),
  o 9 (sBin .lss .none (X 6) (X 8))])
 (.ite (X 9)
 (.skip)
 (.exit 0)))
 (.seq (.block 1 (.seq (.reg [o 12 (sMov (X 0)),
  o 13 (sMov (X 5)),
  o 14 (sIdxAddrS 2 (X 12) (X 13)),
  o 15 (sFieldAddr 0 (X 14)),
  o 16 (sLoad 1 false (X 15)),
  o 17 (sMov (X 1)),
  o 18 (sBin .eql .none (X 16) (X 17))])
 (.ite (X 18)
 (.seq (.reg [o 19 (sMov (X 5)),
  o 4 (sMov (X 19))])
 (.ret))
 (.skip))))
 (.reg [o 10 (sMov (X 5)),
  o 11 (sBin .add .none (X 10) (K (.int .i64 1))),
  o 5 (sMov (X 11))]))
noncomputable def b33 (E : Env) : CT :=
 .seq (.reg [o 4 (sMov (K (.int .i64 0)))])
 (.seq (.seq (.reg [o 5 (sMov (K (.int .i64 0)))])
 (.block 0 (.loop (l33x0 E))))
 (.seq (.reg [o 4 (sMov (K (.int .i64 (-1))))])
 (.ret)))
theorem c33 (args : T) (h : AHeap) : (envL prog).call 33 args h = trim h (fin [.tmp 4] (runC (envL prog) (b33 (envL prog)) (args ++ List.replicate (20 - args.length) .undef) h)) :=
 call_tr (fn := Go.Proofs.Try.f33) tab33 (by kernel_rfl) (by rfl) (by kernel_rfl) (fun t h => by kernel_rfl) rfl args h
def tab34 : Nat → Cert := fun i => bif Nat.beq i 9 then ⟨11, 58, 1328093493692499188347095827366283264, 1328253885232281022722001058050082816, 570305077202774403327197131650989070500594309038141905759496736964366671334263533447832380521499704424611501837752884628956499474054566795233621091755166906894543549535310055439145118965170184, 35615577812127053701028891601979925018103257183919038610970787161132159081332324658558875415860313471902014285628606237962570155674476131175128858503393637951461404830681006129⟩ else ⟨0, 0, 0, 0, 0, 0⟩
noncomputable def l34x0 (E : Env) : CT :=
 .seq (.reg [o 38 (sBin .lss .none (X 37) (X 36))])
 (.seq (.ite (X 38)
 (.skip)
 (.exit 0))
 (.seq (.block 1 (.seq (.reg [o 39 (sIdxAddrS 2 (X 35) (X 37)),
  o 40 (sLoad 2 true (X 39)),
  o 10 (sAlloc [.int .i64 0, .int .i64 0]),
  u (sStore 2 (X 10) (X 40))])
 (.seq (.reg [o 41 (sFieldAddr 1 (X 4)),
  o 42 (sLoad 1 false (X 41)),
  o 43 (sFieldAddr 0 (X 10)),
  o 44 (sLoad 1 false (X 43)),
  o 45 (sCall E 55 [(X 42), (X 44)]),
  o 46 (sUn .not (X 45))])
 (.ite (X 46)
 (.seq (.reg [o 8 (sMov (K (.bool false)))])
 (.ret))
 (.skip)))))
 (.reg [o 47 (sBin .add .none (X 37) (K (.int .i64 1))),
  o 37 (sMov (X 47))])))
noncomputable def b34 (E : Env) : CT :=
 .seq (.reg [o 4 (sBox (X 0)),
  o 8 (sMov (K (.bool false)))])
 (.seq (.seq (.reg [o 11 (sFieldAddr 0 (X 4)),
  o 12 (sLoad 1 false (X 11)),
  o 13 (sBin .lss .none (X 12) (K (.int .i64 1))),
  o 14 (sMov (X 13)),
  og 14 false 15 (sFieldAddr 0 (X 4)),
  og 14 false 16 (sLoad 1 false (X 15)),
  og 14 false 17 (sBin .gtr .none (X 16) (K (.int .i64 1000000))),
  o 18 (sPick (X 14) (K (.bool true)) (X 17)),
  o 19 (sMov (X 18)),
  og 19 false 20 (sFieldAddr 1 (X 4)),
  og 19 false 21 (sLoad 1 false (X 20)),
  og 19 false 22 (sMov (X 1)),
  og 19 false 23 (sCall E 53 [(X 21), (X 22)]),
  og 19 false 24 (sUn .not (X 23)),
  o 25 (sPick (X 19) (K (.bool true)) (X 24)),
  o 26 (sMov (X 25)),
  og 26 false 27 (sFieldAddr 2 (X 4)),
  og 26 false 28 (sLoad 1 false (X 27)),
  og 26 false 29 (sMov (X 1)),
  og 26 false 30 (sMov (X 2)),
  og 26 false 31 (sCall E 54 [(X 28), (X 29), (X 30)]),
  og 26 false 32 (sUn .not (X 31)),
  o 33 (sPick (X 26) (K (.bool true)) (X 32))])
 (.ite (X 33)
 (.seq (.reg [o 8 (sMov (K (.bool false)))])
 (.ret))
 (.skip)))
 (.seq (.seq (.reg [o 34 (sFieldAddr 2 (X 4)),
  o 35 (sLoad 1 false (X 34)),
  o 36 (sLenSl (X 35)),
  o 37 (sMov (K (.int .i64 0)))])
 (.block 0 (.loop (l34x0 E))))
 (.seq (.drw [.op (o 48 (sMov (X 3))),
  .op (o 49 (sMov (X 48))),
  .op (og 49 false 50 (sFieldAddr 2 (X 4))),
  .rd 3 (og 49 false 51 (sLoad 1 false (X 50))),
  .op (og 49 false 52 (sLenSl (X 51))),
  .op (og 49 false 53 (sFieldAddr 1 (X 4))),
  .op (og 49 false 54 (sLoad 1 false (X 53))),
  .hv 99 (og 49 false 55 (sCall E 56 [(X 54)])),
  .op (og 49 false 56 (sBin .eql .none (X 52) (X 55))),
  .op (o 57 (sPick (X 49) (K (.bool true)) (X 56))),
  .op (o 8 (sMov (X 57)))])
 (.ret))))
theorem c34 (args : T) (h : AHeap) : (envL prog).call 34 args h = trim h (fin [.tmp 8] (runC (envL prog) (b34 (envL prog)) (args ++ List.replicate (58 - args.length) .undef) h)) :=
 call_tr (fn := Go.Proofs.Try.f34) tab34 (by kernel_rfl) (by rfl) (by kernel_rfl) (fun t h => by kernel_rfl) rfl args h
def tab35 : Nat → Cert := fun i => ⟨0, 0, 0, 0, 0, 0⟩
noncomputable def b35 (E : Env) : CT :=
 .seq (.reg [o 4 (sMov (K (.bool false)))])
 (.seq (.reg [o 5 (sMov (X 0)),
  o 6 (sMov (X 1)),
  o 7 (sCall E 57 [(X 5), (X 6)]),
  o 8 (sBin .geq .none (X 7) (K (.int .i64 0))),
  o 4 (sMov (X 8))])
 (.ret))
theorem c35 (args : T) (h : AHeap) : (envL prog).call 35 args h = trim h (fin [.tmp 4] (runC (envL prog) (b35 (envL prog)) (args ++ List.replicate (9 - args.length) .undef) h)) :=
 call_tr (fn := Go.Proofs.Try.f35) tab35 (by kernel_rfl) (by rfl) (by kernel_rfl) (fun t h => by kernel_rfl) rfl args h
def tab39 : Nat → Cert := fun i => ⟨0, 0, 0, 0, 0, 0⟩
noncomputable def l39x0 (E : Env) : CT :=
 .seq (.reg [o 9 (sBin .lss .none (X 8) (X 7))])
 (.seq (.ite (X 9)
 (.skip)
 (.exit 0))
 (.seq (.block 1 (.seq (.reg [o 10 (sMov (X 8)),
  o 5 (sMov (X 10))])
 (.seq (.reg [o 11 (sMov (X 1)),
  o 12 (sMov (X 0)),
  o 13 (sMov (X 5)),
  o 14 (sIdxAddrS 3 (X 12) (X 13)),
  o 15 (sLoad 3 true (X 14)),
  o 16 (sCallV E (X 11) [(X 15)])])
 (.ite (X 16)
 (.seq (.reg [o 17 (sMov (X 5)),
  o 4 (sMov (X 17))])
 (.ret))
 (.skip)))))
 (.reg [o 18 (sBin .add .none (X 8) (K (.int .i64 1))),
  o 8 (sMov (X 18))])))
noncomputable def b39 (E : Env) : CT :=
 .seq (.reg [o 4 (sMov (K (.int .i64 0)))])
 (.seq (.seq (.reg [o 6 (sMov (X 0)),
  o 7 (sLenSl (X 6)),
  o 8 (sMov (K (.int .i64 0)))])
 (.block 0 (.loop (l39x0 E))))
 (.seq (.reg [o 4 (sMov (K (.int .i64 (-1))))])
 (.ret)))
theorem c39 (args : T) (h : AHeap) : (envL prog).call 39 args h = trim h (fin [.tmp 4] (runC (envL prog) (b39 (envL prog)) (args ++ List.replicate (19 - args.length) .undef) h)) :=
 call_tr (fn := Go.Proofs.Try.f39) tab39 (by kernel_rfl) (by rfl) (by kernel_rfl) (fun t h => by kernel_rfl) rfl args h
def tab40 : Nat → Cert := fun i => ⟨0, 0, 0, 0, 0, 0⟩
noncomputable def b40 (E : Env) : CT :=
 .seq (.reg [o 2 (sBox (X 0)),
  o 3 (sMov (K (.bool false)))])
 (.seq (.reg [o 4 (sFieldAddr 0 (X 2)),
  o 5 (sLoad 1 false (X 4)),
  o 6 (sLoad 1 false (X 1)),
  o 7 (sBin .eql .none (X 5) (X 6)),
  o 3 (sMov (X 7))])
 (.ret))
theorem c40 (args : T) (h : AHeap) : (envL prog).call 40 args h = trim h (fin [.tmp 3] (runC (envL prog) (b40 (envL prog)) (args ++ List.replicate (8 - args.length) .undef) h)) :=
 call_tr (fn := Go.Proofs.Try.f40) tab40 (by kernel_rfl) (by rfl) (by kernel_rfl) (fun t h => by kernel_rfl) rfl args h
def tab41 : Nat → Cert := fun i => bif Nat.beq i 7 then ⟨11, 33, 1328253848398276762643465410441117696, 1328253885234246486301216389508104192, 14091255496649407328478464291060925394467128761474491194539546969726753957315631493263235123535223698745196576, 8402773403328323900996409805985884197567015881457428882869048476025114205799652566344138776⟩ else ⟨0, 0, 0, 0, 0, 0⟩
noncomputable def l41x0 (E : Env) : CT :=
 .seq (.seq (.reg [o 17 (sMov (X 6)),
  o 18 (sMov (X 1)),
  o 19 (sLenSl (X 18)),
  o 20 (sBin .lss .none (X 17) (X 19))])
 (.ite (X 20)
 (.skip)
 (.exit 0)))
 (.seq (.block 1 (.drw [.op (o 23 (sMov (X 5))),
  .op (o 24 (sMov (X 6))),
  .op (o 25 (sIdxAddrS 1 (X 23) (X 24))),
  .op (o 26 (sLoad 1 false (X 25))),
  .op (o 27 (sMov (X 1))),
  .op (o 28 (sMov (X 6))),
  .op (o 29 (sIdxAddrS 1 (X 27) (X 28))),
  .op (o 30 (sLoad 1 false (X 29))),
  .op (o 31 (sBin .or .none (X 26) (X 30))),
  .op (o 32 (sIdxAddrS 1 (X 23) (X 24))),
  .hv 1023 (u (sStore 1 (X 32) (X 31)))]))
 (.reg [o 21 (sMov (X 6)),
  o 22 (sBin .add .none (X 21) (K (.int .i64 1))),
  o 6 (sMov (X 22))]))
noncomputable def b41 (E : Env) : CT :=
 .seq (.reg [o 4 (sMov (K (.nilSl)))])
 (.seq (.seq (.reg [o 7 (sMov (X 0)),
  o 8 (sLenSl (X 7)),
  o 9 (sMov (X 1)),
  o 10 (sLenSl (X 9)),
  o 11 (sBin .lss .none (X 8) (X 10))])
 (.ite (X 11)
 (.reg [o 12 (sMov (X 1)),
  o 13 (sMov (X 0)),
  o 0 (sMov (X 12)),
  o 1 (sMov (X 13))])
 (.skip)))
 (.seq (.reg [o 14 (sBuildSl 1 0 [.int .u8 0] []),
  o 15 (sMov (X 0)),
  o 16 (sApp (ty 1 false 1 [.int .u8 0]) (X 14) (X 15)),
  o 5 (sMov (X 16))])
 (.seq (.seq (.reg [o 6 (sMov (K (.int .i64 0)))])
 (.block 0 (.loop (l41x0 E))))
 (.seq (.reg [o 33 (sMov (X 5)),
  o 4 (sMov (X 33))])
 (.ret)))))
theorem c41 (args : T) (h : AHeap) : (envL prog).call 41 args h = trim h (fin [.tmp 4] (runC (envL prog) (b41 (envL prog)) (args ++ List.replicate (34 - args.length) .undef) h)) :=
 call_tr (fn := Go.Proofs.Try.f41) tab41 (by kernel_rfl) (by rfl) (by kernel_rfl) (fun t h => by kernel_rfl) rfl args h
def tab42 : Nat → Cert := fun i => bif Nat.beq i 6 then ⟨9, 25, 642833002171759447506944, 1205237335491016659828736, 28644943735582074826047332177877539589708590883724224647809306984449, 41780390347995922719512288248198774037700430168845219084107794⟩ else ⟨0, 0, 0, 0, 0, 0⟩
noncomputable def l42x0 (E : Env) : CT :=
 .seq (.seq (.reg [o 11 (sMov (X 5)),
  o 12 (sMov (X 0)),
  o 13 (sLenSl (X 12)),
  o 14 (sBin .lss .none (X 11) (X 13))])
 (.ite (X 14)
 (.skip)
 (.exit 0)))
 (.seq (.block 1 (.seq (.drw [.op (o 17 (sMov (X 0))),
  .op (o 18 (sMov (X 5))),
  .op (o 19 (sIdxAddrS 2 (X 17) (X 18))),
  .op (o 20 (sLoad 2 true (X 19))),
  .op (o 21 (sMov (X 1))),
  .op (o 22 (sMov (X 5))),
  .op (o 23 (sIdxAddrS 2 (X 21) (X 22))),
  .op (o 24 (sLoad 2 true (X 23))),
  .op (o 25 (sBin .neq (.flat 2) (X 20) (X 24)))])
 (.ite (X 25)
 (.seq (.reg [o 4 (sMov (K (.bool false)))])
 (.ret))
 (.skip))))
 (.reg [o 15 (sMov (X 5)),
  o 16 (sBin .add .none (X 15) (K (.int .i64 1))),
  o 5 (sMov (X 16))]))
noncomputable def b42 (E : Env) : CT :=
 .seq (.reg [o 4 (sMov (K (.bool false)))])
 (.seq (.seq (.reg [o 6 (sMov (X 0)),
  o 7 (sLenSl (X 6)),
  o 8 (sMov (X 1)),
  o 9 (sLenSl (X 8)),
  o 10 (sBin .neq .none (X 7) (X 9))])
 (.ite (X 10)
 (.seq (.reg [o 4 (sMov (K (.bool false)))])
 (.ret))
 (.skip)))
 (.seq (.seq (.reg [o 5 (sMov (K (.int .i64 0)))])
 (.block 0 (.loop (l42x0 E))))
 (.seq (.reg [o 4 (sMov (K (.bool true)))])
 (.ret))))
theorem c42 (args : T) (h : AHeap) : (envL prog).call 42 args h = trim h (fin [.tmp 4] (runC (envL prog) (b42 (envL prog)) (args ++ List.replicate (26 - args.length) .undef) h)) :=
 call_tr (fn := Go.Proofs.Try.f42) tab42 (by kernel_rfl) (by rfl) (by kernel_rfl) (fun t h => by kernel_rfl) rfl args h
def tab43 : Nat → Cert := fun i => bif Nat.beq i 4 then ⟨6, 15, 33505157120, 33539235840, 619282876566297638545129480, 17294315164270985227⟩ else ⟨0, 0, 0, 0, 0, 0⟩
noncomputable def aq43x0 (E : Env) : CT :=
 .reg [o 5 (sAlloc [.int .i64 0, .nilSl, .nilSl]),
  u (sStore 3 (X 5) (X 9))]
noncomputable def bq43x0 (E : Env) : CT :=
 .block 1 (.drw [.rd 0 (o 10 (sLoad 1 false (X 3))),
  .op (o 11 (sLoad 3 true (X 5))),
  .hv 2 (o 12 (sCall E 59 [(X 11)])),
  .op (o 13 (sBuildSl 3 1 [.int .i64 0, .nilSl, .nilSl] [(0, 3, (X 12))])),
  .hv 15 (o 14 (sApp (ty 3 true 56 [.int .i64 0, .nilSl, .nilSl]) (X 10) (X 13))),
  .hv 31 (u (sStore 1 (X 3) (X 14)))])
noncomputable def kaq43x0 : Code := (nthRange Go.Proofs.Try.f43 0).1
noncomputable def kbq43x0 : Code := (nthRange Go.Proofs.Try.f43 0).2
theorem eaq43x0 (E : Env) (t : T) (h : AHeap) : evalCode prog E kaq43x0 t h = runC E (aq43x0 E) t h := code_tr tab43 (by kernel_rfl) t h
theorem ebq43x0 (E : Env) (t : T) (h : AHeap) : evalCode prog E kbq43x0 t h = runC E (bq43x0 E) t h := code_tr tab43 (by kernel_rfl) t h
noncomputable def b43 (E : Env) : CT :=
 .seq (.reg [o 2 (sMov (K (.nilSl)))])
 (.seq (.reg [o 3 (sAlloc [.nilSl])])
 (.seq (.seq (.reg [o 6 (sMov (X 0)),
  o 7 (sCall E 32 [(X 6), (K (.int .i64 0))])])
 (.block 0 (.range (X 7) [8, 9] kaq43x0 kbq43x0)))
 (.seq (.reg [o 15 (sLoad 1 false (X 3)),
  o 2 (sMov (X 15))])
 (.ret))))
theorem c43 (args : T) (h : AHeap) : (envL prog).call 43 args h = trim h (fin [.tmp 2] (runC (envL prog) (b43 (envL prog)) (args ++ List.replicate (16 - args.length) .undef) h)) :=
 call_tr (fn := Go.Proofs.Try.f43) tab43 (by kernel_rfl) (by rfl) (by kernel_rfl) (fun t h => by kernel_rfl) rfl args h
def tab44 : Nat → Cert := fun i => ⟨0, 0, 0, 0, 0, 0⟩
noncomputable def l44x0 (E : Env) : CT :=
 .seq (.reg [o 21 (sBin .lss .none (X 20) (X 19))])
 (.seq (.ite (X 21)
 (.skip)
 (.exit 2))
 (.seq (.block 3 (.seq (.reg [o 22 (sIdxAddrS 2 (X 18) (X 20)),
  o 23 (sLoad 2 true (X 22)),
  o 9 (sAlloc [.int .i64 0, .int .i64 0]),
  u (sStore 2 (X 9) (X 23))])
 (.seq (.reg [o 24 (sFieldAddr 0 (X 9)),
  o 25 (sLoad 1 false (X 24)),
  o 26 (sFieldAddr 0 (X 7)),
  o 27 (sLoad 1 false (X 26)),
  o 28 (sBin .eql .none (X 25) (X 27))])
 (.ite (X 28)
 (.seq (.reg [o 29 (sMov (X 5)),
  o 30 (sFieldAddr 1 (X 7)),
  o 31 (sLoad 1 false (X 30)),
  o 32 (sBuildSl 1 1 [.int .i64 0] [(0, 1, (X 31))]),
  o 33 (sApp (ty 1 false 8 [.int .i64 0]) (X 29) (X 32)),
  o 5 (sMov (X 33))])
 (.exit 1))
 (.skip)))))
 (.reg [o 34 (sBin .add .none (X 20) (K (.int .i64 1))),
  o 20 (sMov (X 34))])))
noncomputable def l44x1 (E : Env) : CT :=
 .seq (.reg [o 15 (sBin .lss .none (X 14) (X 13))])
 (.seq (.ite (X 15)
 (.skip)
 (.exit 0))
 (.seq (.block 1 (.seq (.reg [o 16 (sIdxAddrS 2 (X 12) (X 14)),
  o 17 (sLoad 2 true (X 16)),
  o 7 (sAlloc [.int .i64 0, .int .i64 0]),
  u (sStore 2 (X 7) (X 17))])
 (.seq (.seq (.reg [o 18 (sMov (X 0)),
  o 19 (sLenSl (X 18)),
  o 20 (sMov (K (.int .i64 0)))])
 (.block 2 (.loop (l44x0 E))))
 (.reg [o 35 (sMov (X 4)),
  o 36 (sFieldAddr 0 (X 7)),
  o 37 (sLoad 1 false (X 36)),
  o 38 (sFieldAddr 1 (X 7)),
  o 39 (sLoad 1 false (X 38)),
  o 40 (sCall E 61 [(X 35), (X 37), (X 39)]),
  o 4 (sMov (X 40))]))))
 (.reg [o 41 (sBin .add .none (X 14) (K (.int .i64 1))),
  o 14 (sMov (X 41))])))
noncomputable def b44 (E : Env) : CT :=
 .seq (.reg [o 4 (sMov (K (.nilSl))),
  o 5 (sMov (K (.nilSl)))])
 (.seq (.reg [o 10 (sMov (X 0)),
  o 11 (sCall E 60 [(X 10)]),
  o 4 (sMov (X 11))])
 (.seq (.skip)
 (.seq (.seq (.reg [o 12 (sMov (X 1)),
  o 13 (sLenSl (X 12)),
  o 14 (sMov (K (.int .i64 0)))])
 (.block 0 (.loop (l44x1 E))))
 (.seq (.reg [o 42 (sMov (X 4)),
  o 43 (sMov (X 5)),
  o 4 (sMov (X 42)),
  o 5 (sMov (X 43))])
 (.ret)))))
theorem d44 (E : Env) (args : T) (h : AHeap) : callBody prog E 44 args h = trim h (fin [.tmp 4, .tmp 5] (runC E (b44 E) (args ++ List.replicate (44 - args.length) .undef) h)) :=
 body_tr (fn := Go.Proofs.Try.f44) tab44 (by kernel_rfl) (by rfl) (by kernel_rfl) (fun t h => by kernel_rfl) rfl args h
def tab45 : Nat → Cert := fun i => bif Nat.beq i 5 then ⟨8, 27, 9161473930257694720, 9169073754628882432, 52656146054957952329773237443615674796072802905529410281986326529, 784637874765513059676714069746026130589979498592897859605⟩ else ⟨0, 0, 0, 0, 0, 0⟩
noncomputable def b45 (E : Env) : CT :=
 .seq (.reg [o 6 (sMov (K (.nilSl)))])
 (.seq (.reg [o 8 (sMov (X 0)),
  o 9 (sMov (X 1)),
  o 10 (sMov (X 2)),
  o 11 (sMov (X 0)),
  o 12 (sLenSl (X 11)),
  o 13 (sSliceS 3 (X 8) (some (X 9)) (some (X 10)) (some (X 12)))])
 (.seq (.seq (.reg [o 14 (sMov (X 1)),
  o 15 (sMov (X 2)),
  o 16 (sBin .eql .none (X 14) (X 15))])
 (.ite (X 16)
 (.seq (.reg [o 17 (sMov (X 0)),
  o 6 (sMov (X 17))])
 (.ret))
 (.skip)))
 (.seq (.reg [o 18 (sMov (X 0)),
  o 19 (sLenSl (X 18)),
  o 7 (sMov (X 19))])
 (.seq (.drw [.op (o 20 (sMov (X 0))),
  .op (o 21 (sMov (X 1))),
  .op (o 22 (sSliceS 3 (X 20) none (some (X 21)) none)),
  .op (o 23 (sMov (X 0))),
  .op (o 24 (sMov (X 2))),
  .op (o 25 (sSliceS 3 (X 23) (some (X 24)) none none)),
  .hv 63 (o 26 (sApp (ty 3 true 56 [.int .i64 0, .nilSl, .nilSl]) (X 22) (X 25))),
  .op (o 0 (sMov (X 26)))])
 (.seq (.reg [o 27 (sMov (X 0)),
  o 28 (sMov (X 0)),
  o 29 (sLenSl (X 28)),
  o 30 (sMov (X 7)),
  o 31 (sSliceS 3 (X 27) (some (X 29)) (some (X 30)) none),
  u (sClear (ty 3 true 56 [.int .i64 0, .nilSl, .nilSl]) (X 31))])
 (.seq (.reg [o 32 (sMov (X 0)),
  o 6 (sMov (X 32))])
 (.ret)))))))
theorem c45 (args : T) (h : AHeap) : (envL prog).call 45 args h = trim h (fin [.tmp 6] (runC (envL prog) (b45 (envL prog)) (args ++ List.replicate (33 - args.length) .undef) h)) :=
 call_tr (fn := Go.Proofs.Try.f45) tab45 (by kernel_rfl) (by rfl) (by kernel_rfl) (fun t h => by kernel_rfl) rfl args h
def tab46 : Nat → Cert := fun i => bif Nat.beq i 1 then ⟨12, 14, 11145653954120947211987107344824970348859392, 11146288046499830987573061062337100137893888, 187169641751913985564594609909882176902300451340290, 19514258028717836833857325668680206343290884⟩ else ⟨0, 0, 0, 0, 0, 0⟩
noncomputable def b46 (E : Env) : CT :=
 .seq (.reg [o 1 (sBox (X 0)),
  o 2 (sAlloc [.int .i64 0, .nilSl, .nilSl])])
 (.seq (.drw [.op (o 3 (sFieldAddr 0 (X 1))),
  .rd 1 (o 4 (sLoad 1 false (X 3))),
  .op (o 5 (sBuildSl 1 0 [.int .u8 0] [])),
  .op (o 6 (sFieldAddr 1 (X 1))),
  .op (o 7 (sLoad 1 false (X 6))),
  .op (o 9 (sBuildSl 2 0 [.int .i64 0, .int .i64 0] [])),
  .op (o 10 (sFieldAddr 2 (X 1))),
  .rd 8 (o 11 (sLoad 1 false (X 10))),
  .hv 28 (o 8 (sApp (ty 1 false 1 [.int .u8 0]) (X 5) (X 7))),
  .hv 508 (o 12 (sApp (ty 2 true 16 [.int .i64 0, .int .i64 0]) (X 9) (X 11))),
  .op (o 13 (sBuild [.int .i64 0, .nilSl, .nilSl] [(0, 1, (X 4)), (1, 1, (X 8)), (2, 1, (X 12))])),
  .hv 2047 (u (sStore 3 (X 2) (X 13)))])
 (.ret))
theorem c46 (args : T) (h : AHeap) : (envL prog).call 46 args h = trim h (fin [.cell 2 3 true] (runC (envL prog) (b46 (envL prog)) (args ++ List.replicate (14 - args.length) .undef) h)) :=
 call_tr (fn := Go.Proofs.Try.f46) tab46 (by kernel_rfl) (by rfl) (by kernel_rfl) (fun t h => by kernel_rfl) rfl args h
def tab47 : Nat → Cert := fun i => bif Nat.beq i 6 then ⟨11, 35, 1328253846541365523700446104844765184, 1328253885236060761483371233950042112, 59103009294591718820563021255798003668939273220845502400139633499177112652747920656061873493597673025555404679020576, 2336235820604546144957095570034667960176583439512619536267633943559355247457521879827942276595738⟩ else bif Nat.beq i 7 then ⟨15, 49, 26958712491755578471648861399267116945946241357035229360653263208448, 26958712494791494042827195893322561737143572077766470272150942023680, 135552670017994439853557224444145485417530933323854520267336847079386156118978095891078414139585654630048298962335025041869302375818528039401728168675190872499248784220861237904886041847049706735358835663550705554002280480, 27944948782935994341312748909135096511588089476735849839931088318374998616005145947818009642105555200692386930941963328759665885946675885013980392168205450359141483239241528363428735509229207588⟩ else ⟨0, 0, 0, 0, 0, 0⟩
noncomputable def l47x0 (E : Env) : CT :=
 .seq (.seq (.reg [o 11 (sMov (X 6)),
  o 12 (sMov (X 1)),
  o 13 (sLenSl (X 12)),
  o 14 (sBin .lss .none (X 11) (X 13))])
 (.ite (X 14)
 (.skip)
 (.exit 0)))
 (.seq (.block 1 (.seq (.reg [o 17 (sMov (X 0)),
  o 18 (sMov (X 1)),
  o 19 (sMov (X 6)),
  o 20 (sIdxAddrS 2 (X 18) (X 19)),
  o 21 (sFieldAddr 0 (X 20)),
  o 22 (sLoad 1 false (X 21)),
  o 23 (sCall E 33 [(X 17), (X 22)]),
  o 24 (sBin .geq .none (X 23) (K (.int .i64 0)))])
 (.ite (X 24)
 (.drw [.op (o 25 (sFieldAddr 1 (X 5))),
  .op (o 26 (sLoad 1 false (X 25))),
  .op (o 27 (sMov (X 1))),
  .op (o 28 (sMov (X 6))),
  .op (o 29 (sIdxAddrS 2 (X 27) (X 28))),
  .op (o 30 (sFieldAddr 1 (X 29))),
  .op (o 31 (sLoad 1 false (X 30))),
  .op (o 32 (sBuildSl 1 1 [.int .i64 0] [(0, 1, (X 31))])),
  .hv 255 (o 33 (sApp (ty 1 false 8 [.int .i64 0]) (X 26) (X 32))),
  .op (o 34 (sFieldAddr 1 (X 5))),
  .hv 1023 (u (sStore 1 (X 34) (X 33)))])
 (.drw [.op (o 35 (sFieldAddr 0 (X 5))),
  .op (o 36 (sLoad 1 false (X 35))),
  .op (o 37 (sMov (X 1))),
  .op (o 38 (sMov (X 6))),
  .op (o 39 (sIdxAddrS 2 (X 37) (X 38))),
  .op (o 40 (sFieldAddr 0 (X 39))),
  .op (o 41 (sLoad 1 false (X 40))),
  .op (o 42 (sMov (X 1))),
  .op (o 43 (sMov (X 6))),
  .op (o 44 (sIdxAddrS 2 (X 42) (X 43))),
  .op (o 45 (sFieldAddr 1 (X 44))),
  .op (o 46 (sLoad 1 false (X 45))),
  .hv 4095 (o 47 (sCall E 62 [(X 36), (X 41), (X 46)])),
  .op (o 48 (sFieldAddr 0 (X 5))),
  .hv 16383 (u (sStore 1 (X 48) (X 47)))]))))
 (.reg [o 15 (sMov (X 6)),
  o 16 (sBin .add .none (X 15) (K (.int .i64 1))),
  o 6 (sMov (X 16))]))
noncomputable def b47 (E : Env) : CT :=
 .seq (.reg [o 4 (sAlloc [.nilSl, .nilSl])])
 (.seq (.reg [o 7 (sBuildSl 2 0 [.int .i64 0, .int .i64 0] []),
  o 8 (sMov (X 0)),
  o 9 (sApp (ty 2 true 16 [.int .i64 0, .int .i64 0]) (X 7) (X 8)),
  o 10 (sBuild [.nilSl, .nilSl] [(0, 1, (X 9))]),
  o 5 (sAlloc [.nilSl, .nilSl]),
  u (sStore 2 (X 5) (X 10))])
 (.seq (.seq (.reg [o 6 (sMov (K (.int .i64 0)))])
 (.block 0 (.loop (l47x0 E))))
 (.seq (.reg [o 49 (sLoad 2 true (X 5)),
  u (sStore 2 (X 4) (X 49))])
 (.ret))))
theorem c47 (args : T) (h : AHeap) : (envL prog).call 47 args h = trim h (fin [.cell 4 2 true] (runC (envL prog) (b47 (envL prog)) (args ++ List.replicate (50 - args.length) .undef) h)) :=
 call_tr (fn := Go.Proofs.Try.f47) tab47 (by kernel_rfl) (by rfl) (by kernel_rfl) (fun t h => by kernel_rfl) rfl args h
def tab48 : Nat → Cert := fun i => ⟨0, 0, 0, 0, 0, 0⟩
noncomputable def b48 (E : Env) : CT :=
 .seq (.reg [o 3 (sBox (X 1)),
  o 4 (sMov (K (.int .i64 0)))])
 (.seq (.reg [o 5 (sMov (X 0)),
  o 6 (sFun 64 [(X 3)]),
  o 7 (sCall E 63 [(X 5), (X 6)]),
  o 4 (sMov (X 7))])
 (.ret))
theorem c48 (args : T) (h : AHeap) : (envL prog).call 48 args h = trim h (fin [.tmp 4] (runC (envL prog) (b48 (envL prog)) (args ++ List.replicate (8 - args.length) .undef) h)) :=
 call_tr (fn := Go.Proofs.Try.f48) tab48 (by kernel_rfl) (by rfl) (by kernel_rfl) (fun t h => by kernel_rfl) rfl args h
def tab49 : Nat → Cert := fun i => ⟨0, 0, 0, 0, 0, 0⟩
noncomputable def b49 (E : Env) : CT :=
 .seq (.reg [o 2 (sMov (K (.nilSl)))])
 (.seq (.seq (.reg [o 3 (sMov (X 0)),
  o 4 (sBin .eql .slice (X 3) (K (.nilSl)))])
 (.ite (X 4)
 (.seq (.reg [o 2 (sMov (K (.nilSl)))])
 (.ret))
 (.skip)))
 (.seq (.reg [o 5 (sBuildSl 1 0 [.int .u8 0] []),
  o 6 (sMov (X 0)),
  o 7 (sApp (ty 1 false 1 [.int .u8 0]) (X 5) (X 6)),
  o 2 (sMov (X 7))])
 (.ret)))
theorem c49 (args : T) (h : AHeap) : (envL prog).call 49 args h = trim h (fin [.tmp 2] (runC (envL prog) (b49 (envL prog)) (args ++ List.replicate (8 - args.length) .undef) h)) :=
 call_tr (fn := Go.Proofs.Try.f49) tab49 (by kernel_rfl) (by rfl) (by kernel_rfl) (fun t h => by kernel_rfl) rfl args h
def tab51 : Nat → Cert := fun i => ⟨0, 0, 0, 0, 0, 0⟩
noncomputable def b51 (E : Env) : CT :=
 .seq (.reg [o 1 (sBox (X 0)),
  o 2 (sMov (K (.nilFn)))])
 (.seq (.reg [o 3 (sFun 66 [(X 1)]),
  o 2 (sMov (X 3))])
 (.ret))
theorem c51 (args : T) (h : AHeap) : (envL prog).call 51 args h = trim h (fin [.tmp 2] (runC (envL prog) (b51 (envL prog)) (args ++ List.replicate (4 - args.length) .undef) h)) :=
 call_tr (fn := Go.Proofs.Try.f51) tab51 (by kernel_rfl) (by rfl) (by kernel_rfl) (fun t h => by kernel_rfl) rfl args h
def tab52 : Nat → Cert := fun i => bif Nat.beq i 3 then ⟨8, 19, 4621555286337912832, 9169078204214804480, 2854498362885226472471214775385442849263714305, 217781109444674920010573885300070459375629⟩ else ⟨0, 0, 0, 0, 0, 0⟩
noncomputable def l52x0 (E : Env) : CT :=
 .seq (.seq (.reg [o 6 (sLoad 1 false (X 1)),
  o 7 (sLoad 1 false (X 2)),
  o 8 (sLenSl (X 7)),
  o 9 (sBin .lss .none (X 6) (X 8))])
 (.ite (X 9)
 (.skip)
 (.exit 0)))
 (.seq (.block 1 (.seq (.drw [.op (o 12 (sMov (X 0))),
  .op (o 13 (sLoad 1 false (X 1))),
  .op (o 14 (sLoad 1 false (X 2))),
  .op (o 15 (sLoad 1 false (X 1))),
  .op (o 16 (sIdxAddrS 3 (X 14) (X 15))),
  .op (o 17 (sLoad 3 true (X 16))),
  .hv 63 (o 18 (sCallV E (X 12) [(X 13), (X 17)])),
  .op (o 19 (sUn .not (X 18)))])
 (.ite (X 19)
 (.ret)
 (.skip))))
 (.reg [o 10 (sLoad 1 false (X 1)),
  o 11 (sBin .add .none (X 10) (K (.int .i64 1))),
  u (sStore 1 (X 1) (X 11))]))
noncomputable def b52 (E : Env) : CT :=
 .seq (.seq (.reg [o 4 (sLoad 1 false (X 1)),
  o 5 (sBin .lss .none (X 4) (K (.int .i64 0)))])
 (.ite (X 5)
 (.ret)
 (.skip)))
 (.block 0 (.loop (l52x0 E)))
theorem c52 (args : T) (h : AHeap) : (envL prog).call 52 args h = trim h (fin [] (runC (envL prog) (b52 (envL prog)) (args ++ List.replicate (20 - args.length) .undef) h)) :=
 call_tr (fn := Go.Proofs.Try.f52) tab52 (by kernel_rfl) (by rfl) (by kernel_rfl) (fun t h => by kernel_rfl) rfl args h
def tab53 : Nat → Cert := fun i => ⟨0, 0, 0, 0, 0, 0⟩
noncomputable def aq53x0 (E : Env) : CT :=
 .reg [o 5 (sMov (X 14))]
noncomputable def bq53x0 (E : Env) : CT :=
 .block 1 (.seq (.reg [o 15 (sMov (X 5)),
  o 16 (sLoad 1 false (X 3)),
  o 17 (sBin .geq .none (X 15) (X 16))])
 (.ite (X 17)
 (.seq (.reg [u (sStore 1 (X 4) (K (.bool false)))])
 (.ret))
 (.skip)))
noncomputable def kaq53x0 : Code := (nthRange Go.Proofs.Try.f53 0).1
noncomputable def kbq53x0 : Code := (nthRange Go.Proofs.Try.f53 0).2
theorem eaq53x0 (E : Env) (t : T) (h : AHeap) : evalCode prog E kaq53x0 t h = runC E (aq53x0 E) t h := code_tr tab53 (by kernel_rfl) t h
theorem ebq53x0 (E : Env) (t : T) (h : AHeap) : evalCode prog E kbq53x0 t h = runC E (bq53x0 E) t h := code_tr tab53 (by kernel_rfl) t h
noncomputable def b53 (E : Env) : CT :=
 .seq (.reg [o 3 (sBox (X 1)),
  o 4 (sAlloc [.bool false])])
 (.seq (.seq (.reg [o 6 (sMov (X 0)),
  o 7 (sLenSl (X 6)),
  o 8 (sLoad 1 false (X 3)),
  o 9 (sCall E 67 [(X 8)]),
  o 10 (sLenSl (X 9)),
  o 11 (sBin .neq .none (X 7) (X 10))])
 (.ite (X 11)
 (.seq (.reg [u (sStore 1 (X 4) (K (.bool false)))])
 (.ret))
 (.skip)))
 (.seq (.seq (.reg [o 12 (sMov (X 0)),
  o 13 (sCall E 51 [(X 12)])])
 (.block 0 (.range (X 13) [14] kaq53x0 kbq53x0)))
 (.seq (.reg [u (sStore 1 (X 4) (K (.bool true)))])
 (.ret))))
theorem c53 (args : T) (h : AHeap) : (envL prog).call 53 args h = trim h (fin [.cell 4 1 false] (runC (envL prog) (b53 (envL prog)) (args ++ List.replicate (18 - args.length) .undef) h)) :=
 call_tr (fn := Go.Proofs.Try.f53) tab53 (by kernel_rfl) (by rfl) (by kernel_rfl) (fun t h => by kernel_rfl) rfl args h
def tab54 : Nat → Cert := fun i => bif Nat.beq i 5 then ⟨41, 57, 26879162388085686345656385837946460297081111765991358483411092623524562867393236087858947211754487900278667630048474670165221809929094740941537574563361666218765001032592564931023107322345194080303715981926938210602600346656767983418991688141802375025040548192474784240783283883202430920548006654075037319199750127703493283824697213002270560521233650991654447954531025128449073776965913681696732989010772948529193785362207988009264032230767642724346795815439611787246991962457420833781179711687368221130752, 53751763281581245769098257181553740227902341713442860261185979190566584631939466203010977254012202452891594087060655633673237001706172005052225770795609916594280664111702919604417040237926851915474295482555110717244818282300520335210541435686476107285527492029883492695096121060986429424223501537829431065531557693692808084189960426783272017832448429890643969591990896319634368968683866869596824838713834702798491480433311209233594992497895712112118543312167222278396606756499668884471598549431227372273664, 16073959964283633306425242473010085694415356138226962267612230887089026203214208082567549824253529171160902891500653194517770074317860918219032037904828555340671594567059931429168809268703220408050465022880834301345506911697107661274305987611512079651259301965444768395131365200197128985935411443533031466952731862423019020435236663786859002017326077335505216010262802653475299697151908679160190545273893221078963738786856691690752937248555197931556586460531110730883461226725175283874323201214264207847454465395151147818976648891094086500888676787666149750985480609072176677840375146262753129128512966821127190382306697123645646827026076895005057279818876121845076667843000893818624036419254839284859392, 12936539158328994545780995073471535576603230798522526350283096213857896509703633645707268407732763702005244231959175247554070321082328751389309412587398988989485184775401389748718564241700094235778643365979387810231052079390546080414431718479758776794355459043469701343096348882299661265725052056111728323505450178855011641873863601196029739824972813803859223864590343100298408971965697913419824058979634559935637826911972951644287572478292722620911485755766255101927999707847651627756968646316440989845250226204669337278852551634747404077782431765578558208720926945333664205355415439009824804076068866543217105912083085763536580422659105539017315844496974199187566342931395417691631124498⟩ else ⟨0, 0, 0, 0, 0, 0⟩
noncomputable def l54x0 (E : Env) : CT :=
 .seq (.reg [o 13 (sBin .lss .none (X 12) (X 11))])
 (.seq (.ite (X 13)
 (.skip)
 (.exit 0))
 (.seq (.block 1 (.seq (.reg [o 14 (sMov (X 12)),
  o 15 (sIdxAddrS 2 (X 10) (X 12)),
  o 16 (sLoad 2 true (X 15)),
  o 9 (sAlloc [.int .i64 0, .int .i64 0]),
  o 8 (sMov (X 14)),
  u (sStore 2 (X 9) (X 16))])
 (.seq (.seq (.drw [.op (o 17 (sFieldAddr 0 (X 9))),
  .op (o 18 (sLoad 1 false (X 17))),
  .op (o 19 (sBin .lss .none (X 18) (K (.int .i64 0)))),
  .op (o 20 (sMov (X 19))),
  .op (og 20 false 21 (sFieldAddr 0 (X 9))),
  .op (og 20 false 22 (sLoad 1 false (X 21))),
  .op (og 20 false 23 (sMov (X 1))),
  .op (og 20 false 24 (sBin .geq .none (X 22) (X 23))),
  .op (o 25 (sPick (X 20) (K (.bool true)) (X 24))),
  .op (o 26 (sMov (X 25))),
  .op (og 26 false 27 (sFieldAddr 1 (X 9))),
  .op (og 26 false 28 (sLoad 1 false (X 27))),
  .op (og 26 false 29 (sBin .lss .none (X 28) (K (.int .i64 0)))),
  .op (o 30 (sPick (X 26) (K (.bool true)) (X 29))),
  .op (o 31 (sMov (X 30))),
  .op (og 31 false 32 (sFieldAddr 1 (X 9))),
  .op (og 31 false 33 (sLoad 1 false (X 32))),
  .op (og 31 false 34 (sMov (X 2))),
  .op (og 31 false 35 (sBin .geq .none (X 33) (X 34))),
  .op (o 36 (sPick (X 31) (K (.bool true)) (X 35))),
  .op (o 37 (sMov (X 36))),
  .op (og 37 false 38 (sMov (X 7))),
  .op (og 37 false 39 (sFieldAddr 1 (X 9))),
  .op (og 37 false 40 (sLoad 1 false (X 39))),
  .hv 16777215 (og 37 false 41 (sCall E 35 [(X 38), (X 40)])),
  .op (o 42 (sPick (X 37) (K (.bool true)) (X 41))),
  .op (o 43 (sMov (X 42))),
  .op (og 43 false 44 (sMov (X 8))),
  .op (og 43 false 45 (sBin .gtr .none (X 44) (K (.int .i64 0)))),
  .op (og 43 false 46 (sMov (X 45))),
  .op (og 46 true 47 (sFieldAddr 0 (X 9))),
  .op (og 46 true 48 (sLoad 1 false (X 47))),
  .op (og 46 true 49 (sMov (X 0))),
  .op (og 46 true 50 (sMov (X 8))),
  .op (og 46 true 51 (sBin .sub .none (X 50) (K (.int .i64 1)))),
  .op (og 46 true 52 (sIdxAddrS 2 (X 49) (X 51))),
  .op (og 46 true 53 (sFieldAddr 0 (X 52))),
  .op (og 46 true 54 (sLoad 1 false (X 53))),
  .op (og 46 true 55 (sBin .leq .none (X 48) (X 54))),
  .op (og 43 false 56 (sPick (X 46) (X 55) (K (.bool false)))),
  .op (o 57 (sPick (X 43) (K (.bool true)) (X 56)))])
 (.ite (X 57)
 (.seq (.reg [o 6 (sMov (K (.bool false)))])
 (.ret))
 (.skip)))
 (.reg [o 58 (sMov (X 7)),
  o 59 (sFieldAddr 1 (X 9)),
  o 60 (sLoad 1 false (X 59)),
  o 61 (sBuildSl 1 1 [.int .i64 0] [(0, 1, (X 60))]),
  o 62 (sApp (ty 1 false 8 [.int .i64 0]) (X 58) (X 61)),
  o 7 (sMov (X 62))]))))
 (.reg [o 63 (sBin .add .none (X 12) (K (.int .i64 1))),
  o 12 (sMov (X 63))])))
noncomputable def b54 (E : Env) : CT :=
 .seq (.reg [o 6 (sMov (K (.bool false)))])
 (.seq (.reg [o 7 (sMov (K (.nilSl)))])
 (.seq (.seq (.reg [o 10 (sMov (X 0)),
  o 11 (sLenSl (X 10)),
  o 12 (sMov (K (.int .i64 0)))])
 (.block 0 (.loop (l54x0 E))))
 (.seq (.reg [o 6 (sMov (K (.bool true)))])
 (.ret))))
theorem c54 (args : T) (h : AHeap) : (envL prog).call 54 args h = trim h (fin [.tmp 6] (runC (envL prog) (b54 (envL prog)) (args ++ List.replicate (64 - args.length) .undef) h)) :=
 call_tr (fn := Go.Proofs.Try.f54) tab54 (by kernel_rfl) (by rfl) (by kernel_rfl) (fun t h => by kernel_rfl) rfl args h
def tab55 : Nat → Cert := fun i => ⟨0, 0, 0, 0, 0, 0⟩
noncomputable def b55 (E : Env) : CT :=
 .seq (.reg [o 4 (sMov (K (.bool false)))])
 (.seq (.reg [o 5 (sMov (X 1)),
  o 6 (sBin .geq .none (X 5) (K (.int .i64 0))),
  o 7 (sMov (X 6)),
  og 7 true 8 (sMov (X 1)),
  og 7 true 9 (sBin .quo .none (X 8) (K (.int .i64 8))),
  og 7 true 10 (sMov (X 0)),
  og 7 true 11 (sLenSl (X 10)),
  og 7 true 12 (sBin .lss .none (X 9) (X 11)),
  o 13 (sPick (X 7) (X 12) (K (.bool false))),
  o 14 (sMov (X 13)),
  og 14 true 15 (sMov (X 0)),
  og 14 true 16 (sMov (X 1)),
  og 14 true 17 (sBin .quo .none (X 16) (K (.int .i64 8))),
  og 14 true 18 (sIdxAddrS 1 (X 15) (X 17)),
  og 14 true 19 (sLoad 1 false (X 18)),
  og 14 true 20 (sMov (X 1)),
  og 14 true 21 (sBin .rem .none (X 20) (K (.int .i64 8))),
  og 14 true 22 (sBin .shr .none (X 19) (X 21)),
  og 14 true 23 (sBin .and .none (X 22) (K (.int .u8 1))),
  og 14 true 24 (sBin .eql .none (X 23) (K (.int .u8 1))),
  o 25 (sPick (X 14) (X 24) (K (.bool false))),
  o 4 (sMov (X 25))])
 (.ret))
theorem c55 (args : T) (h : AHeap) : (envL prog).call 55 args h = trim h (fin [.tmp 4] (runC (envL prog) (b55 (envL prog)) (args ++ List.replicate (26 - args.length) .undef) h)) :=
 call_tr (fn := Go.Proofs.Try.f55) tab55 (by kernel_rfl) (by rfl) (by kernel_rfl) (fun t h => by kernel_rfl) rfl args h
def tab56 : Nat → Cert := fun i => ⟨0, 0, 0, 0, 0, 0⟩
noncomputable def l56x0 (E : Env) : CT :=
 .seq (.reg [o 9 (sBin .lss .none (X 8) (X 7))])
 (.seq (.ite (X 9)
 (.skip)
 (.exit 0))
 (.seq (.block 1 (.seq (.reg [o 10 (sIdxAddrS 1 (X 6) (X 8)),
  o 11 (sLoad 1 false (X 10)),
  o 5 (sMov (X 11))])
 (.reg [o 12 (sMov (X 3)),
  o 13 (sMov (X 5)),
  o 14 (sCall E 68 [(X 13)]),
  o 15 (sBin .add .none (X 12) (X 14)),
  o 3 (sMov (X 15))])))
 (.reg [o 16 (sBin .add .none (X 8) (K (.int .i64 1))),
  o 8 (sMov (X 16))])))
noncomputable def b56 (E : Env) : CT :=
 .seq (.reg [o 2 (sMov (K (.int .i64 0)))])
 (.seq (.reg [o 3 (sMov (K (.int .i64 0)))])
 (.seq (.seq (.reg [o 6 (sMov (X 0)),
  o 7 (sLenSl (X 6)),
  o 8 (sMov (K (.int .i64 0)))])
 (.block 0 (.loop (l56x0 E))))
 (.seq (.reg [o 17 (sMov (X 3)),
  o 2 (sMov (X 17))])
 (.ret))))
theorem c56 (args : T) (h : AHeap) : (envL prog).call 56 args h = trim h (fin [.tmp 2] (runC (envL prog) (b56 (envL prog)) (args ++ List.replicate (18 - args.length) .undef) h)) :=
 call_tr (fn := Go.Proofs.Try.f56) tab56 (by kernel_rfl) (by rfl) (by kernel_rfl) (fun t h => by kernel_rfl) rfl args h
def tab57 : Nat → Cert := fun i => ⟨0, 0, 0, 0, 0, 0⟩
noncomputable def l57x0 (E : Env) : CT :=
 .seq (.reg [o 9 (sBin .lss .none (X 8) (X 7))])
 (.seq (.ite (X 9)
 (.skip)
 (.exit 0))
 (.seq (.block 1 (.seq (.reg [o 10 (sMov (X 8)),
  o 5 (sMov (X 10))])
 (.seq (.reg [o 11 (sMov (X 1)),
  o 12 (sMov (X 0)),
  o 13 (sMov (X 5)),
  o 14 (sIdxAddrS 1 (X 12) (X 13)),
  o 15 (sLoad 1 false (X 14)),
  o 16 (sBin .eql .none (X 11) (X 15))])
 (.ite (X 16)
 (.seq (.reg [o 17 (sMov (X 5)),
  o 4 (sMov (X 17))])
 (.ret))
 (.skip)))))
 (.reg [o 18 (sBin .add .none (X 8) (K (.int .i64 1))),
  o 8 (sMov (X 18))])))
noncomputable def b57 (E : Env) : CT :=
 .seq (.reg [o 4 (sMov (K (.int .i64 0)))])
 (.seq (.seq (.reg [o 6 (sMov (X 0)),
  o 7 (sLenSl (X 6)),
  o 8 (sMov (K (.int .i64 0)))])
 (.block 0 (.loop (l57x0 E))))
 (.seq (.reg [o 4 (sMov (K (.int .i64 (-1))))])
 (.ret)))
theorem c57 (args : T) (h : AHeap) : (envL prog).call 57 args h = trim h (fin [.tmp 4] (runC (envL prog) (b57 (envL prog)) (args ++ List.replicate (19 - args.length) .undef) h)) :=
 call_tr (fn := Go.Proofs.Try.f57) tab57 (by kernel_rfl) (by rfl) (by kernel_rfl) (fun t h => by kernel_rfl) rfl args h
def tab59 : Nat → Cert := fun i => bif Nat.beq i 1 then ⟨10, 11, 632895786129729975461282317312, 632895786129742360360258634752, 811297085323194380207336638660610, 3404335846228958675168405508⟩ else ⟨0, 0, 0, 0, 0, 0⟩
noncomputable def b59 (E : Env) : CT :=
 .seq (.reg [o 1 (sBox (X 0)),
  o 2 (sAlloc [.int .i64 0, .nilSl, .nilSl])])
 (.seq (.drw [.op (o 3 (sFieldAddr 1 (X 1))),
  .op (o 4 (sLoad 1 false (X 3))),
  .op (o 6 (sFieldAddr 2 (X 1))),
  .rd 4 (o 7 (sLoad 1 false (X 6))),
  .hv 3 (o 5 (sCall E 49 [(X 4)])),
  .op (o 9 (sFieldAddr 1 (X 1))),
  .hv 31 (o 8 (sCall E 60 [(X 7)])),
  .hv 127 (u (sStore 1 (X 9) (X 5))),
  .op (o 10 (sFieldAddr 2 (X 1))),
  .hv 511 (u (sStore 1 (X 10) (X 8)))])
 (.seq (.reg [o 11 (sLoad 3 true (X 1)),
  u (sStore 3 (X 2) (X 11))])
 (.ret)))
theorem c59 (args : T) (h : AHeap) : (envL prog).call 59 args h = trim h (fin [.cell 2 3 true] (runC (envL prog) (b59 (envL prog)) (args ++ List.replicate (12 - args.length) .undef) h)) :=
 call_tr (fn := Go.Proofs.Try.f59) tab59 (by kernel_rfl) (by rfl) (by kernel_rfl) (fun t h => by kernel_rfl) rfl args h
def tab60 : Nat → Cert := fun i => ⟨0, 0, 0, 0, 0, 0⟩
noncomputable def b60 (E : Env) : CT :=
 .seq (.reg [o 2 (sMov (K (.nilSl)))])
 (.seq (.seq (.reg [o 3 (sMov (X 0)),
  o 4 (sBin .eql .slice (X 3) (K (.nilSl)))])
 (.ite (X 4)
 (.seq (.reg [o 2 (sMov (K (.nilSl)))])
 (.ret))
 (.skip)))
 (.seq (.reg [o 5 (sBuildSl 2 0 [.int .i64 0, .int .i64 0] []),
  o 6 (sMov (X 0)),
  o 7 (sApp (ty 2 true 16 [.int .i64 0, .int .i64 0]) (X 5) (X 6)),
  o 2 (sMov (X 7))])
 (.ret)))
theorem c60 (args : T) (h : AHeap) : (envL prog).call 60 args h = trim h (fin [.tmp 2] (runC (envL prog) (b60 (envL prog)) (args ++ List.replicate (8 - args.length) .undef) h)) :=
 call_tr (fn := Go.Proofs.Try.f60) tab60 (by kernel_rfl) (by rfl) (by kernel_rfl) (fun t h => by kernel_rfl) rfl args h
def tab61 : Nat → Cert := fun i => ⟨0, 0, 0, 0, 0, 0⟩
noncomputable def l61x0 (E : Env) : CT :=
 .seq (.reg [o 29 (sBin .lss .none (X 28) (X 27))])
 (.seq (.ite (X 29)
 (.skip)
 (.exit 0))
 (.seq (.block 1 (.seq (.reg [o 30 (sMov (X 28)),
  o 31 (sIdxAddrS 2 (X 26) (X 28)),
  o 32 (sLoad 2 true (X 31)),
  o 10 (sAlloc [.int .i64 0, .int .i64 0]),
  o 9 (sMov (X 30)),
  u (sStore 2 (X 10) (X 32))])
 (.seq (.reg [o 33 (sFieldAddr 0 (X 10)),
  o 34 (sLoad 1 false (X 33)),
  o 35 (sMov (X 1)),
  o 36 (sBin .gtr .none (X 34) (X 35))])
 (.ite (X 36)
 (.seq (.reg [o 37 (sMov (X 0)),
  o 38 (sMov (X 9)),
  o 39 (sLoad 2 true (X 7)),
  o 40 (sBuildSl 2 1 [.int .i64 0, .int .i64 0] [(0, 2, (X 39))]),
  o 41 (sCall E 69 [(X 37), (X 38), (X 40)]),
  o 6 (sMov (X 41))])
 (.ret))
 (.skip)))))
 (.reg [o 42 (sBin .add .none (X 28) (K (.int .i64 1))),
  o 28 (sMov (X 42))])))
noncomputable def b61 (E : Env) : CT :=
 .seq (.reg [o 6 (sMov (K (.nilSl)))])
 (.seq (.reg [o 11 (sMov (X 1)),
  o 12 (sMov (X 2)),
  o 13 (sBuild [.int .i64 0, .int .i64 0] [(0, 1, (X 11)), (1, 1, (X 12))]),
  o 7 (sAlloc [.int .i64 0, .int .i64 0]),
  u (sStore 2 (X 7) (X 13))])
 (.seq (.reg [o 14 (sMov (X 0)),
  o 15 (sCall E 60 [(X 14)]),
  o 0 (sMov (X 15))])
 (.seq (.seq (.reg [o 16 (sMov (X 0)),
  o 17 (sMov (X 1)),
  o 18 (sCall E 48 [(X 16), (X 17)]),
  o 8 (sMov (X 18))])
 (.seq (.reg [o 19 (sMov (X 8)),
  o 20 (sBin .geq .none (X 19) (K (.int .i64 0)))])
 (.ite (X 20)
 (.seq (.reg [o 21 (sMov (X 0)),
  o 22 (sMov (X 8)),
  o 23 (sLoad 2 true (X 7)),
  o 24 (sIdxAddrS 2 (X 21) (X 22)),
  u (sStore 2 (X 24) (X 23))])
 (.seq (.reg [o 25 (sMov (X 0)),
  o 6 (sMov (X 25))])
 (.ret)))
 (.skip))))
 (.seq (.seq (.reg [o 26 (sMov (X 0)),
  o 27 (sLenSl (X 26)),
  o 28 (sMov (K (.int .i64 0)))])
 (.block 0 (.loop (l61x0 E))))
 (.seq (.reg [o 43 (sMov (X 0)),
  o 44 (sLoad 2 true (X 7)),
  o 45 (sBuildSl 2 1 [.int .i64 0, .int .i64 0] [(0, 2, (X 44))]),
  o 46 (sApp (ty 2 true 16 [.int .i64 0, .int .i64 0]) (X 43) (X 45)),
  o 6 (sMov (X 46))])
 (.ret))))))
theorem d61 (E : Env) (args : T) (h : AHeap) : callBody prog E 61 args h = trim h (fin [.tmp 6] (runC E (b61 E) (args ++ List.replicate (47 - args.length) .undef) h)) :=
 body_tr (fn := Go.Proofs.Try.f61) tab61 (by kernel_rfl) (by rfl) (by kernel_rfl) (fun t h => by kernel_rfl) rfl args h
def tab62 : Nat → Cert := fun i => bif Nat.beq i 9 then ⟨15, 53, 26958532566379518184764560580696244315029331769695927757434446151680, 26958712493223661308581985579810045872524309122974061433987402825728, 104187725513747729539025845093753247630958592085039583889196816810672572606310456447300816022082273201779113495033379782914725786302662111575671552141532351097974402333362130059185257340372745376065735296821485192201525693432095715899736064, 161940256448164160271613555876984842001300647110621741958828365748683635964124535960229412504793759710705901898932666503845319003743228583991825013025618496985217149474048001521973631500106578875723378121113582598695187120168⟩ else ⟨0, 0, 0, 0, 0, 0⟩
noncomputable def l62x0 (E : Env) : CT :=
 .seq (.seq (.reg [o 24 (sMov (X 9)),
  o 25 (sMov (X 0)),
  o 26 (sLenSl (X 25)),
  o 27 (sBin .lss .none (X 24) (X 26)),
  o 28 (sMov (X 27)),
  og 28 true 29 (sMov (X 0)),
  og 28 true 30 (sMov (X 9)),
  og 28 true 31 (sIdxAddrS 2 (X 29) (X 30)),
  og 28 true 32 (sFieldAddr 0 (X 31)),
  og 28 true 33 (sLoad 1 false (X 32)),
  og 28 true 34 (sMov (X 1)),
  og 28 true 35 (sBin .leq .none (X 33) (X 34)),
  o 36 (sPick (X 28) (X 35) (K (.bool false)))])
 (.ite (X 36)
 (.skip)
 (.exit 0)))
 (.block 1 (.reg [o 37 (sMov (X 9)),
  o 38 (sBin .add .none (X 37) (K (.int .i64 1))),
  o 9 (sMov (X 38))]))
noncomputable def b62 (E : Env) : CT :=
 .seq (.reg [o 6 (sMov (K (.nilSl)))])
 (.seq (.reg [o 10 (sBuildSl 2 0 [.int .i64 0, .int .i64 0] []),
  o 11 (sMov (X 0)),
  o 12 (sApp (ty 2 true 16 [.int .i64 0, .int .i64 0]) (X 10) (X 11)),
  o 7 (sMov (X 12))])
 (.seq (.seq (.reg [o 13 (sMov (X 0)),
  o 14 (sMov (X 1)),
  o 15 (sCall E 33 [(X 13), (X 14)]),
  o 8 (sMov (X 15))])
 (.seq (.reg [o 16 (sMov (X 8)),
  o 17 (sBin .geq .none (X 16) (K (.int .i64 0)))])
 (.ite (X 17)
 (.seq (.reg [o 18 (sMov (X 7)),
  o 19 (sMov (X 8)),
  o 20 (sMov (X 2)),
  o 21 (sIdxAddrS 2 (X 18) (X 19)),
  o 22 (sFieldAddr 1 (X 21)),
  u (sStore 1 (X 22) (X 20))])
 (.seq (.reg [o 23 (sMov (X 7)),
  o 6 (sMov (X 23))])
 (.ret)))
 (.skip))))
 (.seq (.reg [o 9 (sMov (K (.int .i64 0)))])
 (.seq (.block 0 (.loop (l62x0 E)))
 (.seq (.drw [.op (o 39 (sBuildSl 2 0 [.int .i64 0, .int .i64 0] [])),
  .op (o 40 (sMov (X 0))),
  .op (o 41 (sMov (X 9))),
  .op (o 42 (sSliceS 2 (X 40) none (some (X 41)) none)),
  .op (o 44 (sMov (X 1))),
  .op (o 45 (sMov (X 2))),
  .op (o 46 (sBuild [.int .i64 0, .int .i64 0] [(0, 1, (X 44)), (1, 1, (X 45))])),
  .op (o 47 (sBuildSl 2 1 [.int .i64 0, .int .i64 0] [(0, 2, (X 46))])),
  .op (o 49 (sMov (X 0))),
  .op (o 50 (sMov (X 9))),
  .rd 12 (o 51 (sSliceS 2 (X 49) (some (X 50)) none none)),
  .hv 15 (o 43 (sApp (ty 2 true 16 [.int .i64 0, .int .i64 0]) (X 39) (X 42))),
  .hv 511 (o 48 (sApp (ty 2 true 16 [.int .i64 0, .int .i64 0]) (X 43) (X 47))),
  .hv 8191 (o 52 (sApp (ty 2 true 16 [.int .i64 0, .int .i64 0]) (X 48) (X 51))),
  .op (o 6 (sMov (X 52)))])
 (.ret))))))
theorem c62 (args : T) (h : AHeap) : (envL prog).call 62 args h = trim h (fin [.tmp 6] (runC (envL prog) (b62 (envL prog)) (args ++ List.replicate (53 - args.length) .undef) h)) :=
 call_tr (fn := Go.Proofs.Try.f62) tab62 (by kernel_rfl) (by rfl) (by kernel_rfl) (fun t h => by kernel_rfl) rfl args h
def tab63 : Nat → Cert := fun i => ⟨0, 0, 0, 0, 0, 0⟩
noncomputable def l63x0 (E : Env) : CT :=
 .seq (.reg [o 9 (sBin .lss .none (X 8) (X 7))])
 (.seq (.ite (X 9)
 (.skip)
 (.exit 0))
 (.seq (.block 1 (.seq (.reg [o 10 (sMov (X 8)),
  o 5 (sMov (X 10))])
 (.seq (.reg [o 11 (sMov (X 1)),
  o 12 (sMov (X 0)),
  o 13 (sMov (X 5)),
  o 14 (sIdxAddrS 2 (X 12) (X 13)),
  o 15 (sLoad 2 true (X 14)),
  o 16 (sCallV E (X 11) [(X 15)])])
 (.ite (X 16)
 (.seq (.reg [o 17 (sMov (X 5)),
  o 4 (sMov (X 17))])
 (.ret))
 (.skip)))))
 (.reg [o 18 (sBin .add .none (X 8) (K (.int .i64 1))),
  o 8 (sMov (X 18))])))
noncomputable def b63 (E : Env) : CT :=
 .seq (.reg [o 4 (sMov (K (.int .i64 0)))])
 (.seq (.seq (.reg [o 6 (sMov (X 0)),
  o 7 (sLenSl (X 6)),
  o 8 (sMov (K (.int .i64 0)))])
 (.block 0 (.loop (l63x0 E))))
 (.seq (.reg [o 4 (sMov (K (.int .i64 (-1))))])
 (.ret)))
theorem c63 (args : T) (h : AHeap) : (envL prog).call 63 args h = trim h (fin [.tmp 4] (runC (envL prog) (b63 (envL prog)) (args ++ List.replicate (19 - args.length) .undef) h)) :=
 call_tr (fn := Go.Proofs.Try.f63) tab63 (by kernel_rfl) (by rfl) (by kernel_rfl) (fun t h => by kernel_rfl) rfl args h
def tab64 : Nat → Cert := fun i => ⟨0, 0, 0, 0, 0, 0⟩
noncomputable def b64 (E : Env) : CT :=
 .seq (.reg [o 2 (sBox (X 0)),
  o 3 (sMov (K (.bool false)))])
 (.seq (.reg [o 4 (sFieldAddr 0 (X 2)),
  o 5 (sLoad 1 false (X 4)),
  o 6 (sLoad 1 false (X 1)),
  o 7 (sBin .eql .none (X 5) (X 6)),
  o 3 (sMov (X 7))])
 (.ret))
theorem c64 (args : T) (h : AHeap) : (envL prog).call 64 args h = trim h (fin [.tmp 3] (runC (envL prog) (b64 (envL prog)) (args ++ List.replicate (8 - args.length) .undef) h)) :=
 call_tr (fn := Go.Proofs.Try.f64) tab64 (by kernel_rfl) (by rfl) (by kernel_rfl) (fun t h => by kernel_rfl) rfl args h
def tab66 : Nat → Cert := fun i => ⟨0, 0, 0, 0, 0, 0⟩
noncomputable def l66x0 (E : Env) : CT :=
 .seq (.reg [o 8 (sBin .lss .none (X 7) (X 6))])
 (.seq (.ite (X 8)
 (.skip)
 (.exit 0))
 (.seq (.block 1 (.seq (.reg [o 9 (sMov (X 7)),
  o 3 (sMov (X 9))])
 (.seq (.reg [o 10 (sLoad 1 false (X 1)),
  o 11 (sMov (X 3)),
  o 12 (sCall E 55 [(X 10), (X 11)]),
  o 13 (sMov (X 12)),
  og 13 true 14 (sMov (X 0)),
  og 13 true 15 (sMov (X 3)),
  og 13 true 16 (sCallV E (X 14) [(X 15)]),
  og 13 true 17 (sUn .not (X 16)),
  o 18 (sPick (X 13) (X 17) (K (.bool false)))])
 (.ite (X 18)
 (.ret)
 (.skip)))))
 (.reg [o 19 (sBin .add .none (X 7) (K (.int .i64 1))),
  o 7 (sMov (X 19))])))
noncomputable def b66 (E : Env) : CT :=
 .seq (.reg [o 4 (sLoad 1 false (X 1)),
  o 5 (sLenSl (X 4)),
  o 6 (sBin .mul .none (K (.int .i64 8)) (X 5)),
  o 7 (sMov (K (.int .i64 0)))])
 (.block 0 (.loop (l66x0 E)))
theorem c66 (args : T) (h : AHeap) : (envL prog).call 66 args h = trim h (fin [] (runC (envL prog) (b66 (envL prog)) (args ++ List.replicate (20 - args.length) .undef) h)) :=
 call_tr (fn := Go.Proofs.Try.f66) tab66 (by kernel_rfl) (by rfl) (by kernel_rfl) (fun t h => by kernel_rfl) rfl args h
def tab67 : Nat → Cert := fun i => ⟨0, 0, 0, 0, 0, 0⟩
noncomputable def b67 (E : Env) : CT :=
 .seq (.reg [o 2 (sMov (K (.nilSl)))])
 (.seq (.seq (.reg [o 3 (sMov (X 0)),
  o 4 (sBin .lss .none (X 3) (K (.int .i64 1))),
  o 5 (sMov (X 4)),
  og 5 false 6 (sMov (X 0)),
  og 5 false 7 (sBin .gtr .none (X 6) (K (.int .i64 4096))),
  o 8 (sPick (X 5) (K (.bool true)) (X 7))])
 (.ite (X 8)
 (.seq (.reg [o 2 (sMov (K (.nilSl)))])
 (.ret))
 (.skip)))
 (.seq (.reg [o 9 (sMov (X 0)),
  o 10 (sBin .add .none (X 9) (K (.int .i64 8))),
  o 11 (sBin .sub .none (X 10) (K (.int .i64 1))),
  o 12 (sBin .quo .none (X 11) (K (.int .i64 8))),
  o 13 (sMake (ty 1 false 1 [.int .u8 0]) (X 12) (X 12)),
  o 2 (sMov (X 13))])
 (.ret)))
theorem c67 (args : T) (h : AHeap) : (envL prog).call 67 args h = trim h (fin [.tmp 2] (runC (envL prog) (b67 (envL prog)) (args ++ List.replicate (14 - args.length) .undef) h)) :=
 call_tr (fn := Go.Proofs.Try.f67) tab67 (by kernel_rfl) (by rfl) (by kernel_rfl) (fun t h => by kernel_rfl) rfl args h
def tab68 : Nat → Cert := fun i => ⟨0, 0, 0, 0, 0, 0⟩
def tabstr68x0 : List UInt8 := [0, 1, 1, 2, 1, 2, 2, 3, 1, 2, 2, 3, 2, 3, 3, 4, 1, 2, 2, 3, 2, 3, 3, 4, 2, 3, 3, 4, 3, 4, 4, 5, 1, 2, 2, 3, 2, 3, 3, 4, 2, 3, 3, 4, 3, 4, 4, 5, 2, 3, 3, 4, 3, 4, 4, 5, 3, 4, 4, 5, 4, 5, 5, 6, 1, 2, 2, 3, 2, 3, 3, 4, 2, 3, 3, 4, 3, 4, 4, 5, 2, 3, 3, 4, 3, 4, 4, 5, 3, 4, 4, 5, 4, 5, 5, 6, 2, 3, 3, 4, 3, 4, 4, 5, 3, 4, 4, 5, 4, 5, 5, 6, 3, 4, 4, 5, 4, 5, 5, 6, 4, 5, 5, 6, 5, 6, 6, 7, 1, 2, 2, 3, 2, 3, 3, 4, 2, 3, 3, 4, 3, 4, 4, 5, 2, 3, 3, 4, 3, 4, 4, 5, 3, 4, 4, 5, 4, 5, 5, 6, 2, 3, 3, 4, 3, 4, 4, 5, 3, 4, 4, 5, 4, 5, 5, 6, 3, 4, 4, 5, 4, 5, 5, 6, 4, 5, 5, 6, 5, 6, 6, 7, 2, 3, 3, 4, 3, 4, 4, 5, 3, 4, 4, 5, 4, 5, 5, 6, 3, 4, 4, 5, 4, 5, 5, 6, 4, 5, 5, 6, 5, 6, 6, 7, 3, 4, 4, 5, 4, 5, 5, 6, 4, 5, 5, 6, 5, 6, 6, 7, 4, 5, 5, 6, 5, 6, 6, 7, 5, 6, 6, 7, 6, 7, 7, 8]
def str68x0 : ByteArray := ⟨tabstr68x0.toArray⟩
noncomputable def b68 (E : Env) : CT :=
 .seq (.reg [o 2 (sMov (K (.int .i64 0)))])
 (.seq (.reg [o 3 (sMov (X 0)),
  o 4 (sIdxStr (K (.str str68x0)) (X 3)),
  o 5 (sConv (.int .i64) (X 4)),
  o 2 (sMov (X 5))])
 (.ret))
theorem c68 (args : T) (h : AHeap) : (envL prog).call 68 args h = trim h (fin [.tmp 2] (runC (envL prog) (b68 (envL prog)) (args ++ List.replicate (6 - args.length) .undef) h)) :=
 call_tr (fn := Go.Proofs.Try.f68) tab68 (by kernel_rfl) (by rfl) (by kernel_rfl) (fun t h => by kernel_rfl) rfl args h
def tab69 : Nat → Cert := fun i => bif Nat.beq i 11 then ⟨9, 54, 680906217249386249846784, 1205088896848329185427456, 112382947811375724488742041453776276374570809350632868170734732734838719881293241590782288705168714390777596721837144699999507108449320042638606848, 609987332706579302352693848719322061433462702010702316706625686780384052692097453976043110735309001855013995224369916608979312574511⟩ else bif Nat.beq i 15 then ⟨9, 77, 680906217249386249846784, 1205088896848329185427456, 23115831598601250764242733299745186244064715112560933823724752031692391757118915468275322643558725747272738064420965321799759590965544320155833376631231322711835302609810875268349228821309506037028511729844225, 21211526881130410853267533183424259031483221315037831563207555260244335392337441166579316541022363516950468447371577672569443599734093801526701739672898498476400484063534686101840588701766⟩ else ⟨0, 0, 0, 0, 0, 0⟩
noncomputable def b69 (E : Env) : CT :=
 .seq (.reg [o 6 (sMov (K (.nilSl)))])
 (.seq (.reg [o 10 (sMov (X 0)),
  o 11 (sMov (X 1)),
  o 12 (sSliceS 2 (X 10) (some (X 11)) none none)])
 (.seq (.reg [o 13 (sMov (X 2)),
  o 14 (sLenSl (X 13)),
  o 7 (sMov (X 14))])
 (.seq (.seq (.reg [o 15 (sMov (X 7)),
  o 16 (sBin .eql .none (X 15) (K (.int .i64 0)))])
 (.ite (X 16)
 (.seq (.reg [o 17 (sMov (X 0)),
  o 6 (sMov (X 17))])
 (.ret))
 (.skip)))
 (.seq (.reg [o 18 (sMov (X 0)),
  o 19 (sLenSl (X 18)),
  o 8 (sMov (X 19))])
 (.seq (.seq (.reg [o 20 (sMov (X 1)),
  o 21 (sMov (X 8)),
  o 22 (sBin .eql .none (X 20) (X 21))])
 (.ite (X 22)
 (.seq (.reg [o 23 (sMov (X 0)),
  o 24 (sMov (X 2)),
  o 25 (sApp (ty 2 true 16 [.int .i64 0, .int .i64 0]) (X 23) (X 24)),
  o 6 (sMov (X 25))])
 (.ret))
 (.skip)))
 (.seq (.seq (.reg [o 26 (sMov (X 8)),
  o 27 (sMov (X 7)),
  o 28 (sBin .add .none (X 26) (X 27)),
  o 29 (sMov (X 0)),
  o 30 (sCapSl (X 29)),
  o 31 (sBin .gtr .none (X 28) (X 30))])
 (.ite (X 31)
 (.seq (.reg [o 32 (sMov (X 0)),
  o 33 (sMov (X 1)),
  o 34 (sSliceS 2 (X 32) none (some (X 33)) none),
  o 35 (sMov (X 8)),
  o 36 (sMov (X 7)),
  o 37 (sBin .add .none (X 35) (X 36)),
  o 38 (sMov (X 1)),
  o 39 (sBin .sub .none (X 37) (X 38)),
  o 40 (sAppN (ty 2 true 16 [.int .i64 0, .int .i64 0]) (X 34) (X 39)),
  o 9 (sMov (X 40))])
 (.seq (.reg [o 41 (sMov (X 9)),
  o 42 (sMov (X 1)),
  o 43 (sSliceS 2 (X 41) (some (X 42)) none none),
  o 44 (sMov (X 2)),
  o 45 (sCopy (ty 2 true 16 [.int .i64 0, .int .i64 0]) (X 43) (X 44))])
 (.seq (.drw [.op (o 46 (sMov (X 9))),
  .op (o 47 (sMov (X 1))),
  .op (o 48 (sMov (X 7))),
  .op (o 49 (sBin .add .none (X 47) (X 48))),
  .op (o 50 (sSliceS 2 (X 46) (some (X 49)) none none)),
  .op (o 51 (sMov (X 0))),
  .op (o 52 (sMov (X 1))),
  .op (o 53 (sSliceS 2 (X 51) (some (X 52)) none none)),
  .hv 255 (o 54 (sCopy (ty 2 true 16 [.int .i64 0, .int .i64 0]) (X 50) (X 53)))])
 (.seq (.reg [o 55 (sMov (X 9)),
  o 6 (sMov (X 55))])
 (.ret)))))
 (.skip)))
 (.seq (.reg [o 56 (sMov (X 0)),
  o 57 (sMov (X 8)),
  o 58 (sMov (X 7)),
  o 59 (sBin .add .none (X 57) (X 58)),
  o 60 (sSliceS 2 (X 56) none (some (X 59)) none),
  o 0 (sMov (X 60))])
 (.seq (.seq (.reg [o 61 (sMov (X 2)),
  o 62 (sMov (X 0)),
  o 63 (sMov (X 1)),
  o 64 (sMov (X 7)),
  o 65 (sBin .add .none (X 63) (X 64)),
  o 66 (sSliceS 2 (X 62) (some (X 65)) none none),
  o 67 (sCall E 70 [(X 61), (X 66)]),
  o 68 (sUn .not (X 67))])
 (.ite (X 68)
 (.seq (.drw [.op (o 69 (sMov (X 0))),
  .op (o 70 (sMov (X 1))),
  .op (o 71 (sMov (X 7))),
  .op (o 72 (sBin .add .none (X 70) (X 71))),
  .op (o 73 (sSliceS 2 (X 69) (some (X 72)) none none)),
  .op (o 74 (sMov (X 0))),
  .op (o 75 (sMov (X 1))),
  .op (o 76 (sSliceS 2 (X 74) (some (X 75)) none none)),
  .hv 255 (o 77 (sCopy (ty 2 true 16 [.int .i64 0, .int .i64 0]) (X 73) (X 76)))])
 (.seq (.reg [o 78 (sMov (X 0)),
  o 79 (sMov (X 1)),
  o 80 (sSliceS 2 (X 78) (some (X 79)) none none),
  o 81 (sMov (X 2)),
  o 82 (sCopy (ty 2 true 16 [.int .i64 0, .int .i64 0]) (X 80) (X 81))])
 (.seq (.reg [o 83 (sMov (X 0)),
  o 6 (sMov (X 83))])
 (.ret))))
 (.skip)))
 (.seq (.reg [o 84 (sMov (X 0)),
  o 85 (sMov (X 8)),
  o 86 (sSliceS 2 (X 84) (some (X 85)) none none),
  o 87 (sMov (X 2)),
  o 88 (sCopy (ty 2 true 16 [.int .i64 0, .int .i64 0]) (X 86) (X 87))])
 (.seq (.reg [o 89 (sMov (X 0)),
  o 90 (sMov (X 1)),
  o 91 (sSliceS 2 (X 89) (some (X 90)) none none),
  o 92 (sMov (X 7)),
  o 93 (sCall E 71 [(X 91), (X 92)])])
 (.seq (.reg [o 94 (sMov (X 0)),
  o 6 (sMov (X 94))])
 (.ret))))))))))))
theorem d69 (E : Env) (args : T) (h : AHeap) : callBody prog E 69 args h = trim h (fin [.tmp 6] (runC E (b69 E) (args ++ List.replicate (95 - args.length) .undef) h)) :=
 body_tr (fn := Go.Proofs.Try.f69) tab69 (by kernel_rfl) (by rfl) (by kernel_rfl) (fun t h => by kernel_rfl) rfl args h
end Go.Proofs.Ythhodjcgcgkaaaa.G11
