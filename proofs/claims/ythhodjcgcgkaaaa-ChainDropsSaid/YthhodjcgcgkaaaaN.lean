/- What the functions that ChainDrops reaches answer, for every argument. No condition but those in each statement. -/
import Derived.Test.YthhodjcgcgkaaaaE5
import Derived.Test.YthhodjcgcgkaaaaProg
set_option maxRecDepth 100000
set_option linter.unusedVariables false
namespace Go.Proofs.Ythhodjcgcgkaaaa.G11
open Go Go.Proofs.Ythhodjcgcgkaaaa.Eng
noncomputable abbrev prog : Program := Go.Proofs.Try.prog
def tab6 : Nat → Cert := fun i => bif Nat.beq i 22 then ⟨13, 107, 374064482484038695660745095632754732873421829439488, 374064482831169081638450358586300642417859931144192, 27020536819099726705558537291870087296496810827582883842294838960189818041641717519588108000493320288807428373542506746599364770093846756111266412675604669813184117839802831027060916552464550198321450732819816006778046981655641751857705407406870260984982145712710674646357884526471461062126804850278104765986150508369818668103933583886564813747205790201507120642760579846665728563455222085303605610851653478512808951840, 5328861283668172329945723047610442584811561377612737839126238249495025811415015517060645557040535333412169021603731260640898728541922745109436761026514140105647008018562036071297995674496021954903429615349981901850302561551061439076203987165975715901413574958152939802807594807567696310345739682229295540265153568114765652071863390669223730174219441443195109653608257579589074085593743458⟩ else ⟨0, 0, 0, 0, 0, 0⟩
noncomputable def l6x0 (E : Env) : CT :=
 .seq (.seq (.reg [o 90 (sMov (X 13)),
  o 91 (sMov (X 5)),
  o 92 (sLenSl (X 91)),
  o 93 (sBin .lss .none (X 90) (X 92))])
 (.ite (X 93)
 (.skip)
 (.exit 6)))
 (.seq (.block 7 (.seq (.drw [.op (o 97 (sMov (X 5))),
  .op (o 98 (sMov (X 13))),
  .op (o 99 (sIdxAddrS 3 (X 97) (X 98))),
  .op (o 100 (sFieldAddr 2 (X 99))),
  .op (o 101 (sLoad 1 false (X 100))),
  .op (o 102 (sFieldAddr 0 (X 11))),
  .op (o 103 (sLoad 1 false (X 102))),
  .hv 127 (o 104 (sCall E 26 [(X 101), (X 103)])),
  .op (o 96 (sMov (X 104))),
  .op (o 105 (sExtract (X 96) 0)),
  .op (o 106 (sExtract (X 96) 1)),
  .op (o 14 (sMov (X 105))),
  .op (o 15 (sMov (X 106)))])
 (.reg [o 107 (sMov (X 12)),
  o 108 (sMov (X 107)),
  og 108 false 109 (sMov (X 15)),
  og 108 false 110 (sMov (X 109)),
  og 110 true 111 (sMov (X 14)),
  og 110 true 112 (sFieldAddr 1 (X 11)),
  og 110 true 113 (sLoad 1 false (X 112)),
  og 110 true 114 (sBin .eql .none (X 111) (X 113)),
  og 108 false 115 (sPick (X 110) (X 114) (K (.bool false))),
  o 116 (sPick (X 108) (K (.bool true)) (X 115)),
  o 12 (sMov (X 116))])))
 (.reg [o 94 (sMov (X 13)),
  o 95 (sBin .add .none (X 94) (K (.int .i64 1))),
  o 13 (sMov (X 95))]))
noncomputable def l6x1 (E : Env) : CT :=
 .seq (.seq (.reg [o 72 (sMov (X 10)),
  o 73 (sMov (X 8)),
  o 74 (sMov (X 9)),
  o 75 (sIdxAddrS 3 (X 73) (X 74)),
  o 76 (sFieldAddr 2 (X 75)),
  o 77 (sLoad 1 false (X 76)),
  o 78 (sLenSl (X 77)),
  o 79 (sBin .lss .none (X 72) (X 78))])
 (.ite (X 79)
 (.skip)
 (.exit 4)))
 (.seq (.block 5 (.seq (.reg [o 82 (sMov (X 8)),
  o 83 (sMov (X 9)),
  o 84 (sIdxAddrS 3 (X 82) (X 83)),
  o 85 (sFieldAddr 2 (X 84)),
  o 86 (sLoad 1 false (X 85)),
  o 87 (sMov (X 10)),
  o 88 (sIdxAddrS 2 (X 86) (X 87)),
  o 89 (sLoad 2 true (X 88)),
  o 11 (sAlloc [.int .i64 0, .int .i64 0]),
  u (sStore 2 (X 11) (X 89))])
 (.seq (.reg [o 12 (sMov (K (.bool false)))])
 (.seq (.seq (.reg [o 13 (sMov (K (.int .i64 0)))])
 (.block 6 (.loop (l6x0 E))))
 (.seq (.reg [o 117 (sMov (X 12)),
  o 118 (sUn .not (X 117))])
 (.ite (X 118)
 (.seq (.reg [o 4 (sMov (K (.bool false)))])
 (.ret))
 (.skip)))))))
 (.reg [o 80 (sMov (X 10)),
  o 81 (sBin .add .none (X 80) (K (.int .i64 1))),
  o 10 (sMov (X 81))]))
noncomputable def l6x2 (E : Env) : CT :=
 .seq (.seq (.reg [o 66 (sMov (X 9)),
  o 67 (sMov (X 8)),
  o 68 (sLenSl (X 67)),
  o 69 (sBin .lss .none (X 66) (X 68))])
 (.ite (X 69)
 (.skip)
 (.exit 2)))
 (.seq (.block 3 (.seq (.reg [o 10 (sMov (K (.int .i64 0)))])
 (.block 4 (.loop (l6x1 E)))))
 (.reg [o 70 (sMov (X 9)),
  o 71 (sBin .add .none (X 70) (K (.int .i64 1))),
  o 9 (sMov (X 71))]))
noncomputable def l6x3 (E : Env) : CT :=
 .seq (.seq (.reg [o 39 (sMov (X 5)),
  o 40 (sLenSl (X 39)),
  o 41 (sBin .gtr .none (X 40) (K (.int .i64 0)))])
 (.ite (X 41)
 (.skip)
 (.exit 0)))
 (.seq (.block 1 (.seq (.reg [o 44 (sMov (X 1)),
  o 45 (sMov (X 6)),
  o 46 (sIdxAddrS 1 (X 44) (X 45)),
  o 47 (sLoad 1 false (X 46)),
  o 48 (sConv (.int .i64) (X 47)),
  o 49 (sMov (X 5)),
  o 50 (sLenSl (X 49)),
  o 51 (sBin .rem .none (X 48) (X 50)),
  o 7 (sMov (X 51))])
 (.seq (.reg [o 52 (sMov (X 5)),
  o 53 (sMov (X 7)),
  o 54 (sCall E 22 [(X 52), (X 53)]),
  o 8 (sMov (X 54))])
 (.seq (.seq (.reg [o 55 (sMov (X 8)),
  o 56 (sLenSl (X 55)),
  o 57 (sMov (X 5)),
  o 58 (sLenSl (X 57)),
  o 59 (sBin .sub .none (X 58) (K (.int .i64 1))),
  o 60 (sBin .neq .none (X 56) (X 59)),
  o 61 (sMov (X 60)),
  og 61 false 62 (sMov (X 8)),
  og 61 false 63 (sCall E 14 [(X 62), (K (.int .i64 10)), (K (.int .i64 200))]),
  og 61 false 64 (sUn .not (X 63)),
  o 65 (sPick (X 61) (K (.bool true)) (X 64))])
 (.ite (X 65)
 (.seq (.reg [o 4 (sMov (K (.bool false)))])
 (.ret))
 (.skip)))
 (.seq (.seq (.reg [o 9 (sMov (K (.int .i64 0)))])
 (.block 2 (.loop (l6x2 E))))
 (.reg [o 119 (sMov (X 8)),
  o 5 (sMov (X 119))]))))))
 (.reg [o 42 (sMov (X 6)),
  o 43 (sBin .add .none (X 42) (K (.int .i64 1))),
  o 6 (sMov (X 43))]))
noncomputable def b6 (E : Env) : CT :=
 .seq (.reg [o 4 (sMov (K (.bool false)))])
 (.seq (.seq (.reg [o 16 (sMov (X 0)),
  o 17 (sCall E 9 [(X 16)]),
  o 18 (sUn .not (X 17)),
  o 19 (sMov (X 18)),
  og 19 false 20 (sMov (X 0)),
  og 19 false 21 (sCall E 15 [(X 20), (K (.int .i64 10)), (K (.int .i64 200))]),
  og 19 false 22 (sUn .not (X 21)),
  o 23 (sPick (X 19) (K (.bool true)) (X 22)),
  o 24 (sMov (X 23)),
  og 24 false 25 (sMov (X 1)),
  og 24 false 26 (sLenSl (X 25)),
  og 24 false 27 (sMov (X 0)),
  og 24 false 28 (sLenSl (X 27)),
  og 24 false 29 (sBin .lss .none (X 26) (X 28)),
  o 30 (sPick (X 24) (K (.bool true)) (X 29)),
  o 31 (sMov (X 30)),
  og 31 false 32 (sMov (X 1)),
  og 31 false 33 (sLenSl (X 32)),
  og 31 false 34 (sBin .gtr .none (X 33) (K (.int .i64 100))),
  o 35 (sPick (X 31) (K (.bool true)) (X 34))])
 (.ite (X 35)
 (.seq (.reg [o 36 (sCall E 10 []),
  o 4 (sMov (X 36))])
 (.ret))
 (.skip)))
 (.seq (.reg [o 37 (sMov (X 0)),
  o 38 (sCall E 11 [(X 37)]),
  o 5 (sMov (X 38))])
 (.seq (.seq (.reg [o 6 (sMov (K (.int .i64 0)))])
 (.block 0 (.loop (l6x3 E))))
 (.seq (.reg [o 120 (sCall E 10 []),
  o 4 (sMov (X 120))])
 (.ret)))))
theorem c6 (args : T) (h : AHeap) : (envL prog).call 6 args h = trim h (fin [.tmp 4] (runC (envL prog) (b6 (envL prog)) (args ++ List.replicate (121 - args.length) .undef) h)) :=
 call_tr (fn := Go.Proofs.Try.f6) tab6 (by kernel_rfl) (by rfl) (by kernel_rfl) (fun t h => by kernel_rfl) rfl args h
theorem d6 (E : Env) (args : T) (h : AHeap) : callBody prog E 6 args h = trim h (fin [.tmp 4] (runC E (b6 E) (args ++ List.replicate (121 - args.length) .undef) h)) :=
 body_tr (fn := Go.Proofs.Try.f6) tab6 (by kernel_rfl) (by rfl) (by kernel_rfl) (fun t h => by kernel_rfl) rfl args h
def tab9 : Nat → Cert := fun i => ⟨0, 0, 0, 0, 0, 0⟩
noncomputable def l9x0 (E : Env) : CT :=
 .seq (.seq (.reg [o 4 (sMov (X 3)),
  o 5 (sMov (X 0)),
  o 6 (sLenSl (X 5)),
  o 7 (sBin .lss .none (X 4) (X 6))])
 (.ite (X 7)
 (.skip)
 (.exit 0)))
 (.seq (.block 1 (.seq (.reg [o 10 (sMov (X 0)),
  o 11 (sMov (X 3)),
  o 12 (sIdxAddrS 3 (X 10) (X 11)),
  o 13 (sFieldAddr 1 (X 12)),
  o 14 (sLoad 1 false (X 13)),
  o 15 (sLenSl (X 14)),
  o 16 (sBin .gtr .none (X 15) (K (.int .i64 40))),
  o 17 (sMov (X 16)),
  og 17 false 18 (sMov (X 0)),
  og 17 false 19 (sMov (X 3)),
  og 17 false 20 (sIdxAddrS 3 (X 18) (X 19)),
  og 17 false 21 (sFieldAddr 2 (X 20)),
  og 17 false 22 (sLoad 1 false (X 21)),
  og 17 false 23 (sLenSl (X 22)),
  og 17 false 24 (sBin .gtr .none (X 23) (K (.int .i64 80))),
  o 25 (sPick (X 17) (K (.bool true)) (X 24))])
 (.ite (X 25)
 (.seq (.reg [o 2 (sMov (K (.bool false)))])
 (.ret))
 (.skip))))
 (.reg [o 8 (sMov (X 3)),
  o 9 (sBin .add .none (X 8) (K (.int .i64 1))),
  o 3 (sMov (X 9))]))
noncomputable def b9 (E : Env) : CT :=
 .seq (.reg [o 2 (sMov (K (.bool false)))])
 (.seq (.seq (.reg [o 3 (sMov (K (.int .i64 0)))])
 (.block 0 (.loop (l9x0 E))))
 (.seq (.reg [o 26 (sMov (X 0)),
  o 27 (sLenSl (X 26)),
  o 28 (sBin .leq .none (X 27) (K (.int .i64 12))),
  o 2 (sMov (X 28))])
 (.ret)))
theorem c9 (args : T) (h : AHeap) : (envL prog).call 9 args h = trim h (fin [.tmp 2] (runC (envL prog) (b9 (envL prog)) (args ++ List.replicate (29 - args.length) .undef) h)) :=
 call_tr (fn := Go.Proofs.Try.f9) tab9 (by kernel_rfl) (by rfl) (by kernel_rfl) (fun t h => by kernel_rfl) rfl args h
def tab10 : Nat → Cert := fun i => ⟨0, 0, 0, 0, 0, 0⟩
noncomputable def b10 (E : Env) : CT :=
 .seq (.reg [o 0 (sMov (K (.bool false)))])
 (.seq (.reg [o 8 (sCall E 31 []),
  o 1 (sMov (X 8))])
 (.seq (.reg [o 9 (sMov (X 1)),
  o 10 (sCall E 22 [(X 9), (K (.int .i64 1))]),
  o 2 (sMov (X 10))])
 (.seq (.reg [o 11 (sMov (X 1)),
  o 12 (sCall E 24 [(X 11), (K (.int .i64 1))]),
  o 3 (sMov (X 12))])
 (.seq (.reg [o 14 (sMov (X 1)),
  o 15 (sCall E 12 [(X 14), (K (.int .i64 0)), (K (.int .i64 3))]),
  o 13 (sMov (X 15)),
  o 16 (sExtract (X 13) 0),
  o 17 (sExtract (X 13) 1),
  o 4 (sMov (X 16)),
  o 5 (sMov (X 17))])
 (.seq (.reg [o 19 (sMov (X 1)),
  o 20 (sCall E 12 [(X 19), (K (.int .i64 0)), (K (.int .i64 4))]),
  o 18 (sMov (X 20)),
  o 21 (sExtract (X 18) 0),
  o 22 (sExtract (X 18) 1),
  o 6 (sMov (X 21)),
  o 7 (sMov (X 22))])
 (.seq (.reg [o 23 (sMov (X 1)),
  o 24 (sCall E 14 [(X 23), (K (.int .i64 8)), (K (.int .i64 4))]),
  o 25 (sMov (X 24)),
  og 25 true 26 (sMov (X 1)),
  og 25 true 27 (sCall E 16 [(X 26), (K (.int .i64 5))]),
  og 25 true 28 (sBin .eql .none (X 27) (K (.int .i64 2))),
  o 29 (sPick (X 25) (X 28) (K (.bool false))),
  o 30 (sMov (X 29)),
  og 30 true 31 (sMov (X 1)),
  og 30 true 32 (sCall E 16 [(X 31), (K (.int .i64 2))]),
  og 30 true 33 (sBin .eql .none (X 32) (K (.int .i64 (-1)))),
  o 34 (sPick (X 30) (X 33) (K (.bool false))),
  o 35 (sMov (X 34)),
  og 35 true 36 (sMov (X 2)),
  og 35 true 37 (sLenSl (X 36)),
  og 35 true 38 (sBin .eql .none (X 37) (K (.int .i64 2))),
  o 39 (sPick (X 35) (X 38) (K (.bool false))),
  o 40 (sMov (X 39)),
  og 40 true 41 (sMov (X 2)),
  og 40 true 42 (sIdxAddrS 3 (X 41) (K (.int .i64 0))),
  og 40 true 43 (sFieldAddr 2 (X 42)),
  og 40 true 44 (sLoad 1 false (X 43)),
  og 40 true 45 (sLenSl (X 44)),
  og 40 true 46 (sBin .eql .none (X 45) (K (.int .i64 3))),
  o 47 (sPick (X 40) (X 46) (K (.bool false))),
  o 48 (sMov (X 47)),
  og 48 true 49 (sMov (X 2)),
  og 48 true 50 (sIdxAddrS 3 (X 49) (K (.int .i64 0))),
  og 48 true 51 (sFieldAddr 1 (X 50)),
  og 48 true 52 (sLoad 1 false (X 51)),
  og 48 true 53 (sIdxAddrS 1 (X 52) (K (.int .i64 0))),
  og 48 true 54 (sLoad 1 false (X 53)),
  og 48 true 55 (sBin .eql .none (X 54) (K (.int .u8 14))),
  o 56 (sPick (X 48) (X 55) (K (.bool false))),
  o 57 (sMov (X 56)),
  og 57 true 58 (sMov (X 3)),
  og 57 true 59 (sLenSl (X 58)),
  og 57 true 60 (sBin .eql .none (X 59) (K (.int .i64 2))),
  o 61 (sPick (X 57) (X 60) (K (.bool false))),
  o 62 (sMov (X 61)),
  og 62 true 63 (sMov (X 3)),
  og 62 true 64 (sIdxAddrS 3 (X 63) (K (.int .i64 1))),
  og 62 true 65 (sFieldAddr 2 (X 64)),
  og 62 true 66 (sLoad 1 false (X 65)),
  og 62 true 67 (sLenSl (X 66)),
  og 62 true 68 (sBin .eql .none (X 67) (K (.int .i64 0))),
  o 69 (sPick (X 62) (X 68) (K (.bool false))),
  o 70 (sMov (X 69)),
  og 70 true 71 (sMov (X 3)),
  og 70 true 72 (sIdxAddrS 3 (X 71) (K (.int .i64 1))),
  og 70 true 73 (sFieldAddr 1 (X 72)),
  og 70 true 74 (sLoad 1 false (X 73)),
  og 70 true 75 (sIdxAddrS 1 (X 74) (K (.int .i64 0))),
  og 70 true 76 (sLoad 1 false (X 75)),
  og 70 true 77 (sBin .eql .none (X 76) (K (.int .u8 0))),
  o 78 (sPick (X 70) (X 77) (K (.bool false))),
  o 79 (sMov (X 78)),
  og 79 true 80 (sMov (X 5)),
  o 81 (sPick (X 79) (X 80) (K (.bool false))),
  o 82 (sMov (X 81)),
  og 82 true 83 (sMov (X 4)),
  og 82 true 84 (sBin .eql .none (X 83) (K (.int .i64 3))),
  o 85 (sPick (X 82) (X 84) (K (.bool false))),
  o 86 (sMov (X 85)),
  og 86 true 87 (sMov (X 7)),
  og 86 true 88 (sUn .not (X 87)),
  o 89 (sPick (X 86) (X 88) (K (.bool false))),
  o 90 (sMov (X 89)),
  og 90 true 91 (sMov (X 1)),
  og 90 true 92 (sCall E 19 [(X 91), (K (.int .i64 0)), (K (.int .i64 2))]),
  og 90 true 93 (sBuildSl 1 1 [.int .u8 0] [(0, 1, (K (.int .u8 14)))]),
  og 90 true 94 (sCall E 18 [(X 92), (X 93)]),
  o 95 (sPick (X 90) (X 94) (K (.bool false))),
  o 0 (sMov (X 95))])
 (.ret)))))))
theorem d10 (E : Env) (args : T) (h : AHeap) : callBody prog E 10 args h = trim h (fin [.tmp 0] (runC E (b10 E) (args ++ List.replicate (96 - args.length) .undef) h)) :=
 body_tr (fn := Go.Proofs.Try.f10) tab10 (by kernel_rfl) (by rfl) (by kernel_rfl) (fun t h => by kernel_rfl) rfl args h
def tab11 : Nat → Cert := fun i => bif Nat.beq i 5 then ⟨24, 34, 123665188297956341489705328660100994040701509796628765393282705292376775491875249131562981529530227696830600829213124663389497742820965827251959667118486893146851803905654784, 123665189680020956703452420371365345793402128922964192686355718144248408764028748182070656932443682073954020777391514008574333533808118129279582007983941216098465064670986240, 218497496942966181991559260880349864975321524803769982612594698812958555625021422703123933621147944294927040160385117000418079909352018341426941603768637229458190957185643976355684743536863784974657983173230053752838585075561107570950027297685512, 101745825747359546209796801745576505077055471908381831274261949310596483330430297846841473805970714656032122947437292044354909686915189876665613749089572875302114848571679569007095894424137497364187878770095125221659902491105205526986764⟩ else ⟨0, 0, 0, 0, 0, 0⟩
noncomputable def l11x0 (E : Env) : CT :=
 .seq (.seq (.reg [o 5 (sMov (X 4)),
  o 6 (sMov (X 0)),
  o 7 (sLenSl (X 6)),
  o 8 (sBin .lss .none (X 5) (X 7))])
 (.ite (X 8)
 (.skip)
 (.exit 0)))
 (.seq (.block 1 (.drw [.op (o 11 (sMov (X 3))),
  .op (o 12 (sMov (X 0))),
  .op (o 13 (sMov (X 4))),
  .op (o 14 (sIdxAddrS 3 (X 12) (X 13))),
  .op (o 15 (sFieldAddr 0 (X 14))),
  .rd 5 (o 16 (sLoad 1 false (X 15))),
  .op (o 17 (sBuildSl 1 0 [.int .u8 0] [])),
  .op (o 18 (sMov (X 0))),
  .op (o 19 (sMov (X 4))),
  .op (o 20 (sIdxAddrS 3 (X 18) (X 19))),
  .op (o 21 (sFieldAddr 1 (X 20))),
  .op (o 22 (sLoad 1 false (X 21))),
  .op (o 24 (sBuildSl 2 0 [.int .i64 0, .int .i64 0] [])),
  .op (o 25 (sMov (X 0))),
  .op (o 26 (sMov (X 4))),
  .op (o 27 (sIdxAddrS 3 (X 25) (X 26))),
  .op (o 28 (sFieldAddr 2 (X 27))),
  .rd 18 (o 29 (sLoad 1 false (X 28))),
  .hv 4032 (o 23 (sApp (ty 1 false 1 [.int .u8 0]) (X 17) (X 22))),
  .hv 524224 (o 30 (sApp (ty 2 true 16 [.int .i64 0, .int .i64 0]) (X 24) (X 29))),
  .op (o 31 (sBuild [.int .i64 0, .nilSl, .nilSl] [(0, 1, (X 16)), (1, 1, (X 23)), (2, 1, (X 30))])),
  .op (o 32 (sBuildSl 3 1 [.int .i64 0, .nilSl, .nilSl] [(0, 3, (X 31))])),
  .hv 4194303 (o 33 (sApp (ty 3 true 56 [.int .i64 0, .nilSl, .nilSl]) (X 11) (X 32))),
  .op (o 3 (sMov (X 33)))]))
 (.reg [o 9 (sMov (X 4)),
  o 10 (sBin .add .none (X 9) (K (.int .i64 1))),
  o 4 (sMov (X 10))]))
noncomputable def b11 (E : Env) : CT :=
 .seq (.reg [o 2 (sMov (K (.nilSl)))])
 (.seq (.reg [o 3 (sMov (K (.nilSl)))])
 (.seq (.seq (.reg [o 4 (sMov (K (.int .i64 0)))])
 (.block 0 (.loop (l11x0 E))))
 (.seq (.reg [o 34 (sMov (X 3)),
  o 2 (sMov (X 34))])
 (.ret))))
theorem c11 (args : T) (h : AHeap) : (envL prog).call 11 args h = trim h (fin [.tmp 2] (runC (envL prog) (b11 (envL prog)) (args ++ List.replicate (35 - args.length) .undef) h)) :=
 call_tr (fn := Go.Proofs.Try.f11) tab11 (by kernel_rfl) (by rfl) (by kernel_rfl) (fun t h => by kernel_rfl) rfl args h
def tab12 : Nat → Cert := fun i => ⟨0, 0, 0, 0, 0, 0⟩
noncomputable def aq12x0 (E : Env) : CT :=
 .reg [o 9 (sAlloc [.int .i64 0, .nilSl, .nilSl]),
  u (sStore 3 (X 9) (X 14))]
noncomputable def bq12x0 (E : Env) : CT :=
 .block 1 (.seq (.reg [o 16 (sFieldAddr 2 (X 9)),
  o 17 (sLoad 1 false (X 16)),
  o 18 (sLoad 1 false (X 5)),
  o 19 (sCall E 26 [(X 17), (X 18)]),
  o 15 (sMov (X 19)),
  o 20 (sExtract (X 15) 0),
  o 21 (sExtract (X 15) 1),
  u (sStore 1 (X 6) (X 20)),
  u (sStore 1 (X 7) (X 21))])
 (.seq (.reg [o 22 (sLoad 1 false (X 7))])
 (.ite (X 22)
 (.seq (.reg [o 23 (sLoad 1 false (X 6)),
  u (sStore 1 (X 6) (X 23)),
  u (sStore 1 (X 7) (K (.bool true)))])
 (.ret))
 (.skip))))
noncomputable def kaq12x0 : Code := (nthRange Go.Proofs.Try.f12 0).1
noncomputable def kbq12x0 : Code := (nthRange Go.Proofs.Try.f12 0).2
theorem eaq12x0 (E : Env) (t : T) (h : AHeap) : evalCode prog E kaq12x0 t h = runC E (aq12x0 E) t h := code_tr tab12 (by kernel_rfl) t h
theorem ebq12x0 (E : Env) (t : T) (h : AHeap) : evalCode prog E kbq12x0 t h = runC E (bq12x0 E) t h := code_tr tab12 (by kernel_rfl) t h
noncomputable def b12 (E : Env) : CT :=
 .seq (.reg [o 5 (sBox (X 2)),
  o 6 (sAlloc [.int .i64 0]),
  o 7 (sAlloc [.bool false])])
 (.seq (.seq (.reg [o 10 (sMov (X 0)),
  o 11 (sMov (X 1)),
  o 12 (sCall E 32 [(X 10), (X 11)])])
 (.block 0 (.range (X 12) [13, 14] kaq12x0 kbq12x0)))
 (.seq (.reg [u (sStore 1 (X 6) (K (.int .i64 0))),
  u (sStore 1 (X 7) (K (.bool false)))])
 (.ret)))
theorem c12 (args : T) (h : AHeap) : (envL prog).call 12 args h = trim h (fin [.cell 6 1 false, .cell 7 1 false] (runC (envL prog) (b12 (envL prog)) (args ++ List.replicate (24 - args.length) .undef) h)) :=
 call_tr (fn := Go.Proofs.Try.f12) tab12 (by kernel_rfl) (by rfl) (by kernel_rfl) (fun t h => by kernel_rfl) rfl args h
def tab14 : Nat → Cert := fun i => bif Nat.beq i 7 then ⟨25, 43, 34812909121011335196656214016632767997840829462749138344832195379092733351160280114368459919889280209772584522835387045792376155151324300324561089389200316152743191243459525274715432157184, 69617315882342512291642881477108290795808739161222699080920214833351908619100982194779461620409143511048112917758754117540891806882145539893837862635986031505225687665965272144664909053952, 202426960613634076434335032550943331740861803360183631553168059300631602878522618336196548323712208353414766544879666657444158253084091293424371119223093221743631321511596339453351156680739272083919248731575288092920848678094018380149173112349813881429305598041386837508685065046128739858145349534257260109836128899328639488, 2024921547109137613417993539810473467089266335261361541122574936241877803252792585534968486927815901978802223679123871654271022260548871320125164849058659774102900402664311211739475871247921816559680102091611651395659288415264994705965195507043685553973055641574783825399203616866638144283196931881096481117044756⟩ else ⟨0, 0, 0, 0, 0, 0⟩
noncomputable def aq14x0 (E : Env) : CT :=
 .seq (.reg [o 8 (sMov (X 17))])
 (.reg [o 9 (sAlloc [.int .i64 0, .nilSl, .nilSl]),
  u (sStore 3 (X 9) (X 18))])
noncomputable def l14x0 (E : Env) : CT :=
 .seq (.reg [o 48 (sBin .lss .none (X 47) (X 46))])
 (.seq (.ite (X 48)
 (.skip)
 (.exit 2))
 (.seq (.block 3 (.seq (.reg [o 49 (sIdxAddrS 2 (X 45) (X 47)),
  o 50 (sLoad 2 true (X 49)),
  o 11 (sAlloc [.int .i64 0, .int .i64 0]),
  u (sStore 2 (X 11) (X 50))])
 (.seq (.seq (.reg [o 51 (sLoad 1 false (X 7)),
  o 52 (sFieldAddr 1 (X 11)),
  o 53 (sLoad 1 false (X 52)),
  o 54 (sCall E 35 [(X 51), (X 53)])])
 (.ite (X 54)
 (.seq (.reg [u (sStore 1 (X 6) (K (.bool false)))])
 (.ret))
 (.skip)))
 (.reg [o 55 (sLoad 1 false (X 7)),
  o 56 (sFieldAddr 1 (X 11)),
  o 57 (sLoad 1 false (X 56)),
  o 58 (sBuildSl 1 1 [.int .i64 0] [(0, 1, (X 57))]),
  o 59 (sApp (ty 1 false 8 [.int .i64 0]) (X 55) (X 58)),
  u (sStore 1 (X 7) (X 59))]))))
 (.reg [o 60 (sBin .add .none (X 47) (K (.int .i64 1))),
  o 47 (sMov (X 60))])))
noncomputable def bq14x0 (E : Env) : CT :=
 .block 1 (.seq (.seq (.drw [.op (o 19 (sLoad 3 true (X 9))),
  .op (o 20 (sLoad 1 false (X 4))),
  .op (o 21 (sLoad 1 false (X 5))),
  .op (o 22 (sMov (X 8))),
  .op (o 23 (sLoad 1 false (X 3))),
  .op (o 24 (sLenSl (X 23))),
  .op (o 25 (sBin .sub .none (X 24) (K (.int .i64 1)))),
  .op (o 26 (sBin .eql .none (X 22) (X 25))),
  .hv 255 (o 27 (sCall E 34 [(X 19), (X 20), (X 21), (X 26)])),
  .op (o 28 (sUn .not (X 27))),
  .op (o 29 (sMov (X 28))),
  .op (og 29 false 30 (sMov (X 8))),
  .op (og 29 false 31 (sBin .gtr .none (X 30) (K (.int .i64 0)))),
  .op (og 29 false 32 (sMov (X 31))),
  .op (og 32 true 33 (sFieldAddr 0 (X 9))),
  .op (og 32 true 34 (sLoad 1 false (X 33))),
  .op (og 32 true 35 (sLoad 1 false (X 3))),
  .op (og 32 true 36 (sMov (X 8))),
  .op (og 32 true 37 (sBin .sub .none (X 36) (K (.int .i64 1)))),
  .op (og 32 true 38 (sIdxAddrS 3 (X 35) (X 37))),
  .op (og 32 true 39 (sFieldAddr 0 (X 38))),
  .op (og 32 true 40 (sLoad 1 false (X 39))),
  .op (og 32 true 41 (sBin .leq .none (X 34) (X 40))),
  .op (og 29 false 42 (sPick (X 32) (X 41) (K (.bool false)))),
  .op (o 43 (sPick (X 29) (K (.bool true)) (X 42)))])
 (.ite (X 43)
 (.seq (.reg [u (sStore 1 (X 6) (K (.bool false)))])
 (.ret))
 (.skip)))
 (.seq (.reg [o 44 (sFieldAddr 2 (X 9)),
  o 45 (sLoad 1 false (X 44)),
  o 46 (sLenSl (X 45)),
  o 47 (sMov (K (.int .i64 0)))])
 (.block 2 (.loop (l14x0 E)))))
noncomputable def kaq14x0 : Code := (nthRange Go.Proofs.Try.f14 0).1
noncomputable def kbq14x0 : Code := (nthRange Go.Proofs.Try.f14 0).2
theorem eaq14x0 (E : Env) (t : T) (h : AHeap) : evalCode prog E kaq14x0 t h = runC E (aq14x0 E) t h := code_tr tab14 (by kernel_rfl) t h
theorem ebq14x0 (E : Env) (t : T) (h : AHeap) : evalCode prog E kbq14x0 t h = runC E (bq14x0 E) t h := code_tr tab14 (by kernel_rfl) t h
noncomputable def b14 (E : Env) : CT :=
 .seq (.reg [o 3 (sBox (X 0)),
  o 4 (sBox (X 1)),
  o 5 (sBox (X 2)),
  o 6 (sAlloc [.bool false])])
 (.seq (.seq (.reg [o 12 (sLoad 1 false (X 3)),
  o 13 (sLenSl (X 12)),
  o 14 (sBin .gtr .none (X 13) (K (.int .i64 8)))])
 (.ite (X 14)
 (.seq (.reg [u (sStore 1 (X 6) (K (.bool false)))])
 (.ret))
 (.skip)))
 (.seq (.reg [o 7 (sAlloc [.nilSl])])
 (.seq (.seq (.reg [o 15 (sLoad 1 false (X 3)),
  o 16 (sCall E 32 [(X 15), (K (.int .i64 0))])])
 (.block 0 (.range (X 16) [17, 18] kaq14x0 kbq14x0)))
 (.seq (.reg [u (sStore 1 (X 6) (K (.bool true)))])
 (.ret)))))
theorem c14 (args : T) (h : AHeap) : (envL prog).call 14 args h = trim h (fin [.cell 6 1 false] (runC (envL prog) (b14 (envL prog)) (args ++ List.replicate (61 - args.length) .undef) h)) :=
 call_tr (fn := Go.Proofs.Try.f14) tab14 (by kernel_rfl) (by rfl) (by kernel_rfl) (fun t h => by kernel_rfl) rfl args h
def tab15 : Nat → Cert := fun i => bif Nat.beq i 8 then ⟨38, 65, 123591080793042945603774969924406538139668500422184042109161150932093227982931350996865314193678689492167634675634432270870607690386277600130684113195379899956227492572564623387458074933652023191379790515674693519345338238756401379958811463008731985653007805843669223849791118521052071890937828892671569630314224049942721850347292699529739267050474769742977333712950171826159779649995610431699803492028698830879368249734506356135690240, 243379359098368479526831052749390675968994274052731229243025515492057605234549588297263685383239570248161060067599931677018445593177688010448945193511704933486079676274658341098667352541197683408871610356806381338194374363940385204956653512233467734028444114312397548378049276482681503356117047735393811808865045267897228942115478201912334844044269251839845294108117251687779451743346405216628767568622889307579001401312176430827700224, 177743069977165419839400586496059196327888190556619529092119353174993190401212534189110822636911701137536010553043819641521780760333432942705660766930742079844562290816140968991866701982847770323187567938029957642409785523127529458871365878744073479487232575643066331373758444010438917044712256952470779868811681025557670441632023192349846391623179614393258982598476553385904807003163193195043342439231160696034341907122766680099458304599553488106412606768020486398098403476347432877354933423779313091759546557923017128384775426613940080541211358108396509666352262181412110154778862767997407987477057254353819566369879300461616808533836305569121332302667091779420880750637704271250041931970845556528137948146671457678923544884666239814050251264, 626157385476433819279873399924115462186408651992799141652829666393517991951010469420221657774518691331011036558030046987557181917500504739334917957183930309017718145088217400403364416766871494994030028524106110812546334086131026268187303344909355526507566222275393278341703965205744471602315059407188275122831238339628138984153216586328153329498735016887890641541418253298812836468727792049292438230624347223809297494228834448511622323145118482220210893529264167447019057552560985131786073475749379815872830147514618630374941154962445280728362665109017140612015618730814641157714276468131621958300623598929361463959640928324445509287766178269127708664333771862912104530729660872548909082856764414291557519675981284135093141533⟩ else bif Nat.beq i 13 then ⟨10, 82, 317069886008391487830689317888, 632895782621398835350101558272, 3495959950985713037648777702775481440017705654674549719712995012313383204527667326665630441553370135634093238478895722763936630862452870849105773374404484333215212528063490946880433045726560413038619688170575309597675161392039120463626324003521024, 120009297189264410750349353876664747633010375445211079725867644813370885177516209928478563840657298851592104910110380000196741213615274233507087419691028637732131194455321163133026431166688860594863116939109150055413890154570⟩ else bif Nat.beq i 18 then ⟨11, 99, 675160890514945172616361234353094656, 1328244373212466086062127733431861248, 3367973495033648689385522569405399977115136000026859090301272306272269028819889099018303836098415084946653051416397696797662179372730057019712943553793086425131337581376043290338491638187564774120103084944852403147434102728582081744206080243351724896556671433634028052954077012285235045606709408283027746621612117276583446708352, 1046395124205339180613696336974292429332072850787087714728875514493613719098333979274611059723451466208686100319702270650639604629301522669694439640481302561995318293294264225715884851120720049926633594718299487543838391699133809410834730826779831486496632835424766407643383783274977329297696430751834⟩ else bif Nat.beq i 28 then ⟨8, 139, 4621273811361202432, 9169078204214804736, 27817953874931422193200157252797783625799575190965417185247681684985688156016637528480604565104700038194148569872667968345439160087568221167471871615796486670737412788121697297853431807534135876730056557089694976682733014116407542818745469537618840793970030286963358850110397030940211422949421136755529118801638056952079565077335769600, 11176705733394430945275687193006295969977742981669140904492694214492253717676399609705428669716993656296328956148985504451144121427284122797050265757077188845094932654729828123982727445147941511207224762634835040292827329232698839955761398175537411313593562238196449390032098107480650726397444229⟩ else ⟨0, 0, 0, 0, 0, 0⟩
noncomputable def l15x0 (E : Env) : CT :=
 .seq (.seq (.reg [o 83 (sMov (X 11)),
  o 84 (sMov (X 7)),
  o 85 (sLenSl (X 84)),
  o 86 (sBin .lss .none (X 83) (X 85))])
 (.ite (X 86)
 (.skip)
 (.exit 4)))
 (.seq (.block 5 (.seq (.drw [.op (o 89 (sMov (X 7))),
  .op (o 90 (sMov (X 11))),
  .op (o 91 (sIdxAddrS 1 (X 89) (X 90))),
  .op (o 92 (sLoad 1 false (X 91))),
  .op (o 93 (sFieldAddr 2 (X 9))),
  .op (o 94 (sLoad 1 false (X 93))),
  .op (o 95 (sMov (X 10))),
  .op (o 96 (sIdxAddrS 2 (X 94) (X 95))),
  .op (o 97 (sFieldAddr 1 (X 96))),
  .op (o 98 (sLoad 1 false (X 97))),
  .op (o 99 (sBin .eql .none (X 92) (X 98)))])
 (.ite (X 99)
 (.seq (.reg [o 6 (sMov (K (.bool false)))])
 (.ret))
 (.skip))))
 (.reg [o 87 (sMov (X 11)),
  o 88 (sBin .add .none (X 87) (K (.int .i64 1))),
  o 11 (sMov (X 88))]))
noncomputable def l15x1 (E : Env) : CT :=
 .seq (.seq (.reg [o 66 (sMov (X 10)),
  o 67 (sFieldAddr 2 (X 9)),
  o 68 (sLoad 1 false (X 67)),
  o 69 (sLenSl (X 68)),
  o 70 (sBin .lss .none (X 66) (X 69))])
 (.ite (X 70)
 (.skip)
 (.exit 2)))
 (.seq (.block 3 (.seq (.seq (.drw [.op (o 73 (sFieldAddr 1 (X 9))),
  .op (o 74 (sLoad 1 false (X 73))),
  .op (o 75 (sFieldAddr 2 (X 9))),
  .op (o 76 (sLoad 1 false (X 75))),
  .op (o 77 (sMov (X 10))),
  .op (o 78 (sIdxAddrS 2 (X 76) (X 77))),
  .op (o 79 (sFieldAddr 0 (X 78))),
  .op (o 80 (sLoad 1 false (X 79))),
  .hv 255 (o 81 (sCall E 38 [(X 74), (X 80)])),
  .op (o 82 (sUn .not (X 81)))])
 (.ite (X 82)
 (.seq (.reg [o 6 (sMov (K (.bool false)))])
 (.ret))
 (.skip)))
 (.seq (.reg [o 11 (sMov (K (.int .i64 0)))])
 (.block 4 (.loop (l15x0 E))))))
 (.reg [o 71 (sMov (X 10)),
  o 72 (sBin .add .none (X 71) (K (.int .i64 1))),
  o 10 (sMov (X 72))]))
noncomputable def l15x2 (E : Env) : CT :=
 .seq (.seq (.reg [o 100 (sMov (X 12)),
  o 101 (sFieldAddr 2 (X 9)),
  o 102 (sLoad 1 false (X 101)),
  o 103 (sLenSl (X 102)),
  o 104 (sBin .lss .none (X 100) (X 103))])
 (.ite (X 104)
 (.skip)
 (.exit 6)))
 (.seq (.block 7 (.reg [o 107 (sMov (X 7)),
  o 108 (sFieldAddr 2 (X 9)),
  o 109 (sLoad 1 false (X 108)),
  o 110 (sMov (X 12)),
  o 111 (sIdxAddrS 2 (X 109) (X 110)),
  o 112 (sFieldAddr 1 (X 111)),
  o 113 (sLoad 1 false (X 112)),
  o 114 (sBuildSl 1 1 [.int .i64 0] [(0, 1, (X 113))]),
  o 115 (sApp (ty 1 false 8 [.int .i64 0]) (X 107) (X 114)),
  o 7 (sMov (X 115))]))
 (.reg [o 105 (sMov (X 12)),
  o 106 (sBin .add .none (X 105) (K (.int .i64 1))),
  o 12 (sMov (X 106))]))
noncomputable def l15x3 (E : Env) : CT :=
 .seq (.seq (.reg [o 119 (sMov (X 14)),
  o 120 (sMov (X 13)),
  o 121 (sLenSl (X 120)),
  o 122 (sBin .lss .none (X 119) (X 121)),
  o 123 (sMov (X 122)),
  og 123 true 124 (sMov (X 8)),
  og 123 true 125 (sBin .add .none (X 124) (K (.int .i64 1))),
  og 123 true 126 (sMov (X 0)),
  og 123 true 127 (sLenSl (X 126)),
  og 123 true 128 (sBin .lss .none (X 125) (X 127)),
  o 129 (sPick (X 123) (X 128) (K (.bool false)))])
 (.ite (X 129)
 (.skip)
 (.exit 8)))
 (.seq (.block 9 (.seq (.drw [.op (o 132 (sFieldAddr 2 (X 9))),
  .op (o 133 (sLoad 1 false (X 132))),
  .op (o 134 (sMov (X 13))),
  .op (o 135 (sMov (X 14))),
  .op (o 136 (sIdxAddrS 1 (X 134) (X 135))),
  .op (o 137 (sLoad 1 false (X 136))),
  .hv 63 (o 138 (sCall E 33 [(X 133), (X 137)])),
  .op (o 139 (sBin .lss .none (X 138) (K (.int .i64 0))))])
 (.ite (X 139)
 (.seq (.reg [o 6 (sMov (K (.bool false)))])
 (.ret))
 (.skip))))
 (.reg [o 130 (sMov (X 14)),
  o 131 (sBin .add .none (X 130) (K (.int .i64 1))),
  o 14 (sMov (X 131))]))
noncomputable def l15x4 (E : Env) : CT :=
 .seq (.seq (.reg [o 18 (sMov (X 8)),
  o 19 (sMov (X 0)),
  o 20 (sLenSl (X 19)),
  o 21 (sBin .lss .none (X 18) (X 20))])
 (.ite (X 21)
 (.skip)
 (.exit 0)))
 (.seq (.block 1 (.seq (.reg [o 24 (sMov (X 0)),
  o 25 (sMov (X 8)),
  o 26 (sIdxAddrS 3 (X 24) (X 25)),
  o 27 (sLoad 3 true (X 26)),
  o 9 (sAlloc [.int .i64 0, .nilSl, .nilSl]),
  u (sStore 3 (X 9) (X 27))])
 (.seq (.seq (.drw [.op (o 28 (sFieldAddr 0 (X 9))),
  .op (o 29 (sLoad 1 false (X 28))),
  .op (o 30 (sBin .lss .none (X 29) (K (.int .i64 1)))),
  .op (o 31 (sMov (X 30))),
  .op (og 31 false 32 (sFieldAddr 0 (X 9))),
  .op (og 31 false 33 (sLoad 1 false (X 32))),
  .op (og 31 false 34 (sBin .gtr .none (X 33) (K (.int .i64 1000000)))),
  .op (o 35 (sPick (X 31) (K (.bool true)) (X 34))),
  .op (o 36 (sMov (X 35))),
  .op (og 36 false 37 (sMov (X 8))),
  .op (og 36 false 38 (sBin .gtr .none (X 37) (K (.int .i64 0)))),
  .op (og 36 false 39 (sMov (X 38))),
  .op (og 39 true 40 (sFieldAddr 0 (X 9))),
  .op (og 39 true 41 (sLoad 1 false (X 40))),
  .op (og 39 true 42 (sMov (X 0))),
  .op (og 39 true 43 (sMov (X 8))),
  .op (og 39 true 44 (sBin .sub .none (X 43) (K (.int .i64 1)))),
  .op (og 39 true 45 (sIdxAddrS 3 (X 42) (X 44))),
  .op (og 39 true 46 (sFieldAddr 0 (X 45))),
  .op (og 39 true 47 (sLoad 1 false (X 46))),
  .op (og 39 true 48 (sBin .leq .none (X 41) (X 47))),
  .op (og 36 false 49 (sPick (X 39) (X 48) (K (.bool false)))),
  .op (o 50 (sPick (X 36) (K (.bool true)) (X 49))),
  .op (o 51 (sMov (X 50))),
  .op (og 51 false 52 (sFieldAddr 1 (X 9))),
  .op (og 51 false 53 (sLoad 1 false (X 52))),
  .op (og 51 false 54 (sMov (X 1))),
  .hv 134217727 (og 51 false 55 (sCall E 36 [(X 53), (X 54)])),
  .op (og 51 false 56 (sUn .not (X 55))),
  .op (o 57 (sPick (X 51) (K (.bool true)) (X 56))),
  .op (o 58 (sMov (X 57))),
  .op (og 58 false 59 (sFieldAddr 2 (X 9))),
  .op (og 58 false 60 (sLoad 1 false (X 59))),
  .op (og 58 false 61 (sMov (X 1))),
  .op (og 58 false 62 (sMov (X 2))),
  .hv 34359738367 (og 58 false 63 (sCall E 37 [(X 60), (X 61), (X 62)])),
  .op (og 58 false 64 (sUn .not (X 63))),
  .op (o 65 (sPick (X 58) (K (.bool true)) (X 64)))])
 (.ite (X 65)
 (.seq (.reg [o 6 (sMov (K (.bool false)))])
 (.ret))
 (.skip)))
 (.seq (.seq (.reg [o 10 (sMov (K (.int .i64 0)))])
 (.block 2 (.loop (l15x1 E))))
 (.seq (.seq (.reg [o 12 (sMov (K (.int .i64 0)))])
 (.block 6 (.loop (l15x2 E))))
 (.seq (.reg [o 116 (sFieldAddr 1 (X 9)),
  o 117 (sLoad 1 false (X 116)),
  o 118 (sCall E 30 [(X 117)]),
  o 13 (sMov (X 118))])
 (.seq (.reg [o 14 (sMov (K (.int .i64 0)))])
 (.block 8 (.loop (l15x3 E))))))))))
 (.reg [o 22 (sMov (X 8)),
  o 23 (sBin .add .none (X 22) (K (.int .i64 1))),
  o 8 (sMov (X 23))]))
noncomputable def b15 (E : Env) : CT :=
 .seq (.reg [o 6 (sMov (K (.bool false)))])
 (.seq (.seq (.reg [o 15 (sMov (X 0)),
  o 16 (sLenSl (X 15)),
  o 17 (sBin .gtr .none (X 16) (K (.int .i64 8)))])
 (.ite (X 17)
 (.seq (.reg [o 6 (sMov (K (.bool false)))])
 (.ret))
 (.skip)))
 (.seq (.reg [o 7 (sMov (K (.nilSl)))])
 (.seq (.seq (.reg [o 8 (sMov (K (.int .i64 0)))])
 (.block 0 (.loop (l15x4 E))))
 (.seq (.reg [o 6 (sMov (K (.bool true)))])
 (.ret)))))
theorem c15 (args : T) (h : AHeap) : (envL prog).call 15 args h = trim h (fin [.tmp 6] (runC (envL prog) (b15 (envL prog)) (args ++ List.replicate (140 - args.length) .undef) h)) :=
 call_tr (fn := Go.Proofs.Try.f15) tab15 (by kernel_rfl) (by rfl) (by kernel_rfl) (fun t h => by kernel_rfl) rfl args h
def tab16 : Nat → Cert := fun i => ⟨0, 0, 0, 0, 0, 0⟩
noncomputable def b16 (E : Env) : CT :=
 .seq (.reg [o 3 (sBox (X 1)),
  o 4 (sMov (K (.int .i64 0)))])
 (.seq (.reg [o 5 (sMov (X 0)),
  o 6 (sFun 40 [(X 3)]),
  o 7 (sCall E 39 [(X 5), (X 6)]),
  o 4 (sMov (X 7))])
 (.ret))
theorem c16 (args : T) (h : AHeap) : (envL prog).call 16 args h = trim h (fin [.tmp 4] (runC (envL prog) (b16 (envL prog)) (args ++ List.replicate (8 - args.length) .undef) h)) :=
 call_tr (fn := Go.Proofs.Try.f16) tab16 (by kernel_rfl) (by rfl) (by kernel_rfl) (fun t h => by kernel_rfl) rfl args h
def tab18 : Nat → Cert := fun i => ⟨0, 0, 0, 0, 0, 0⟩
noncomputable def b18 (E : Env) : CT :=
 .seq (.reg [o 4 (sMov (K (.bool false)))])
 (.seq (.reg [o 5 (sMov (X 0)),
  o 6 (sConv .bytesStr (X 5)),
  o 7 (sMov (X 1)),
  o 8 (sConv .bytesStr (X 7)),
  o 9 (sBin .eql .none (X 6) (X 8)),
  o 4 (sMov (X 9))])
 (.ret))
theorem c18 (args : T) (h : AHeap) : (envL prog).call 18 args h = trim h (fin [.tmp 4] (runC (envL prog) (b18 (envL prog)) (args ++ List.replicate (10 - args.length) .undef) h)) :=
 call_tr (fn := Go.Proofs.Try.f18) tab18 (by kernel_rfl) (by rfl) (by kernel_rfl) (fun t h => by kernel_rfl) rfl args h
def tab19 : Nat → Cert := fun i => ⟨0, 0, 0, 0, 0, 0⟩
noncomputable def aq19x0 (E : Env) : CT :=
 .seq (.reg [o 8 (sMov (X 14))])
 (.reg [o 9 (sAlloc [.int .i64 0, .nilSl, .nilSl]),
  u (sStore 3 (X 9) (X 15))])
noncomputable def bq19x0 (E : Env) : CT :=
 .block 1 (.seq (.seq (.reg [o 16 (sMov (X 8)),
  o 17 (sLoad 1 false (X 5)),
  o 18 (sBin .geq .none (X 16) (X 17))])
 (.ite (X 18)
 (.exit 0)
 (.skip)))
 (.reg [o 19 (sLoad 1 false (X 7)),
  o 20 (sFieldAddr 1 (X 9)),
  o 21 (sLoad 1 false (X 20)),
  o 22 (sCall E 27 [(X 19), (X 21)]),
  u (sStore 1 (X 7) (X 22))]))
noncomputable def kaq19x0 : Code := (nthRange Go.Proofs.Try.f19 0).1
noncomputable def kbq19x0 : Code := (nthRange Go.Proofs.Try.f19 0).2
theorem eaq19x0 (E : Env) (t : T) (h : AHeap) : evalCode prog E kaq19x0 t h = runC E (aq19x0 E) t h := code_tr tab19 (by kernel_rfl) t h
theorem ebq19x0 (E : Env) (t : T) (h : AHeap) : evalCode prog E kbq19x0 t h = runC E (bq19x0 E) t h := code_tr tab19 (by kernel_rfl) t h
noncomputable def b19 (E : Env) : CT :=
 .seq (.reg [o 5 (sBox (X 2)),
  o 6 (sMov (K (.nilSl)))])
 (.seq (.reg [o 7 (sAlloc [.nilSl])])
 (.seq (.seq (.reg [o 10 (sMov (X 0)),
  o 11 (sMov (X 1)),
  o 12 (sMax [(X 11), (K (.int .i64 0))]),
  o 13 (sCall E 32 [(X 10), (X 12)])])
 (.block 0 (.range (X 13) [14, 15] kaq19x0 kbq19x0)))
 (.seq (.reg [o 23 (sLoad 1 false (X 7)),
  o 6 (sMov (X 23))])
 (.ret))))
theorem c19 (args : T) (h : AHeap) : (envL prog).call 19 args h = trim h (fin [.tmp 6] (runC (envL prog) (b19 (envL prog)) (args ++ List.replicate (24 - args.length) .undef) h)) :=
 call_tr (fn := Go.Proofs.Try.f19) tab19 (by kernel_rfl) (by rfl) (by kernel_rfl) (fun t h => by kernel_rfl) rfl args h
def tab22 : Nat → Cert := fun i => bif Nat.beq i 5 then ⟨11, 28, 1328101688236288039412356468071989248, 1328101688243541594330044260300095488, 260740729362331724371075627168182311526998100162651603994165745741558917572623747212445220865, 43422033652713202766035185496059406722459368605663873215133368010653437001749⟩ else bif Nat.beq i 6 then ⟨11, 38, 995946886283180634205326102042247168, 1328253885236360925894167555163029504, 423075820026374759676044469627668227170086408974666214429912941757861540770874365409241101737627914578308041039908817969610784, 340441200812232165302725510969052109643826695629514208629387312470622912391518637699518313486044958294045⟩ else bif Nat.beq i 7 then ⟨14, 51, 31380527715642717591591199373480650813915496031931082997760, 43934731186416433165201389437000105246478338099625230073856, 48477412468669819810864428888245217094997815741389602761573093374202915504736314737051866400930967855476429201763381490648616342670332212453449985358434144157689869800684104142138433990985270018785883577216768409632, 866817204276964282457650435247928269604495863843326126112998262351906579975174696089077726414712546952197419583450127525305724279012903658079034279287557747397569043045559510499814539304⟩ else ⟨0, 0, 0, 0, 0, 0⟩
noncomputable def b22 (E : Env) : CT :=
 .seq (.reg [o 4 (sMov (K (.nilSl)))])
 (.seq (.reg [o 7 (sMov (X 0)),
  o 8 (sCall E 43 [(X 7)]),
  o 0 (sMov (X 8))])
 (.seq (.seq (.reg [o 9 (sMov (X 1)),
  o 10 (sBin .lss .none (X 9) (K (.int .i64 0))),
  o 11 (sMov (X 10)),
  og 11 false 12 (sMov (X 1)),
  og 11 false 13 (sMov (X 0)),
  og 11 false 14 (sLenSl (X 13)),
  og 11 false 15 (sBin .geq .none (X 12) (X 14)),
  o 16 (sPick (X 11) (K (.bool true)) (X 15))])
 (.ite (X 16)
 (.seq (.reg [o 17 (sMov (X 0)),
  o 4 (sMov (X 17))])
 (.ret))
 (.skip)))
 (.seq (.seq (.reg [o 18 (sMov (X 1)),
  o 19 (sBin .gtr .none (X 18) (K (.int .i64 0)))])
 (.ite (X 19)
 (.seq (.drw [.op (o 20 (sMov (X 0))),
  .op (o 21 (sMov (X 1))),
  .op (o 22 (sBin .sub .none (X 21) (K (.int .i64 1)))),
  .op (o 23 (sIdxAddrS 3 (X 20) (X 22))),
  .op (o 24 (sMov (X 0))),
  .op (o 25 (sMov (X 1))),
  .op (o 26 (sIdxAddrS 3 (X 24) (X 25))),
  .op (o 27 (sLoad 3 true (X 26))),
  .op (o 6 (sAlloc [.int .i64 0, .nilSl, .nilSl])),
  .op (o 5 (sMov (X 23))),
  .hv 1023 (u (sStore 3 (X 6) (X 27)))])
 (.seq (.drw [.op (o 28 (sMov (X 5))),
  .op (o 29 (sMov (X 5))),
  .op (o 30 (sNil (X 29))),
  .op (o 31 (sFieldAddr 1 (X 30))),
  .op (o 32 (sLoad 1 false (X 31))),
  .op (o 33 (sFieldAddr 1 (X 6))),
  .op (o 34 (sLoad 1 false (X 33))),
  .hv 126 (o 35 (sCall E 27 [(X 32), (X 34)])),
  .op (o 36 (sNil (X 28))),
  .op (o 37 (sFieldAddr 1 (X 36))),
  .hv 1023 (u (sStore 1 (X 37) (X 35)))])
 (.drw [.op (o 39 (sMov (X 5))),
  .op (o 40 (sMov (X 5))),
  .op (o 41 (sNil (X 40))),
  .op (o 42 (sFieldAddr 2 (X 41))),
  .op (o 43 (sLoad 1 false (X 42))),
  .op (o 44 (sFieldAddr 2 (X 6))),
  .op (o 45 (sLoad 1 false (X 44))),
  .hv 126 (o 46 (sCall E 44 [(X 43), (X 45)])),
  .op (o 38 (sMov (X 46))),
  .op (o 47 (sExtract (X 38) 0)),
  .op (o 48 (sExtract (X 38) 1)),
  .op (o 49 (sNil (X 39))),
  .op (o 50 (sFieldAddr 2 (X 49))),
  .hv 7167 (u (sStore 1 (X 50) (X 47)))])))
 (.skip)))
 (.seq (.reg [o 51 (sMov (X 0)),
  o 52 (sMov (X 1)),
  o 53 (sMov (X 1)),
  o 54 (sBin .add .none (X 53) (K (.int .i64 1))),
  o 55 (sCall E 45 [(X 51), (X 52), (X 54)]),
  o 4 (sMov (X 55))])
 (.ret)))))
theorem d22 (E : Env) (args : T) (h : AHeap) : callBody prog E 22 args h = trim h (fin [.tmp 4] (runC E (b22 E) (args ++ List.replicate (56 - args.length) .undef) h)) :=
 body_tr (fn := Go.Proofs.Try.f22) tab22 (by kernel_rfl) (by rfl) (by kernel_rfl) (fun t h => by kernel_rfl) rfl args h
def tab24 : Nat → Cert := fun i => ⟨0, 0, 0, 0, 0, 0⟩
noncomputable def b24 (E : Env) : CT :=
 .seq (.reg [o 4 (sMov (K (.nilSl)))])
 (.seq (.reg [o 5 (sMov (X 0)),
  o 6 (sCall E 43 [(X 5)]),
  o 0 (sMov (X 6))])
 (.seq (.seq (.reg [o 7 (sMov (X 1)),
  o 8 (sBin .lss .none (X 7) (K (.int .i64 0))),
  o 9 (sMov (X 8)),
  og 9 false 10 (sMov (X 1)),
  og 9 false 11 (sMov (X 0)),
  og 9 false 12 (sLenSl (X 11)),
  og 9 false 13 (sBin .geq .none (X 10) (X 12)),
  o 14 (sPick (X 9) (K (.bool true)) (X 13))])
 (.ite (X 14)
 (.seq (.reg [o 15 (sMov (X 0)),
  o 4 (sMov (X 15))])
 (.ret))
 (.skip)))
 (.seq (.reg [o 16 (sMov (X 0)),
  o 17 (sMov (X 1)),
  o 18 (sBin .add .none (X 17) (K (.int .i64 1))),
  o 19 (sSliceS 3 (X 16) none (some (X 18)) none),
  o 0 (sMov (X 19))])
 (.seq (.reg [o 20 (sMov (X 0)),
  o 21 (sMov (X 1)),
  o 22 (sMov (X 0)),
  o 23 (sMov (X 1)),
  o 24 (sMov (X 0)),
  o 25 (sMov (X 1)),
  o 26 (sIdxAddrS 3 (X 24) (X 25)),
  o 27 (sFieldAddr 1 (X 26)),
  o 28 (sLoad 1 false (X 27)),
  o 29 (sLenSl (X 28)),
  o 30 (sMake (ty 1 false 1 [.int .u8 0]) (X 29) (X 29)),
  o 31 (sIdxAddrS 3 (X 20) (X 21)),
  o 32 (sFieldAddr 1 (X 31)),
  u (sStore 1 (X 32) (X 30)),
  o 33 (sIdxAddrS 3 (X 22) (X 23)),
  o 34 (sFieldAddr 2 (X 33)),
  u (sStore 1 (X 34) (K (.nilSl)))])
 (.seq (.reg [o 35 (sMov (X 0)),
  o 4 (sMov (X 35))])
 (.ret))))))
theorem c24 (args : T) (h : AHeap) : (envL prog).call 24 args h = trim h (fin [.tmp 4] (runC (envL prog) (b24 (envL prog)) (args ++ List.replicate (36 - args.length) .undef) h)) :=
 call_tr (fn := Go.Proofs.Try.f24) tab24 (by kernel_rfl) (by rfl) (by kernel_rfl) (fun t h => by kernel_rfl) rfl args h
def tab26 : Nat → Cert := fun i => ⟨0, 0, 0, 0, 0, 0⟩
noncomputable def b26 (E : Env) : CT :=
 .seq (.reg [o 4 (sMov (K (.int .i64 0))),
  o 5 (sMov (K (.bool false)))])
 (.seq (.reg [o 7 (sMov (X 0)),
  o 8 (sMov (X 1)),
  o 9 (sCall E 48 [(X 7), (X 8)]),
  o 6 (sMov (X 9))])
 (.seq (.seq (.reg [o 10 (sMov (X 6)),
  o 11 (sBin .lss .none (X 10) (K (.int .i64 0)))])
 (.ite (X 11)
 (.seq (.reg [o 4 (sMov (K (.int .i64 0))),
  o 5 (sMov (K (.bool false)))])
 (.ret))
 (.skip)))
 (.seq (.reg [o 12 (sMov (X 0)),
  o 13 (sMov (X 6)),
  o 14 (sIdxAddrS 2 (X 12) (X 13)),
  o 15 (sFieldAddr 1 (X 14)),
  o 16 (sLoad 1 false (X 15)),
  o 4 (sMov (X 16)),
  o 5 (sMov (K (.bool true)))])
 (.ret))))
theorem c26 (args : T) (h : AHeap) : (envL prog).call 26 args h = trim h (fin [.tmp 4, .tmp 5] (runC (envL prog) (b26 (envL prog)) (args ++ List.replicate (17 - args.length) .undef) h)) :=
 call_tr (fn := Go.Proofs.Try.f26) tab26 (by kernel_rfl) (by rfl) (by kernel_rfl) (fun t h => by kernel_rfl) rfl args h
def tab27 : Nat → Cert := fun i => ⟨0, 0, 0, 0, 0, 0⟩
noncomputable def l27x0 (E : Env) : CT :=
 .seq (.reg [o 20 (sBin .lss .none (X 19) (X 18))])
 (.seq (.ite (X 20)
 (.skip)
 (.exit 0))
 (.seq (.block 1 (.seq (.reg [o 21 (sMov (X 19)),
  o 22 (sIdxAddrS 1 (X 17) (X 19)),
  o 23 (sLoad 1 false (X 22)),
  o 6 (sMov (X 21)),
  o 7 (sMov (X 23))])
 (.reg [o 24 (sMov (X 5)),
  o 25 (sMov (X 6)),
  o 26 (sIdxAddrS 1 (X 24) (X 25)),
  o 27 (sLoad 1 false (X 26)),
  o 28 (sMov (X 7)),
  o 29 (sBin .or .none (X 27) (X 28)),
  o 30 (sIdxAddrS 1 (X 24) (X 25)),
  u (sStore 1 (X 30) (X 29))])))
 (.reg [o 31 (sBin .add .none (X 19) (K (.int .i64 1))),
  o 19 (sMov (X 31))])))
noncomputable def b27 (E : Env) : CT :=
 .seq (.reg [o 4 (sMov (K (.nilSl)))])
 (.seq (.seq (.reg [o 8 (sMov (X 0)),
  o 9 (sLenSl (X 8)),
  o 10 (sMov (X 1)),
  o 11 (sLenSl (X 10)),
  o 12 (sBin .lss .none (X 9) (X 11))])
 (.ite (X 12)
 (.reg [o 13 (sMov (X 1)),
  o 14 (sMov (X 0)),
  o 0 (sMov (X 13)),
  o 1 (sMov (X 14))])
 (.skip)))
 (.seq (.reg [o 15 (sMov (X 0)),
  o 16 (sCall E 49 [(X 15)]),
  o 5 (sMov (X 16))])
 (.seq (.seq (.reg [o 17 (sMov (X 1)),
  o 18 (sLenSl (X 17)),
  o 19 (sMov (K (.int .i64 0)))])
 (.block 0 (.loop (l27x0 E))))
 (.seq (.reg [o 32 (sMov (X 5)),
  o 4 (sMov (X 32))])
 (.ret)))))
theorem c27 (args : T) (h : AHeap) : (envL prog).call 27 args h = trim h (fin [.tmp 4] (runC (envL prog) (b27 (envL prog)) (args ++ List.replicate (33 - args.length) .undef) h)) :=
 call_tr (fn := Go.Proofs.Try.f27) tab27 (by kernel_rfl) (by rfl) (by kernel_rfl) (fun t h => by kernel_rfl) rfl args h
def tab30 : Nat → Cert := fun i => ⟨0, 0, 0, 0, 0, 0⟩
noncomputable def l30x0 (E : Env) : CT :=
 .seq (.seq (.reg [o 5 (sMov (X 4)),
  o 6 (sMov (X 0)),
  o 7 (sLenSl (X 6)),
  o 8 (sBin .mul .none (K (.int .i64 8)) (X 7)),
  o 9 (sBin .lss .none (X 5) (X 8))])
 (.ite (X 9)
 (.skip)
 (.exit 0)))
 (.seq (.block 1 (.seq (.reg [o 12 (sMov (X 0)),
  o 13 (sMov (X 4)),
  o 14 (sCall E 38 [(X 12), (X 13)])])
 (.ite (X 14)
 (.reg [o 15 (sMov (X 3)),
  o 16 (sMov (X 4)),
  o 17 (sBuildSl 1 1 [.int .i64 0] [(0, 1, (X 16))]),
  o 18 (sApp (ty 1 false 8 [.int .i64 0]) (X 15) (X 17)),
  o 3 (sMov (X 18))])
 (.skip))))
 (.reg [o 10 (sMov (X 4)),
  o 11 (sBin .add .none (X 10) (K (.int .i64 1))),
  o 4 (sMov (X 11))]))
noncomputable def b30 (E : Env) : CT :=
 .seq (.reg [o 2 (sMov (K (.nilSl)))])
 (.seq (.reg [o 3 (sMov (K (.nilSl)))])
 (.seq (.seq (.reg [o 4 (sMov (K (.int .i64 0)))])
 (.block 0 (.loop (l30x0 E))))
 (.seq (.reg [o 19 (sMov (X 3)),
  o 2 (sMov (X 19))])
 (.ret))))
theorem c30 (args : T) (h : AHeap) : (envL prog).call 30 args h = trim h (fin [.tmp 2] (runC (envL prog) (b30 (envL prog)) (args ++ List.replicate (20 - args.length) .undef) h)) :=
 call_tr (fn := Go.Proofs.Try.f30) tab30 (by kernel_rfl) (by rfl) (by kernel_rfl) (fun t h => by kernel_rfl) rfl args h
def tab31 : Nat → Cert := fun i => ⟨0, 0, 0, 0, 0, 0⟩
noncomputable def b31 (E : Env) : CT :=
 .seq (.reg [o 0 (sMov (K (.nilSl)))])
 (.seq (.reg [o 1 (sBuildSl 1 1 [.int .u8 0] [(0, 1, (K (.int .u8 6)))]),
  o 2 (sBuild [.int .i64 0, .int .i64 0] [(0, 1, (K (.int .i64 1))), (1, 1, (K (.int .i64 0)))]),
  o 3 (sBuild [.int .i64 0, .int .i64 0] [(0, 1, (K (.int .i64 2))), (1, 1, (K (.int .i64 1)))]),
  o 4 (sBuildSl 2 2 [.int .i64 0, .int .i64 0] [(0, 2, (X 2)), (2, 2, (X 3))]),
  o 5 (sBuild [.int .i64 0, .nilSl, .nilSl] [(0, 1, (K (.int .i64 1))), (1, 1, (X 1)), (2, 1, (X 4))]),
  o 6 (sBuildSl 1 1 [.int .u8 0] [(0, 1, (K (.int .u8 12)))]),
  o 7 (sBuild [.int .i64 0, .int .i64 0] [(0, 1, (K (.int .i64 2))), (1, 1, (K (.int .i64 2)))]),
  o 8 (sBuild [.int .i64 0, .int .i64 0] [(0, 1, (K (.int .i64 3))), (1, 1, (K (.int .i64 3)))]),
  o 9 (sBuildSl 2 2 [.int .i64 0, .int .i64 0] [(0, 2, (X 7)), (2, 2, (X 8))]),
  o 10 (sBuild [.int .i64 0, .nilSl, .nilSl] [(0, 1, (K (.int .i64 4))), (1, 1, (X 6)), (2, 1, (X 9))]),
  o 11 (sBuildSl 1 1 [.int .u8 0] [(0, 1, (K (.int .u8 16)))]),
  o 12 (sBuild [.int .i64 0, .nilSl, .nilSl] [(0, 1, (K (.int .i64 5))), (1, 1, (X 11))]),
  o 13 (sBuildSl 3 3 [.int .i64 0, .nilSl, .nilSl] [(0, 3, (X 5)), (3, 3, (X 10)), (6, 3, (X 12))]),
  o 0 (sMov (X 13))])
 (.ret))
theorem c31 (args : T) (h : AHeap) : (envL prog).call 31 args h = trim h (fin [.tmp 0] (runC (envL prog) (b31 (envL prog)) (args ++ List.replicate (14 - args.length) .undef) h)) :=
 call_tr (fn := Go.Proofs.Try.f31) tab31 (by kernel_rfl) (by rfl) (by kernel_rfl) (fun t h => by kernel_rfl) rfl args h
def tab32 : Nat → Cert := fun i => ⟨0, 0, 0, 0, 0, 0⟩
noncomputable def b32 (E : Env) : CT :=
 .seq (.reg [o 2 (sBox (X 0)),
  o 3 (sBox (X 1)),
  o 4 (sMov (K (.nilFn)))])
 (.seq (.reg [o 5 (sFun 52 [(X 3), (X 2)]),
  o 4 (sMov (X 5))])
 (.ret))
theorem c32 (args : T) (h : AHeap) : (envL prog).call 32 args h = trim h (fin [.tmp 4] (runC (envL prog) (b32 (envL prog)) (args ++ List.replicate (6 - args.length) .undef) h)) :=
 call_tr (fn := Go.Proofs.Try.f32) tab32 (by kernel_rfl) (by rfl) (by kernel_rfl) (fun t h => by kernel_rfl) rfl args h
def tab33 : Nat → Cert := fun i => ⟨0, 0, 0, 0, 0, 0⟩
noncomputable def l33x0 (E : Env) : CT :=
 .seq (.seq (.reg [o 6 (sMov (X 5)),
  o 7 (sMov (X 0)),
  o 8 (sLenSl (X 7)),
  o 9 (sBin .lss .none (X 6) (X 8))])
 (.ite (X 9)
 (.skip)
 (.exit 0)))
 (.seq (.block 1 (.seq (.reg [o 12 (sMov (X 0)),
  o 13 (sMov (X 5)),
  o 14 (sIdxAddrS 2 (X 12) (X 13)),
  o 15 (sFieldAddr 0 (X 14)),
  o 16 (sLoad 1 false (X 15)),
  o 17 (sMov (X 1)),
  o 18 (sBin .eql .none (X 16) (X 17))])
 (.ite (X 18)
 (.seq (.reg [o 19 (sMov (X 5)),
  o 4 (sMov (X 19))])
 (.ret))
 (.skip))))
 (.reg [o 10 (sMov (X 5)),
  o 11 (sBin .add .none (X 10) (K (.int .i64 1))),
  o 5 (sMov (X 11))]))
noncomputable def b33 (E : Env) : CT :=
 .seq (.reg [o 4 (sMov (K (.int .i64 0)))])
 (.seq (.seq (.reg [o 5 (sMov (K (.int .i64 0)))])
 (.block 0 (.loop (l33x0 E))))
 (.seq (.reg [o 4 (sMov (K (.int .i64 (-1))))])
 (.ret)))
theorem c33 (args : T) (h : AHeap) : (envL prog).call 33 args h = trim h (fin [.tmp 4] (runC (envL prog) (b33 (envL prog)) (args ++ List.replicate (20 - args.length) .undef) h)) :=
 call_tr (fn := Go.Proofs.Try.f33) tab33 (by kernel_rfl) (by rfl) (by kernel_rfl) (fun t h => by kernel_rfl) rfl args h
def tab34 : Nat → Cert := fun i => bif Nat.beq i 9 then ⟨11, 58, 1328093493692499188347095827366283264, 1328253885232281022722001058050082816, 570305077202774403327197131650989070500594309038141905759496736964366671334263533447832380521499704424611501837752884628956499474054566795233621091755166906894543549535310055439145118965170184, 35615577812127053701028891601979925018103257183919038610970787161132159081332324658558875415860313471902014285628606237962570155674476131175128858503393637951461404830681006129⟩ else ⟨0, 0, 0, 0, 0, 0⟩
noncomputable def l34x0 (E : Env) : CT :=
 .seq (.reg [o 38 (sBin .lss .none (X 37) (X 36))])
 (.seq (.ite (X 38)
 (.skip)
 (.exit 0))
 (.seq (.block 1 (.seq (.reg [o 39 (sIdxAddrS 2 (X 35) (X 37)),
  o 40 (sLoad 2 true (X 39)),
  o 10 (sAlloc [.int .i64 0, .int .i64 0]),
  u (sStore 2 (X 10) (X 40))])
 (.seq (.reg [o 41 (sFieldAddr 1 (X 4)),
  o 42 (sLoad 1 false (X 41)),
  o 43 (sFieldAddr 0 (X 10)),
  o 44 (sLoad 1 false (X 43)),
  o 45 (sCall E 55 [(X 42), (X 44)]),
  o 46 (sUn .not (X 45))])
 (.ite (X 46)
 (.seq (.reg [o 8 (sMov (K (.bool false)))])
 (.ret))
 (.skip)))))
 (.reg [o 47 (sBin .add .none (X 37) (K (.int .i64 1))),
  o 37 (sMov (X 47))])))
noncomputable def b34 (E : Env) : CT :=
 .seq (.reg [o 4 (sBox (X 0)),
  o 8 (sMov (K (.bool false)))])
 (.seq (.seq (.reg [o 11 (sFieldAddr 0 (X 4)),
  o 12 (sLoad 1 false (X 11)),
  o 13 (sBin .lss .none (X 12) (K (.int .i64 1))),
  o 14 (sMov (X 13)),
  og 14 false 15 (sFieldAddr 0 (X 4)),
  og 14 false 16 (sLoad 1 false (X 15)),
  og 14 false 17 (sBin .gtr .none (X 16) (K (.int .i64 1000000))),
  o 18 (sPick (X 14) (K (.bool true)) (X 17)),
  o 19 (sMov (X 18)),
  og 19 false 20 (sFieldAddr 1 (X 4)),
  og 19 false 21 (sLoad 1 false (X 20)),
  og 19 false 22 (sMov (X 1)),
  og 19 false 23 (sCall E 53 [(X 21), (X 22)]),
  og 19 false 24 (sUn .not (X 23)),
  o 25 (sPick (X 19) (K (.bool true)) (X 24)),
  o 26 (sMov (X 25)),
  og 26 false 27 (sFieldAddr 2 (X 4)),
  og 26 false 28 (sLoad 1 false (X 27)),
  og 26 false 29 (sMov (X 1)),
  og 26 false 30 (sMov (X 2)),
  og 26 false 31 (sCall E 54 [(X 28), (X 29), (X 30)]),
  og 26 false 32 (sUn .not (X 31)),
  o 33 (sPick (X 26) (K (.bool true)) (X 32))])
 (.ite (X 33)
 (.seq (.reg [o 8 (sMov (K (.bool false)))])
 (.ret))
 (.skip)))
 (.seq (.seq (.reg [o 34 (sFieldAddr 2 (X 4)),
  o 35 (sLoad 1 false (X 34)),
  o 36 (sLenSl (X 35)),
  o 37 (sMov (K (.int .i64 0)))])
 (.block 0 (.loop (l34x0 E))))
 (.seq (.drw [.op (o 48 (sMov (X 3))),
  .op (o 49 (sMov (X 48))),
  .op (og 49 false 50 (sFieldAddr 2 (X 4))),
  .rd 3 (og 49 false 51 (sLoad 1 false (X 50))),
  .op (og 49 false 52 (sLenSl (X 51))),
  .op (og 49 false 53 (sFieldAddr 1 (X 4))),
  .op (og 49 false 54 (sLoad 1 false (X 53))),
  .hv 99 (og 49 false 55 (sCall E 56 [(X 54)])),
  .op (og 49 false 56 (sBin .eql .none (X 52) (X 55))),
  .op (o 57 (sPick (X 49) (K (.bool true)) (X 56))),
  .op (o 8 (sMov (X 57)))])
 (.ret))))
theorem c34 (args : T) (h : AHeap) : (envL prog).call 34 args h = trim h (fin [.tmp 8] (runC (envL prog) (b34 (envL prog)) (args ++ List.replicate (58 - args.length) .undef) h)) :=
 call_tr (fn := Go.Proofs.Try.f34) tab34 (by kernel_rfl) (by rfl) (by kernel_rfl) (fun t h => by kernel_rfl) rfl args h
def tab35 : Nat → Cert := fun i => ⟨0, 0, 0, 0, 0, 0⟩
noncomputable def b35 (E : Env) : CT :=
 .seq (.reg [o 4 (sMov (K (.bool false)))])
 (.seq (.reg [o 5 (sMov (X 0)),
  o 6 (sMov (X 1)),
  o 7 (sCall E 57 [(X 5), (X 6)]),
  o 8 (sBin .geq .none (X 7) (K (.int .i64 0))),
  o 4 (sMov (X 8))])
 (.ret))
theorem c35 (args : T) (h : AHeap) : (envL prog).call 35 args h = trim h (fin [.tmp 4] (runC (envL prog) (b35 (envL prog)) (args ++ List.replicate (9 - args.length) .undef) h)) :=
 call_tr (fn := Go.Proofs.Try.f35) tab35 (by kernel_rfl) (by rfl) (by kernel_rfl) (fun t h => by kernel_rfl) rfl args h
def tab36 : Nat → Cert := fun i => ⟨0, 0, 0, 0, 0, 0⟩
noncomputable def l36x0 (E : Env) : CT :=
 .seq (.seq (.reg [o 14 (sMov (X 5)),
  o 15 (sMov (X 0)),
  o 16 (sLenSl (X 15)),
  o 17 (sBin .mul .none (K (.int .i64 8)) (X 16)),
  o 18 (sBin .lss .none (X 14) (X 17))])
 (.ite (X 18)
 (.skip)
 (.exit 0)))
 (.seq (.block 1 (.seq (.reg [o 21 (sMov (X 0)),
  o 22 (sMov (X 5)),
  o 23 (sCall E 38 [(X 21), (X 22)])])
 (.ite (X 23)
 (.seq (.reg [o 4 (sMov (K (.bool false)))])
 (.ret))
 (.skip))))
 (.reg [o 19 (sMov (X 5)),
  o 20 (sBin .add .none (X 19) (K (.int .i64 1))),
  o 5 (sMov (X 20))]))
noncomputable def b36 (E : Env) : CT :=
 .seq (.reg [o 4 (sMov (K (.bool false)))])
 (.seq (.seq (.reg [o 6 (sMov (X 0)),
  o 7 (sLenSl (X 6)),
  o 8 (sMov (X 1)),
  o 9 (sCall E 58 [(X 8)]),
  o 10 (sLenSl (X 9)),
  o 11 (sBin .neq .none (X 7) (X 10))])
 (.ite (X 11)
 (.seq (.reg [o 4 (sMov (K (.bool false)))])
 (.ret))
 (.skip)))
 (.seq (.seq (.reg [o 12 (sMov (X 1)),
  o 13 (sMax [(K (.int .i64 0)), (X 12)]),
  o 5 (sMov (X 13))])
 (.block 0 (.loop (l36x0 E))))
 (.seq (.reg [o 4 (sMov (K (.bool true)))])
 (.ret))))
theorem c36 (args : T) (h : AHeap) : (envL prog).call 36 args h = trim h (fin [.tmp 4] (runC (envL prog) (b36 (envL prog)) (args ++ List.replicate (24 - args.length) .undef) h)) :=
 call_tr (fn := Go.Proofs.Try.f36) tab36 (by kernel_rfl) (by rfl) (by kernel_rfl) (fun t h => by kernel_rfl) rfl args h
def tab37 : Nat → Cert := fun i => bif Nat.beq i 5 then ⟨35, 54, 144456706240742981253486938374969308533123264002620000681016550140940253929527120781808113596246415559588982351890878079397792769697254485239022099675621311049157380824964577029222200946777355783001768362621860261725534632731675630217324692389378082841641421990937063765867598618010837991518763239128842681689613669332762054546092433501921137109431498623997324088573952, 288878149018735126432926659676826792261178797128031392956774616214939589884509551620059743572313814691738715893108607009114062911916276416050642609584127244776172830745860665777805220586891026465120651774165449405011584273751568869088427802074488460214714729002607837296636654041261806413249880688608159492937650675323939145843618222543003598383311026073218442034413568, 44229784206561672429893437339037386784259271102677553716410146472340358793404465046211112429062104804855459834226842340084834730867527084048169953153570209926118649392904435171806503065386605183252795305392843925373863132967669290950875946589306724190766513360090643108065373644313703892443249180625752623817025758509668122690431020009228199314515124033100959664669467755330992796113518279749835441885390973083179205000717835264721305985134416389164002101468444099248431043838641692619142884421431437327240219340308676758246626537488613854785205993669184242475622990080, 270044122031432679258317848931287541416898229210046106854921639519170262810144933030667189034706973094997009217778226633370741766206342450924657117750348353810997371095044221710537780679457271360367266048042120846891015005410406138289934477152860353207474720418934662215896122987230146314759783031126939802661263544856925968416176318219332204197448288403620125725748185725313099957565849473268454870011931895413926657804287554967318000385964693181317512182115186281732562948772194447407702125857087376297235727201432422653246956914802164093057366881206293⟩ else bif Nat.beq i 10 then ⟨8, 67, 5773614756716019712, 9160321706613735424, 140591056079474886963210401186270428235110358827524880905723735898270829006881166179088429663677163340969020795534910783594490040318026827612183437665589725757441, 103651807334710679558284138487803516497591328517300419146875112630728913876326142734175096983865593647941495051041647169322716650609505487290429⟩ else ⟨0, 0, 0, 0, 0, 0⟩
noncomputable def l37x0 (E : Env) : CT :=
 .seq (.seq (.reg [o 55 (sMov (X 9)),
  o 56 (sMov (X 7)),
  o 57 (sBin .lss .none (X 55) (X 56))])
 (.ite (X 57)
 (.skip)
 (.exit 2)))
 (.seq (.block 3 (.seq (.drw [.op (o 60 (sMov (X 0))),
  .op (o 61 (sMov (X 9))),
  .op (o 62 (sIdxAddrS 2 (X 60) (X 61))),
  .op (o 63 (sFieldAddr 1 (X 62))),
  .op (o 64 (sLoad 1 false (X 63))),
  .op (o 65 (sFieldAddr 1 (X 8))),
  .op (o 66 (sLoad 1 false (X 65))),
  .op (o 67 (sBin .eql .none (X 64) (X 66)))])
 (.ite (X 67)
 (.seq (.reg [o 6 (sMov (K (.bool false)))])
 (.ret))
 (.skip))))
 (.reg [o 58 (sMov (X 9)),
  o 59 (sBin .add .none (X 58) (K (.int .i64 1))),
  o 9 (sMov (X 59))]))
noncomputable def l37x1 (E : Env) : CT :=
 .seq (.seq (.reg [o 10 (sMov (X 7)),
  o 11 (sMov (X 0)),
  o 12 (sLenSl (X 11)),
  o 13 (sBin .lss .none (X 10) (X 12))])
 (.ite (X 13)
 (.skip)
 (.exit 0)))
 (.seq (.block 1 (.seq (.reg [o 16 (sMov (X 0)),
  o 17 (sMov (X 7)),
  o 18 (sIdxAddrS 2 (X 16) (X 17)),
  o 19 (sLoad 2 true (X 18)),
  o 8 (sAlloc [.int .i64 0, .int .i64 0]),
  u (sStore 2 (X 8) (X 19))])
 (.seq (.seq (.drw [.op (o 20 (sFieldAddr 0 (X 8))),
  .op (o 21 (sLoad 1 false (X 20))),
  .op (o 22 (sBin .lss .none (X 21) (K (.int .i64 0)))),
  .op (o 23 (sMov (X 22))),
  .op (og 23 false 24 (sFieldAddr 0 (X 8))),
  .op (og 23 false 25 (sLoad 1 false (X 24))),
  .op (og 23 false 26 (sMov (X 1))),
  .op (og 23 false 27 (sBin .geq .none (X 25) (X 26))),
  .op (o 28 (sPick (X 23) (K (.bool true)) (X 27))),
  .op (o 29 (sMov (X 28))),
  .op (og 29 false 30 (sFieldAddr 1 (X 8))),
  .op (og 29 false 31 (sLoad 1 false (X 30))),
  .op (og 29 false 32 (sBin .lss .none (X 31) (K (.int .i64 0)))),
  .op (o 33 (sPick (X 29) (K (.bool true)) (X 32))),
  .op (o 34 (sMov (X 33))),
  .op (og 34 false 35 (sFieldAddr 1 (X 8))),
  .op (og 34 false 36 (sLoad 1 false (X 35))),
  .op (og 34 false 37 (sMov (X 2))),
  .op (og 34 false 38 (sBin .geq .none (X 36) (X 37))),
  .op (o 39 (sPick (X 34) (K (.bool true)) (X 38))),
  .op (o 40 (sMov (X 39))),
  .op (og 40 false 41 (sMov (X 7))),
  .op (og 40 false 42 (sBin .gtr .none (X 41) (K (.int .i64 0)))),
  .op (og 40 false 43 (sMov (X 42))),
  .op (og 43 true 44 (sFieldAddr 0 (X 8))),
  .op (og 43 true 45 (sLoad 1 false (X 44))),
  .op (og 43 true 46 (sMov (X 0))),
  .op (og 43 true 47 (sMov (X 7))),
  .op (og 43 true 48 (sBin .sub .none (X 47) (K (.int .i64 1)))),
  .op (og 43 true 49 (sIdxAddrS 2 (X 46) (X 48))),
  .op (og 43 true 50 (sFieldAddr 0 (X 49))),
  .op (og 43 true 51 (sLoad 1 false (X 50))),
  .op (og 43 true 52 (sBin .leq .none (X 45) (X 51))),
  .op (og 40 false 53 (sPick (X 43) (X 52) (K (.bool false)))),
  .op (o 54 (sPick (X 40) (K (.bool true)) (X 53)))])
 (.ite (X 54)
 (.seq (.reg [o 6 (sMov (K (.bool false)))])
 (.ret))
 (.skip)))
 (.seq (.reg [o 9 (sMov (K (.int .i64 0)))])
 (.block 2 (.loop (l37x0 E)))))))
 (.reg [o 14 (sMov (X 7)),
  o 15 (sBin .add .none (X 14) (K (.int .i64 1))),
  o 7 (sMov (X 15))]))
noncomputable def b37 (E : Env) : CT :=
 .seq (.reg [o 6 (sMov (K (.bool false)))])
 (.seq (.seq (.reg [o 7 (sMov (K (.int .i64 0)))])
 (.block 0 (.loop (l37x1 E))))
 (.seq (.reg [o 6 (sMov (K (.bool true)))])
 (.ret)))
theorem c37 (args : T) (h : AHeap) : (envL prog).call 37 args h = trim h (fin [.tmp 6] (runC (envL prog) (b37 (envL prog)) (args ++ List.replicate (68 - args.length) .undef) h)) :=
 call_tr (fn := Go.Proofs.Try.f37) tab37 (by kernel_rfl) (by rfl) (by kernel_rfl) (fun t h => by kernel_rfl) rfl args h
def tab38 : Nat → Cert := fun i => ⟨0, 0, 0, 0, 0, 0⟩
noncomputable def b38 (E : Env) : CT :=
 .seq (.reg [o 4 (sMov (K (.bool false)))])
 (.seq (.reg [o 5 (sMov (X 1)),
  o 6 (sBin .geq .none (X 5) (K (.int .i64 0))),
  o 7 (sMov (X 6)),
  og 7 true 8 (sMov (X 1)),
  og 7 true 9 (sBin .quo .none (X 8) (K (.int .i64 8))),
  og 7 true 10 (sMov (X 0)),
  og 7 true 11 (sLenSl (X 10)),
  og 7 true 12 (sBin .lss .none (X 9) (X 11)),
  o 13 (sPick (X 7) (X 12) (K (.bool false))),
  o 14 (sMov (X 13)),
  og 14 true 15 (sMov (X 0)),
  og 14 true 16 (sMov (X 1)),
  og 14 true 17 (sBin .quo .none (X 16) (K (.int .i64 8))),
  og 14 true 18 (sIdxAddrS 1 (X 15) (X 17)),
  og 14 true 19 (sLoad 1 false (X 18)),
  og 14 true 20 (sMov (X 1)),
  og 14 true 21 (sBin .rem .none (X 20) (K (.int .i64 8))),
  og 14 true 22 (sConv (.int .u64) (X 21)),
  og 14 true 23 (sBin .shr .none (X 19) (X 22)),
  og 14 true 24 (sBin .and .none (X 23) (K (.int .u8 1))),
  og 14 true 25 (sBin .eql .none (X 24) (K (.int .u8 1))),
  o 26 (sPick (X 14) (X 25) (K (.bool false))),
  o 4 (sMov (X 26))])
 (.ret))
theorem c38 (args : T) (h : AHeap) : (envL prog).call 38 args h = trim h (fin [.tmp 4] (runC (envL prog) (b38 (envL prog)) (args ++ List.replicate (27 - args.length) .undef) h)) :=
 call_tr (fn := Go.Proofs.Try.f38) tab38 (by kernel_rfl) (by rfl) (by kernel_rfl) (fun t h => by kernel_rfl) rfl args h
def tab39 : Nat → Cert := fun i => ⟨0, 0, 0, 0, 0, 0⟩
noncomputable def l39x0 (E : Env) : CT :=
 .seq (.reg [o 9 (sBin .lss .none (X 8) (X 7))])
 (.seq (.ite (X 9)
 (.skip)
 (.exit 0))
 (.seq (.block 1 (.seq (.reg [o 10 (sMov (X 8)),
  o 5 (sMov (X 10))])
 (.seq (.reg [o 11 (sMov (X 1)),
  o 12 (sMov (X 0)),
  o 13 (sMov (X 5)),
  o 14 (sIdxAddrS 3 (X 12) (X 13)),
  o 15 (sLoad 3 true (X 14)),
  o 16 (sCallV E (X 11) [(X 15)])])
 (.ite (X 16)
 (.seq (.reg [o 17 (sMov (X 5)),
  o 4 (sMov (X 17))])
 (.ret))
 (.skip)))))
 (.reg [o 18 (sBin .add .none (X 8) (K (.int .i64 1))),
  o 8 (sMov (X 18))])))
noncomputable def b39 (E : Env) : CT :=
 .seq (.reg [o 4 (sMov (K (.int .i64 0)))])
 (.seq (.seq (.reg [o 6 (sMov (X 0)),
  o 7 (sLenSl (X 6)),
  o 8 (sMov (K (.int .i64 0)))])
 (.block 0 (.loop (l39x0 E))))
 (.seq (.reg [o 4 (sMov (K (.int .i64 (-1))))])
 (.ret)))
theorem c39 (args : T) (h : AHeap) : (envL prog).call 39 args h = trim h (fin [.tmp 4] (runC (envL prog) (b39 (envL prog)) (args ++ List.replicate (19 - args.length) .undef) h)) :=
 call_tr (fn := Go.Proofs.Try.f39) tab39 (by kernel_rfl) (by rfl) (by kernel_rfl) (fun t h => by kernel_rfl) rfl args h
def tab40 : Nat → Cert := fun i => ⟨0, 0, 0, 0, 0, 0⟩
noncomputable def b40 (E : Env) : CT :=
 .seq (.reg [o 2 (sBox (X 0)),
  o 3 (sMov (K (.bool false)))])
 (.seq (.reg [o 4 (sFieldAddr 0 (X 2)),
  o 5 (sLoad 1 false (X 4)),
  o 6 (sLoad 1 false (X 1)),
  o 7 (sBin .eql .none (X 5) (X 6)),
  o 3 (sMov (X 7))])
 (.ret))
theorem c40 (args : T) (h : AHeap) : (envL prog).call 40 args h = trim h (fin [.tmp 3] (runC (envL prog) (b40 (envL prog)) (args ++ List.replicate (8 - args.length) .undef) h)) :=
 call_tr (fn := Go.Proofs.Try.f40) tab40 (by kernel_rfl) (by rfl) (by kernel_rfl) (fun t h => by kernel_rfl) rfl args h
def tab43 : Nat → Cert := fun i => bif Nat.beq i 4 then ⟨6, 15, 33505157120, 33539235840, 619282876566297638545129480, 17294315164270985227⟩ else ⟨0, 0, 0, 0, 0, 0⟩
noncomputable def aq43x0 (E : Env) : CT :=
 .reg [o 5 (sAlloc [.int .i64 0, .nilSl, .nilSl]),
  u (sStore 3 (X 5) (X 9))]
noncomputable def bq43x0 (E : Env) : CT :=
 .block 1 (.drw [.rd 0 (o 10 (sLoad 1 false (X 3))),
  .op (o 11 (sLoad 3 true (X 5))),
  .hv 2 (o 12 (sCall E 59 [(X 11)])),
  .op (o 13 (sBuildSl 3 1 [.int .i64 0, .nilSl, .nilSl] [(0, 3, (X 12))])),
  .hv 15 (o 14 (sApp (ty 3 true 56 [.int .i64 0, .nilSl, .nilSl]) (X 10) (X 13))),
  .hv 31 (u (sStore 1 (X 3) (X 14)))])
noncomputable def kaq43x0 : Code := (nthRange Go.Proofs.Try.f43 0).1
noncomputable def kbq43x0 : Code := (nthRange Go.Proofs.Try.f43 0).2
theorem eaq43x0 (E : Env) (t : T) (h : AHeap) : evalCode prog E kaq43x0 t h = runC E (aq43x0 E) t h := code_tr tab43 (by kernel_rfl) t h
theorem ebq43x0 (E : Env) (t : T) (h : AHeap) : evalCode prog E kbq43x0 t h = runC E (bq43x0 E) t h := code_tr tab43 (by kernel_rfl) t h
noncomputable def b43 (E : Env) : CT :=
 .seq (.reg [o 2 (sMov (K (.nilSl)))])
 (.seq (.reg [o 3 (sAlloc [.nilSl])])
 (.seq (.seq (.reg [o 6 (sMov (X 0)),
  o 7 (sCall E 32 [(X 6), (K (.int .i64 0))])])
 (.block 0 (.range (X 7) [8, 9] kaq43x0 kbq43x0)))
 (.seq (.reg [o 15 (sLoad 1 false (X 3)),
  o 2 (sMov (X 15))])
 (.ret))))
theorem c43 (args : T) (h : AHeap) : (envL prog).call 43 args h = trim h (fin [.tmp 2] (runC (envL prog) (b43 (envL prog)) (args ++ List.replicate (16 - args.length) .undef) h)) :=
 call_tr (fn := Go.Proofs.Try.f43) tab43 (by kernel_rfl) (by rfl) (by kernel_rfl) (fun t h => by kernel_rfl) rfl args h
def tab44 : Nat → Cert := fun i => ⟨0, 0, 0, 0, 0, 0⟩
noncomputable def l44x0 (E : Env) : CT :=
 .seq (.reg [o 21 (sBin .lss .none (X 20) (X 19))])
 (.seq (.ite (X 21)
 (.skip)
 (.exit 2))
 (.seq (.block 3 (.seq (.reg [o 22 (sIdxAddrS 2 (X 18) (X 20)),
  o 23 (sLoad 2 true (X 22)),
  o 9 (sAlloc [.int .i64 0, .int .i64 0]),
  u (sStore 2 (X 9) (X 23))])
 (.seq (.reg [o 24 (sFieldAddr 0 (X 9)),
  o 25 (sLoad 1 false (X 24)),
  o 26 (sFieldAddr 0 (X 7)),
  o 27 (sLoad 1 false (X 26)),
  o 28 (sBin .eql .none (X 25) (X 27))])
 (.ite (X 28)
 (.seq (.reg [o 29 (sMov (X 5)),
  o 30 (sFieldAddr 1 (X 7)),
  o 31 (sLoad 1 false (X 30)),
  o 32 (sBuildSl 1 1 [.int .i64 0] [(0, 1, (X 31))]),
  o 33 (sApp (ty 1 false 8 [.int .i64 0]) (X 29) (X 32)),
  o 5 (sMov (X 33))])
 (.exit 1))
 (.skip)))))
 (.reg [o 34 (sBin .add .none (X 20) (K (.int .i64 1))),
  o 20 (sMov (X 34))])))
noncomputable def l44x1 (E : Env) : CT :=
 .seq (.reg [o 15 (sBin .lss .none (X 14) (X 13))])
 (.seq (.ite (X 15)
 (.skip)
 (.exit 0))
 (.seq (.block 1 (.seq (.reg [o 16 (sIdxAddrS 2 (X 12) (X 14)),
  o 17 (sLoad 2 true (X 16)),
  o 7 (sAlloc [.int .i64 0, .int .i64 0]),
  u (sStore 2 (X 7) (X 17))])
 (.seq (.seq (.reg [o 18 (sMov (X 0)),
  o 19 (sLenSl (X 18)),
  o 20 (sMov (K (.int .i64 0)))])
 (.block 2 (.loop (l44x0 E))))
 (.reg [o 35 (sMov (X 4)),
  o 36 (sFieldAddr 0 (X 7)),
  o 37 (sLoad 1 false (X 36)),
  o 38 (sFieldAddr 1 (X 7)),
  o 39 (sLoad 1 false (X 38)),
  o 40 (sCall E 61 [(X 35), (X 37), (X 39)]),
  o 4 (sMov (X 40))]))))
 (.reg [o 41 (sBin .add .none (X 14) (K (.int .i64 1))),
  o 14 (sMov (X 41))])))
noncomputable def b44 (E : Env) : CT :=
 .seq (.reg [o 4 (sMov (K (.nilSl))),
  o 5 (sMov (K (.nilSl)))])
 (.seq (.reg [o 10 (sMov (X 0)),
  o 11 (sCall E 60 [(X 10)]),
  o 4 (sMov (X 11))])
 (.seq (.skip)
 (.seq (.seq (.reg [o 12 (sMov (X 1)),
  o 13 (sLenSl (X 12)),
  o 14 (sMov (K (.int .i64 0)))])
 (.block 0 (.loop (l44x1 E))))
 (.seq (.reg [o 42 (sMov (X 4)),
  o 43 (sMov (X 5)),
  o 4 (sMov (X 42)),
  o 5 (sMov (X 43))])
 (.ret)))))
theorem d44 (E : Env) (args : T) (h : AHeap) : callBody prog E 44 args h = trim h (fin [.tmp 4, .tmp 5] (runC E (b44 E) (args ++ List.replicate (44 - args.length) .undef) h)) :=
 body_tr (fn := Go.Proofs.Try.f44) tab44 (by kernel_rfl) (by rfl) (by kernel_rfl) (fun t h => by kernel_rfl) rfl args h
def tab45 : Nat → Cert := fun i => bif Nat.beq i 5 then ⟨8, 27, 9161473930257694720, 9169073754628882432, 52656146054957952329773237443615674796072802905529410281986326529, 784637874765513059676714069746026130589979498592897859605⟩ else ⟨0, 0, 0, 0, 0, 0⟩
noncomputable def b45 (E : Env) : CT :=
 .seq (.reg [o 6 (sMov (K (.nilSl)))])
 (.seq (.reg [o 8 (sMov (X 0)),
  o 9 (sMov (X 1)),
  o 10 (sMov (X 2)),
  o 11 (sMov (X 0)),
  o 12 (sLenSl (X 11)),
  o 13 (sSliceS 3 (X 8) (some (X 9)) (some (X 10)) (some (X 12)))])
 (.seq (.seq (.reg [o 14 (sMov (X 1)),
  o 15 (sMov (X 2)),
  o 16 (sBin .eql .none (X 14) (X 15))])
 (.ite (X 16)
 (.seq (.reg [o 17 (sMov (X 0)),
  o 6 (sMov (X 17))])
 (.ret))
 (.skip)))
 (.seq (.reg [o 18 (sMov (X 0)),
  o 19 (sLenSl (X 18)),
  o 7 (sMov (X 19))])
 (.seq (.drw [.op (o 20 (sMov (X 0))),
  .op (o 21 (sMov (X 1))),
  .op (o 22 (sSliceS 3 (X 20) none (some (X 21)) none)),
  .op (o 23 (sMov (X 0))),
  .op (o 24 (sMov (X 2))),
  .op (o 25 (sSliceS 3 (X 23) (some (X 24)) none none)),
  .hv 63 (o 26 (sApp (ty 3 true 56 [.int .i64 0, .nilSl, .nilSl]) (X 22) (X 25))),
  .op (o 0 (sMov (X 26)))])
 (.seq (.reg [o 27 (sMov (X 0)),
  o 28 (sMov (X 0)),
  o 29 (sLenSl (X 28)),
  o 30 (sMov (X 7)),
  o 31 (sSliceS 3 (X 27) (some (X 29)) (some (X 30)) none),
  u (sClear (ty 3 true 56 [.int .i64 0, .nilSl, .nilSl]) (X 31))])
 (.seq (.reg [o 32 (sMov (X 0)),
  o 6 (sMov (X 32))])
 (.ret)))))))
theorem c45 (args : T) (h : AHeap) : (envL prog).call 45 args h = trim h (fin [.tmp 6] (runC (envL prog) (b45 (envL prog)) (args ++ List.replicate (33 - args.length) .undef) h)) :=
 call_tr (fn := Go.Proofs.Try.f45) tab45 (by kernel_rfl) (by rfl) (by kernel_rfl) (fun t h => by kernel_rfl) rfl args h
def tab48 : Nat → Cert := fun i => ⟨0, 0, 0, 0, 0, 0⟩
noncomputable def b48 (E : Env) : CT :=
 .seq (.reg [o 3 (sBox (X 1)),
  o 4 (sMov (K (.int .i64 0)))])
 (.seq (.reg [o 5 (sMov (X 0)),
  o 6 (sFun 64 [(X 3)]),
  o 7 (sCall E 63 [(X 5), (X 6)]),
  o 4 (sMov (X 7))])
 (.ret))
theorem c48 (args : T) (h : AHeap) : (envL prog).call 48 args h = trim h (fin [.tmp 4] (runC (envL prog) (b48 (envL prog)) (args ++ List.replicate (8 - args.length) .undef) h)) :=
 call_tr (fn := Go.Proofs.Try.f48) tab48 (by kernel_rfl) (by rfl) (by kernel_rfl) (fun t h => by kernel_rfl) rfl args h
def tab49 : Nat → Cert := fun i => ⟨0, 0, 0, 0, 0, 0⟩
noncomputable def b49 (E : Env) : CT :=
 .seq (.reg [o 2 (sMov (K (.nilSl)))])
 (.seq (.seq (.reg [o 3 (sMov (X 0)),
  o 4 (sBin .eql .slice (X 3) (K (.nilSl)))])
 (.ite (X 4)
 (.seq (.reg [o 2 (sMov (K (.nilSl)))])
 (.ret))
 (.skip)))
 (.seq (.reg [o 5 (sBuildSl 1 0 [.int .u8 0] []),
  o 6 (sMov (X 0)),
  o 7 (sApp (ty 1 false 1 [.int .u8 0]) (X 5) (X 6)),
  o 2 (sMov (X 7))])
 (.ret)))
theorem c49 (args : T) (h : AHeap) : (envL prog).call 49 args h = trim h (fin [.tmp 2] (runC (envL prog) (b49 (envL prog)) (args ++ List.replicate (8 - args.length) .undef) h)) :=
 call_tr (fn := Go.Proofs.Try.f49) tab49 (by kernel_rfl) (by rfl) (by kernel_rfl) (fun t h => by kernel_rfl) rfl args h
def tab51 : Nat → Cert := fun i => ⟨0, 0, 0, 0, 0, 0⟩
noncomputable def b51 (E : Env) : CT :=
 .seq (.reg [o 1 (sBox (X 0)),
  o 2 (sMov (K (.nilFn)))])
 (.seq (.reg [o 3 (sFun 66 [(X 1)]),
  o 2 (sMov (X 3))])
 (.ret))
theorem c51 (args : T) (h : AHeap) : (envL prog).call 51 args h = trim h (fin [.tmp 2] (runC (envL prog) (b51 (envL prog)) (args ++ List.replicate (4 - args.length) .undef) h)) :=
 call_tr (fn := Go.Proofs.Try.f51) tab51 (by kernel_rfl) (by rfl) (by kernel_rfl) (fun t h => by kernel_rfl) rfl args h
def tab52 : Nat → Cert := fun i => bif Nat.beq i 3 then ⟨8, 19, 4621555286337912832, 9169078204214804480, 2854498362885226472471214775385442849263714305, 217781109444674920010573885300070459375629⟩ else ⟨0, 0, 0, 0, 0, 0⟩
noncomputable def l52x0 (E : Env) : CT :=
 .seq (.seq (.reg [o 6 (sLoad 1 false (X 1)),
  o 7 (sLoad 1 false (X 2)),
  o 8 (sLenSl (X 7)),
  o 9 (sBin .lss .none (X 6) (X 8))])
 (.ite (X 9)
 (.skip)
 (.exit 0)))
 (.seq (.block 1 (.seq (.drw [.op (o 12 (sMov (X 0))),
  .op (o 13 (sLoad 1 false (X 1))),
  .op (o 14 (sLoad 1 false (X 2))),
  .op (o 15 (sLoad 1 false (X 1))),
  .op (o 16 (sIdxAddrS 3 (X 14) (X 15))),
  .op (o 17 (sLoad 3 true (X 16))),
  .hv 63 (o 18 (sCallV E (X 12) [(X 13), (X 17)])),
  .op (o 19 (sUn .not (X 18)))])
 (.ite (X 19)
 (.ret)
 (.skip))))
 (.reg [o 10 (sLoad 1 false (X 1)),
  o 11 (sBin .add .none (X 10) (K (.int .i64 1))),
  u (sStore 1 (X 1) (X 11))]))
noncomputable def b52 (E : Env) : CT :=
 .seq (.seq (.reg [o 4 (sLoad 1 false (X 1)),
  o 5 (sBin .lss .none (X 4) (K (.int .i64 0)))])
 (.ite (X 5)
 (.ret)
 (.skip)))
 (.block 0 (.loop (l52x0 E)))
theorem c52 (args : T) (h : AHeap) : (envL prog).call 52 args h = trim h (fin [] (runC (envL prog) (b52 (envL prog)) (args ++ List.replicate (20 - args.length) .undef) h)) :=
 call_tr (fn := Go.Proofs.Try.f52) tab52 (by kernel_rfl) (by rfl) (by kernel_rfl) (fun t h => by kernel_rfl) rfl args h
def tab53 : Nat → Cert := fun i => ⟨0, 0, 0, 0, 0, 0⟩
noncomputable def aq53x0 (E : Env) : CT :=
 .reg [o 5 (sMov (X 14))]
noncomputable def bq53x0 (E : Env) : CT :=
 .block 1 (.seq (.reg [o 15 (sMov (X 5)),
  o 16 (sLoad 1 false (X 3)),
  o 17 (sBin .geq .none (X 15) (X 16))])
 (.ite (X 17)
 (.seq (.reg [u (sStore 1 (X 4) (K (.bool false)))])
 (.ret))
 (.skip)))
noncomputable def kaq53x0 : Code := (nthRange Go.Proofs.Try.f53 0).1
noncomputable def kbq53x0 : Code := (nthRange Go.Proofs.Try.f53 0).2
theorem eaq53x0 (E : Env) (t : T) (h : AHeap) : evalCode prog E kaq53x0 t h = runC E (aq53x0 E) t h := code_tr tab53 (by kernel_rfl) t h
theorem ebq53x0 (E : Env) (t : T) (h : AHeap) : evalCode prog E kbq53x0 t h = runC E (bq53x0 E) t h := code_tr tab53 (by kernel_rfl) t h
noncomputable def b53 (E : Env) : CT :=
 .seq (.reg [o 3 (sBox (X 1)),
  o 4 (sAlloc [.bool false])])
 (.seq (.seq (.reg [o 6 (sMov (X 0)),
  o 7 (sLenSl (X 6)),
  o 8 (sLoad 1 false (X 3)),
  o 9 (sCall E 67 [(X 8)]),
  o 10 (sLenSl (X 9)),
  o 11 (sBin .neq .none (X 7) (X 10))])
 (.ite (X 11)
 (.seq (.reg [u (sStore 1 (X 4) (K (.bool false)))])
 (.ret))
 (.skip)))
 (.seq (.seq (.reg [o 12 (sMov (X 0)),
  o 13 (sCall E 51 [(X 12)])])
 (.block 0 (.range (X 13) [14] kaq53x0 kbq53x0)))
 (.seq (.reg [u (sStore 1 (X 4) (K (.bool true)))])
 (.ret))))
theorem c53 (args : T) (h : AHeap) : (envL prog).call 53 args h = trim h (fin [.cell 4 1 false] (runC (envL prog) (b53 (envL prog)) (args ++ List.replicate (18 - args.length) .undef) h)) :=
 call_tr (fn := Go.Proofs.Try.f53) tab53 (by kernel_rfl) (by rfl) (by kernel_rfl) (fun t h => by kernel_rfl) rfl args h
def tab54 : Nat → Cert := fun i => bif Nat.beq i 5 then ⟨41, 57, 26879162388085686345656385837946460297081111765991358483411092623524562867393236087858947211754487900278667630048474670165221809929094740941537574563361666218765001032592564931023107322345194080303715981926938210602600346656767983418991688141802375025040548192474784240783283883202430920548006654075037319199750127703493283824697213002270560521233650991654447954531025128449073776965913681696732989010772948529193785362207988009264032230767642724346795815439611787246991962457420833781179711687368221130752, 53751763281581245769098257181553740227902341713442860261185979190566584631939466203010977254012202452891594087060655633673237001706172005052225770795609916594280664111702919604417040237926851915474295482555110717244818282300520335210541435686476107285527492029883492695096121060986429424223501537829431065531557693692808084189960426783272017832448429890643969591990896319634368968683866869596824838713834702798491480433311209233594992497895712112118543312167222278396606756499668884471598549431227372273664, 16073959964283633306425242473010085694415356138226962267612230887089026203214208082567549824253529171160902891500653194517770074317860918219032037904828555340671594567059931429168809268703220408050465022880834301345506911697107661274305987611512079651259301965444768395131365200197128985935411443533031466952731862423019020435236663786859002017326077335505216010262802653475299697151908679160190545273893221078963738786856691690752937248555197931556586460531110730883461226725175283874323201214264207847454465395151147818976648891094086500888676787666149750985480609072176677840375146262753129128512966821127190382306697123645646827026076895005057279818876121845076667843000893818624036419254839284859392, 12936539158328994545780995073471535576603230798522526350283096213857896509703633645707268407732763702005244231959175247554070321082328751389309412587398988989485184775401389748718564241700094235778643365979387810231052079390546080414431718479758776794355459043469701343096348882299661265725052056111728323505450178855011641873863601196029739824972813803859223864590343100298408971965697913419824058979634559935637826911972951644287572478292722620911485755766255101927999707847651627756968646316440989845250226204669337278852551634747404077782431765578558208720926945333664205355415439009824804076068866543217105912083085763536580422659105539017315844496974199187566342931395417691631124498⟩ else ⟨0, 0, 0, 0, 0, 0⟩
noncomputable def l54x0 (E : Env) : CT :=
 .seq (.reg [o 13 (sBin .lss .none (X 12) (X 11))])
 (.seq (.ite (X 13)
 (.skip)
 (.exit 0))
 (.seq (.block 1 (.seq (.reg [o 14 (sMov (X 12)),
  o 15 (sIdxAddrS 2 (X 10) (X 12)),
  o 16 (sLoad 2 true (X 15)),
  o 9 (sAlloc [.int .i64 0, .int .i64 0]),
  o 8 (sMov (X 14)),
  u (sStore 2 (X 9) (X 16))])
 (.seq (.seq (.drw [.op (o 17 (sFieldAddr 0 (X 9))),
  .op (o 18 (sLoad 1 false (X 17))),
  .op (o 19 (sBin .lss .none (X 18) (K (.int .i64 0)))),
  .op (o 20 (sMov (X 19))),
  .op (og 20 false 21 (sFieldAddr 0 (X 9))),
  .op (og 20 false 22 (sLoad 1 false (X 21))),
  .op (og 20 false 23 (sMov (X 1))),
  .op (og 20 false 24 (sBin .geq .none (X 22) (X 23))),
  .op (o 25 (sPick (X 20) (K (.bool true)) (X 24))),
  .op (o 26 (sMov (X 25))),
  .op (og 26 false 27 (sFieldAddr 1 (X 9))),
  .op (og 26 false 28 (sLoad 1 false (X 27))),
  .op (og 26 false 29 (sBin .lss .none (X 28) (K (.int .i64 0)))),
  .op (o 30 (sPick (X 26) (K (.bool true)) (X 29))),
  .op (o 31 (sMov (X 30))),
  .op (og 31 false 32 (sFieldAddr 1 (X 9))),
  .op (og 31 false 33 (sLoad 1 false (X 32))),
  .op (og 31 false 34 (sMov (X 2))),
  .op (og 31 false 35 (sBin .geq .none (X 33) (X 34))),
  .op (o 36 (sPick (X 31) (K (.bool true)) (X 35))),
  .op (o 37 (sMov (X 36))),
  .op (og 37 false 38 (sMov (X 7))),
  .op (og 37 false 39 (sFieldAddr 1 (X 9))),
  .op (og 37 false 40 (sLoad 1 false (X 39))),
  .hv 16777215 (og 37 false 41 (sCall E 35 [(X 38), (X 40)])),
  .op (o 42 (sPick (X 37) (K (.bool true)) (X 41))),
  .op (o 43 (sMov (X 42))),
  .op (og 43 false 44 (sMov (X 8))),
  .op (og 43 false 45 (sBin .gtr .none (X 44) (K (.int .i64 0)))),
  .op (og 43 false 46 (sMov (X 45))),
  .op (og 46 true 47 (sFieldAddr 0 (X 9))),
  .op (og 46 true 48 (sLoad 1 false (X 47))),
  .op (og 46 true 49 (sMov (X 0))),
  .op (og 46 true 50 (sMov (X 8))),
  .op (og 46 true 51 (sBin .sub .none (X 50) (K (.int .i64 1)))),
  .op (og 46 true 52 (sIdxAddrS 2 (X 49) (X 51))),
  .op (og 46 true 53 (sFieldAddr 0 (X 52))),
  .op (og 46 true 54 (sLoad 1 false (X 53))),
  .op (og 46 true 55 (sBin .leq .none (X 48) (X 54))),
  .op (og 43 false 56 (sPick (X 46) (X 55) (K (.bool false)))),
  .op (o 57 (sPick (X 43) (K (.bool true)) (X 56)))])
 (.ite (X 57)
 (.seq (.reg [o 6 (sMov (K (.bool false)))])
 (.ret))
 (.skip)))
 (.reg [o 58 (sMov (X 7)),
  o 59 (sFieldAddr 1 (X 9)),
  o 60 (sLoad 1 false (X 59)),
  o 61 (sBuildSl 1 1 [.int .i64 0] [(0, 1, (X 60))]),
  o 62 (sApp (ty 1 false 8 [.int .i64 0]) (X 58) (X 61)),
  o 7 (sMov (X 62))]))))
 (.reg [o 63 (sBin .add .none (X 12) (K (.int .i64 1))),
  o 12 (sMov (X 63))])))
noncomputable def b54 (E : Env) : CT :=
 .seq (.reg [o 6 (sMov (K (.bool false)))])
 (.seq (.reg [o 7 (sMov (K (.nilSl)))])
 (.seq (.seq (.reg [o 10 (sMov (X 0)),
  o 11 (sLenSl (X 10)),
  o 12 (sMov (K (.int .i64 0)))])
 (.block 0 (.loop (l54x0 E))))
 (.seq (.reg [o 6 (sMov (K (.bool true)))])
 (.ret))))
theorem c54 (args : T) (h : AHeap) : (envL prog).call 54 args h = trim h (fin [.tmp 6] (runC (envL prog) (b54 (envL prog)) (args ++ List.replicate (64 - args.length) .undef) h)) :=
 call_tr (fn := Go.Proofs.Try.f54) tab54 (by kernel_rfl) (by rfl) (by kernel_rfl) (fun t h => by kernel_rfl) rfl args h
def tab55 : Nat → Cert := fun i => ⟨0, 0, 0, 0, 0, 0⟩
noncomputable def b55 (E : Env) : CT :=
 .seq (.reg [o 4 (sMov (K (.bool false)))])
 (.seq (.reg [o 5 (sMov (X 1)),
  o 6 (sBin .geq .none (X 5) (K (.int .i64 0))),
  o 7 (sMov (X 6)),
  og 7 true 8 (sMov (X 1)),
  og 7 true 9 (sBin .quo .none (X 8) (K (.int .i64 8))),
  og 7 true 10 (sMov (X 0)),
  og 7 true 11 (sLenSl (X 10)),
  og 7 true 12 (sBin .lss .none (X 9) (X 11)),
  o 13 (sPick (X 7) (X 12) (K (.bool false))),
  o 14 (sMov (X 13)),
  og 14 true 15 (sMov (X 0)),
  og 14 true 16 (sMov (X 1)),
  og 14 true 17 (sBin .quo .none (X 16) (K (.int .i64 8))),
  og 14 true 18 (sIdxAddrS 1 (X 15) (X 17)),
  og 14 true 19 (sLoad 1 false (X 18)),
  og 14 true 20 (sMov (X 1)),
  og 14 true 21 (sBin .rem .none (X 20) (K (.int .i64 8))),
  og 14 true 22 (sBin .shr .none (X 19) (X 21)),
  og 14 true 23 (sBin .and .none (X 22) (K (.int .u8 1))),
  og 14 true 24 (sBin .eql .none (X 23) (K (.int .u8 1))),
  o 25 (sPick (X 14) (X 24) (K (.bool false))),
  o 4 (sMov (X 25))])
 (.ret))
theorem c55 (args : T) (h : AHeap) : (envL prog).call 55 args h = trim h (fin [.tmp 4] (runC (envL prog) (b55 (envL prog)) (args ++ List.replicate (26 - args.length) .undef) h)) :=
 call_tr (fn := Go.Proofs.Try.f55) tab55 (by kernel_rfl) (by rfl) (by kernel_rfl) (fun t h => by kernel_rfl) rfl args h
def tab56 : Nat → Cert := fun i => ⟨0, 0, 0, 0, 0, 0⟩
noncomputable def l56x0 (E : Env) : CT :=
 .seq (.reg [o 9 (sBin .lss .none (X 8) (X 7))])
 (.seq (.ite (X 9)
 (.skip)
 (.exit 0))
 (.seq (.block 1 (.seq (.reg [o 10 (sIdxAddrS 1 (X 6) (X 8)),
  o 11 (sLoad 1 false (X 10)),
  o 5 (sMov (X 11))])
 (.reg [o 12 (sMov (X 3)),
  o 13 (sMov (X 5)),
  o 14 (sCall E 68 [(X 13)]),
  o 15 (sBin .add .none (X 12) (X 14)),
  o 3 (sMov (X 15))])))
 (.reg [o 16 (sBin .add .none (X 8) (K (.int .i64 1))),
  o 8 (sMov (X 16))])))
noncomputable def b56 (E : Env) : CT :=
 .seq (.reg [o 2 (sMov (K (.int .i64 0)))])
 (.seq (.reg [o 3 (sMov (K (.int .i64 0)))])
 (.seq (.seq (.reg [o 6 (sMov (X 0)),
  o 7 (sLenSl (X 6)),
  o 8 (sMov (K (.int .i64 0)))])
 (.block 0 (.loop (l56x0 E))))
 (.seq (.reg [o 17 (sMov (X 3)),
  o 2 (sMov (X 17))])
 (.ret))))
theorem c56 (args : T) (h : AHeap) : (envL prog).call 56 args h = trim h (fin [.tmp 2] (runC (envL prog) (b56 (envL prog)) (args ++ List.replicate (18 - args.length) .undef) h)) :=
 call_tr (fn := Go.Proofs.Try.f56) tab56 (by kernel_rfl) (by rfl) (by kernel_rfl) (fun t h => by kernel_rfl) rfl args h
def tab57 : Nat → Cert := fun i => ⟨0, 0, 0, 0, 0, 0⟩
noncomputable def l57x0 (E : Env) : CT :=
 .seq (.reg [o 9 (sBin .lss .none (X 8) (X 7))])
 (.seq (.ite (X 9)
 (.skip)
 (.exit 0))
 (.seq (.block 1 (.seq (.reg [o 10 (sMov (X 8)),
  o 5 (sMov (X 10))])
 (.seq (.reg [o 11 (sMov (X 1)),
  o 12 (sMov (X 0)),
  o 13 (sMov (X 5)),
  o 14 (sIdxAddrS 1 (X 12) (X 13)),
  o 15 (sLoad 1 false (X 14)),
  o 16 (sBin .eql .none (X 11) (X 15))])
 (.ite (X 16)
 (.seq (.reg [o 17 (sMov (X 5)),
  o 4 (sMov (X 17))])
 (.ret))
 (.skip)))))
 (.reg [o 18 (sBin .add .none (X 8) (K (.int .i64 1))),
  o 8 (sMov (X 18))])))
noncomputable def b57 (E : Env) : CT :=
 .seq (.reg [o 4 (sMov (K (.int .i64 0)))])
 (.seq (.seq (.reg [o 6 (sMov (X 0)),
  o 7 (sLenSl (X 6)),
  o 8 (sMov (K (.int .i64 0)))])
 (.block 0 (.loop (l57x0 E))))
 (.seq (.reg [o 4 (sMov (K (.int .i64 (-1))))])
 (.ret)))
theorem c57 (args : T) (h : AHeap) : (envL prog).call 57 args h = trim h (fin [.tmp 4] (runC (envL prog) (b57 (envL prog)) (args ++ List.replicate (19 - args.length) .undef) h)) :=
 call_tr (fn := Go.Proofs.Try.f57) tab57 (by kernel_rfl) (by rfl) (by kernel_rfl) (fun t h => by kernel_rfl) rfl args h
def tab58 : Nat → Cert := fun i => ⟨0, 0, 0, 0, 0, 0⟩
noncomputable def b58 (E : Env) : CT :=
 .seq (.reg [o 2 (sMov (K (.nilSl)))])
 (.seq (.seq (.reg [o 3 (sMov (X 0)),
  o 4 (sBin .lss .none (X 3) (K (.int .i64 1))),
  o 5 (sMov (X 4)),
  og 5 false 6 (sMov (X 0)),
  og 5 false 7 (sBin .gtr .none (X 6) (K (.int .i64 4096))),
  o 8 (sPick (X 5) (K (.bool true)) (X 7))])
 (.ite (X 8)
 (.seq (.reg [o 2 (sMov (K (.nilSl)))])
 (.ret))
 (.skip)))
 (.seq (.reg [o 9 (sMov (X 0)),
  o 10 (sBin .add .none (X 9) (K (.int .i64 7))),
  o 11 (sBin .quo .none (X 10) (K (.int .i64 8))),
  o 12 (sMake (ty 1 false 1 [.int .u8 0]) (X 11) (X 11)),
  o 2 (sMov (X 12))])
 (.ret)))
theorem c58 (args : T) (h : AHeap) : (envL prog).call 58 args h = trim h (fin [.tmp 2] (runC (envL prog) (b58 (envL prog)) (args ++ List.replicate (13 - args.length) .undef) h)) :=
 call_tr (fn := Go.Proofs.Try.f58) tab58 (by kernel_rfl) (by rfl) (by kernel_rfl) (fun t h => by kernel_rfl) rfl args h
def tab59 : Nat → Cert := fun i => bif Nat.beq i 1 then ⟨10, 11, 632895786129729975461282317312, 632895786129742360360258634752, 811297085323194380207336638660610, 3404335846228958675168405508⟩ else ⟨0, 0, 0, 0, 0, 0⟩
noncomputable def b59 (E : Env) : CT :=
 .seq (.reg [o 1 (sBox (X 0)),
  o 2 (sAlloc [.int .i64 0, .nilSl, .nilSl])])
 (.seq (.drw [.op (o 3 (sFieldAddr 1 (X 1))),
  .op (o 4 (sLoad 1 false (X 3))),
  .op (o 6 (sFieldAddr 2 (X 1))),
  .rd 4 (o 7 (sLoad 1 false (X 6))),
  .hv 3 (o 5 (sCall E 49 [(X 4)])),
  .op (o 9 (sFieldAddr 1 (X 1))),
  .hv 31 (o 8 (sCall E 60 [(X 7)])),
  .hv 127 (u (sStore 1 (X 9) (X 5))),
  .op (o 10 (sFieldAddr 2 (X 1))),
  .hv 511 (u (sStore 1 (X 10) (X 8)))])
 (.seq (.reg [o 11 (sLoad 3 true (X 1)),
  u (sStore 3 (X 2) (X 11))])
 (.ret)))
theorem c59 (args : T) (h : AHeap) : (envL prog).call 59 args h = trim h (fin [.cell 2 3 true] (runC (envL prog) (b59 (envL prog)) (args ++ List.replicate (12 - args.length) .undef) h)) :=
 call_tr (fn := Go.Proofs.Try.f59) tab59 (by kernel_rfl) (by rfl) (by kernel_rfl) (fun t h => by kernel_rfl) rfl args h
def tab60 : Nat → Cert := fun i => ⟨0, 0, 0, 0, 0, 0⟩
noncomputable def b60 (E : Env) : CT :=
 .seq (.reg [o 2 (sMov (K (.nilSl)))])
 (.seq (.seq (.reg [o 3 (sMov (X 0)),
  o 4 (sBin .eql .slice (X 3) (K (.nilSl)))])
 (.ite (X 4)
 (.seq (.reg [o 2 (sMov (K (.nilSl)))])
 (.ret))
 (.skip)))
 (.seq (.reg [o 5 (sBuildSl 2 0 [.int .i64 0, .int .i64 0] []),
  o 6 (sMov (X 0)),
  o 7 (sApp (ty 2 true 16 [.int .i64 0, .int .i64 0]) (X 5) (X 6)),
  o 2 (sMov (X 7))])
 (.ret)))
theorem c60 (args : T) (h : AHeap) : (envL prog).call 60 args h = trim h (fin [.tmp 2] (runC (envL prog) (b60 (envL prog)) (args ++ List.replicate (8 - args.length) .undef) h)) :=
 call_tr (fn := Go.Proofs.Try.f60) tab60 (by kernel_rfl) (by rfl) (by kernel_rfl) (fun t h => by kernel_rfl) rfl args h
def tab61 : Nat → Cert := fun i => ⟨0, 0, 0, 0, 0, 0⟩
noncomputable def l61x0 (E : Env) : CT :=
 .seq (.reg [o 29 (sBin .lss .none (X 28) (X 27))])
 (.seq (.ite (X 29)
 (.skip)
 (.exit 0))
 (.seq (.block 1 (.seq (.reg [o 30 (sMov (X 28)),
  o 31 (sIdxAddrS 2 (X 26) (X 28)),
  o 32 (sLoad 2 true (X 31)),
  o 10 (sAlloc [.int .i64 0, .int .i64 0]),
  o 9 (sMov (X 30)),
  u (sStore 2 (X 10) (X 32))])
 (.seq (.reg [o 33 (sFieldAddr 0 (X 10)),
  o 34 (sLoad 1 false (X 33)),
  o 35 (sMov (X 1)),
  o 36 (sBin .gtr .none (X 34) (X 35))])
 (.ite (X 36)
 (.seq (.reg [o 37 (sMov (X 0)),
  o 38 (sMov (X 9)),
  o 39 (sLoad 2 true (X 7)),
  o 40 (sBuildSl 2 1 [.int .i64 0, .int .i64 0] [(0, 2, (X 39))]),
  o 41 (sCall E 69 [(X 37), (X 38), (X 40)]),
  o 6 (sMov (X 41))])
 (.ret))
 (.skip)))))
 (.reg [o 42 (sBin .add .none (X 28) (K (.int .i64 1))),
  o 28 (sMov (X 42))])))
noncomputable def b61 (E : Env) : CT :=
 .seq (.reg [o 6 (sMov (K (.nilSl)))])
 (.seq (.reg [o 11 (sMov (X 1)),
  o 12 (sMov (X 2)),
  o 13 (sBuild [.int .i64 0, .int .i64 0] [(0, 1, (X 11)), (1, 1, (X 12))]),
  o 7 (sAlloc [.int .i64 0, .int .i64 0]),
  u (sStore 2 (X 7) (X 13))])
 (.seq (.reg [o 14 (sMov (X 0)),
  o 15 (sCall E 60 [(X 14)]),
  o 0 (sMov (X 15))])
 (.seq (.seq (.reg [o 16 (sMov (X 0)),
  o 17 (sMov (X 1)),
  o 18 (sCall E 48 [(X 16), (X 17)]),
  o 8 (sMov (X 18))])
 (.seq (.reg [o 19 (sMov (X 8)),
  o 20 (sBin .geq .none (X 19) (K (.int .i64 0)))])
 (.ite (X 20)
 (.seq (.reg [o 21 (sMov (X 0)),
  o 22 (sMov (X 8)),
  o 23 (sLoad 2 true (X 7)),
  o 24 (sIdxAddrS 2 (X 21) (X 22)),
  u (sStore 2 (X 24) (X 23))])
 (.seq (.reg [o 25 (sMov (X 0)),
  o 6 (sMov (X 25))])
 (.ret)))
 (.skip))))
 (.seq (.seq (.reg [o 26 (sMov (X 0)),
  o 27 (sLenSl (X 26)),
  o 28 (sMov (K (.int .i64 0)))])
 (.block 0 (.loop (l61x0 E))))
 (.seq (.reg [o 43 (sMov (X 0)),
  o 44 (sLoad 2 true (X 7)),
  o 45 (sBuildSl 2 1 [.int .i64 0, .int .i64 0] [(0, 2, (X 44))]),
  o 46 (sApp (ty 2 true 16 [.int .i64 0, .int .i64 0]) (X 43) (X 45)),
  o 6 (sMov (X 46))])
 (.ret))))))
theorem d61 (E : Env) (args : T) (h : AHeap) : callBody prog E 61 args h = trim h (fin [.tmp 6] (runC E (b61 E) (args ++ List.replicate (47 - args.length) .undef) h)) :=
 body_tr (fn := Go.Proofs.Try.f61) tab61 (by kernel_rfl) (by rfl) (by kernel_rfl) (fun t h => by kernel_rfl) rfl args h
def tab63 : Nat → Cert := fun i => ⟨0, 0, 0, 0, 0, 0⟩
noncomputable def l63x0 (E : Env) : CT :=
 .seq (.reg [o 9 (sBin .lss .none (X 8) (X 7))])
 (.seq (.ite (X 9)
 (.skip)
 (.exit 0))
 (.seq (.block 1 (.seq (.reg [o 10 (sMov (X 8)),
  o 5 (sMov (X 10))])
 (.seq (.reg [o 11 (sMov (X 1)),
  o 12 (sMov (X 0)),
  o 13 (sMov (X 5)),
  o 14 (sIdxAddrS 2 (X 12) (X 13)),
  o 15 (sLoad 2 true (X 14)),
  o 16 (sCallV E (X 11) [(X 15)])])
 (.ite (X 16)
 (.seq (.reg [o 17 (sMov (X 5)),
  o 4 (sMov (X 17))])
 (.ret))
 (.skip)))))
 (.reg [o 18 (sBin .add .none (X 8) (K (.int .i64 1))),
  o 8 (sMov (X 18))])))
noncomputable def b63 (E : Env) : CT :=
 .seq (.reg [o 4 (sMov (K (.int .i64 0)))])
 (.seq (.seq (.reg [o 6 (sMov (X 0)),
  o 7 (sLenSl (X 6)),
  o 8 (sMov (K (.int .i64 0)))])
 (.block 0 (.loop (l63x0 E))))
 (.seq (.reg [o 4 (sMov (K (.int .i64 (-1))))])
 (.ret)))
theorem c63 (args : T) (h : AHeap) : (envL prog).call 63 args h = trim h (fin [.tmp 4] (runC (envL prog) (b63 (envL prog)) (args ++ List.replicate (19 - args.length) .undef) h)) :=
 call_tr (fn := Go.Proofs.Try.f63) tab63 (by kernel_rfl) (by rfl) (by kernel_rfl) (fun t h => by kernel_rfl) rfl args h
def tab64 : Nat → Cert := fun i => ⟨0, 0, 0, 0, 0, 0⟩
noncomputable def b64 (E : Env) : CT :=
 .seq (.reg [o 2 (sBox (X 0)),
  o 3 (sMov (K (.bool false)))])
 (.seq (.reg [o 4 (sFieldAddr 0 (X 2)),
  o 5 (sLoad 1 false (X 4)),
  o 6 (sLoad 1 false (X 1)),
  o 7 (sBin .eql .none (X 5) (X 6)),
  o 3 (sMov (X 7))])
 (.ret))
theorem c64 (args : T) (h : AHeap) : (envL prog).call 64 args h = trim h (fin [.tmp 3] (runC (envL prog) (b64 (envL prog)) (args ++ List.replicate (8 - args.length) .undef) h)) :=
 call_tr (fn := Go.Proofs.Try.f64) tab64 (by kernel_rfl) (by rfl) (by kernel_rfl) (fun t h => by kernel_rfl) rfl args h
def tab66 : Nat → Cert := fun i => ⟨0, 0, 0, 0, 0, 0⟩
noncomputable def l66x0 (E : Env) : CT :=
 .seq (.reg [o 8 (sBin .lss .none (X 7) (X 6))])
 (.seq (.ite (X 8)
 (.skip)
 (.exit 0))
 (.seq (.block 1 (.seq (.reg [o 9 (sMov (X 7)),
  o 3 (sMov (X 9))])
 (.seq (.reg [o 10 (sLoad 1 false (X 1)),
  o 11 (sMov (X 3)),
  o 12 (sCall E 55 [(X 10), (X 11)]),
  o 13 (sMov (X 12)),
  og 13 true 14 (sMov (X 0)),
  og 13 true 15 (sMov (X 3)),
  og 13 true 16 (sCallV E (X 14) [(X 15)]),
  og 13 true 17 (sUn .not (X 16)),
  o 18 (sPick (X 13) (X 17) (K (.bool false)))])
 (.ite (X 18)
 (.ret)
 (.skip)))))
 (.reg [o 19 (sBin .add .none (X 7) (K (.int .i64 1))),
  o 7 (sMov (X 19))])))
noncomputable def b66 (E : Env) : CT :=
 .seq (.reg [o 4 (sLoad 1 false (X 1)),
  o 5 (sLenSl (X 4)),
  o 6 (sBin .mul .none (K (.int .i64 8)) (X 5)),
  o 7 (sMov (K (.int .i64 0)))])
 (.block 0 (.loop (l66x0 E)))
theorem c66 (args : T) (h : AHeap) : (envL prog).call 66 args h = trim h (fin [] (runC (envL prog) (b66 (envL prog)) (args ++ List.replicate (20 - args.length) .undef) h)) :=
 call_tr (fn := Go.Proofs.Try.f66) tab66 (by kernel_rfl) (by rfl) (by kernel_rfl) (fun t h => by kernel_rfl) rfl args h
def tab67 : Nat → Cert := fun i => ⟨0, 0, 0, 0, 0, 0⟩
noncomputable def b67 (E : Env) : CT :=
 .seq (.reg [o 2 (sMov (K (.nilSl)))])
 (.seq (.seq (.reg [o 3 (sMov (X 0)),
  o 4 (sBin .lss .none (X 3) (K (.int .i64 1))),
  o 5 (sMov (X 4)),
  og 5 false 6 (sMov (X 0)),
  og 5 false 7 (sBin .gtr .none (X 6) (K (.int .i64 4096))),
  o 8 (sPick (X 5) (K (.bool true)) (X 7))])
 (.ite (X 8)
 (.seq (.reg [o 2 (sMov (K (.nilSl)))])
 (.ret))
 (.skip)))
 (.seq (.reg [o 9 (sMov (X 0)),
  o 10 (sBin .add .none (X 9) (K (.int .i64 8))),
  o 11 (sBin .sub .none (X 10) (K (.int .i64 1))),
  o 12 (sBin .quo .none (X 11) (K (.int .i64 8))),
  o 13 (sMake (ty 1 false 1 [.int .u8 0]) (X 12) (X 12)),
  o 2 (sMov (X 13))])
 (.ret)))
theorem c67 (args : T) (h : AHeap) : (envL prog).call 67 args h = trim h (fin [.tmp 2] (runC (envL prog) (b67 (envL prog)) (args ++ List.replicate (14 - args.length) .undef) h)) :=
 call_tr (fn := Go.Proofs.Try.f67) tab67 (by kernel_rfl) (by rfl) (by kernel_rfl) (fun t h => by kernel_rfl) rfl args h
def tab68 : Nat → Cert := fun i => ⟨0, 0, 0, 0, 0, 0⟩
def tabstr68x0 : List UInt8 := [0, 1, 1, 2, 1, 2, 2, 3, 1, 2, 2, 3, 2, 3, 3, 4, 1, 2, 2, 3, 2, 3, 3, 4, 2, 3, 3, 4, 3, 4, 4, 5, 1, 2, 2, 3, 2, 3, 3, 4, 2, 3, 3, 4, 3, 4, 4, 5, 2, 3, 3, 4, 3, 4, 4, 5, 3, 4, 4, 5, 4, 5, 5, 6, 1, 2, 2, 3, 2, 3, 3, 4, 2, 3, 3, 4, 3, 4, 4, 5, 2, 3, 3, 4, 3, 4, 4, 5, 3, 4, 4, 5, 4, 5, 5, 6, 2, 3, 3, 4, 3, 4, 4, 5, 3, 4, 4, 5, 4, 5, 5, 6, 3, 4, 4, 5, 4, 5, 5, 6, 4, 5, 5, 6, 5, 6, 6, 7, 1, 2, 2, 3, 2, 3, 3, 4, 2, 3, 3, 4, 3, 4, 4, 5, 2, 3, 3, 4, 3, 4, 4, 5, 3, 4, 4, 5, 4, 5, 5, 6, 2, 3, 3, 4, 3, 4, 4, 5, 3, 4, 4, 5, 4, 5, 5, 6, 3, 4, 4, 5, 4, 5, 5, 6, 4, 5, 5, 6, 5, 6, 6, 7, 2, 3, 3, 4, 3, 4, 4, 5, 3, 4, 4, 5, 4, 5, 5, 6, 3, 4, 4, 5, 4, 5, 5, 6, 4, 5, 5, 6, 5, 6, 6, 7, 3, 4, 4, 5, 4, 5, 5, 6, 4, 5, 5, 6, 5, 6, 6, 7, 4, 5, 5, 6, 5, 6, 6, 7, 5, 6, 6, 7, 6, 7, 7, 8]
def str68x0 : ByteArray := ⟨tabstr68x0.toArray⟩
noncomputable def b68 (E : Env) : CT :=
 .seq (.reg [o 2 (sMov (K (.int .i64 0)))])
 (.seq (.reg [o 3 (sMov (X 0)),
  o 4 (sIdxStr (K (.str str68x0)) (X 3)),
  o 5 (sConv (.int .i64) (X 4)),
  o 2 (sMov (X 5))])
 (.ret))
theorem c68 (args : T) (h : AHeap) : (envL prog).call 68 args h = trim h (fin [.tmp 2] (runC (envL prog) (b68 (envL prog)) (args ++ List.replicate (6 - args.length) .undef) h)) :=
 call_tr (fn := Go.Proofs.Try.f68) tab68 (by kernel_rfl) (by rfl) (by kernel_rfl) (fun t h => by kernel_rfl) rfl args h
def tab69 : Nat → Cert := fun i => bif Nat.beq i 11 then ⟨9, 54, 680906217249386249846784, 1205088896848329185427456, 112382947811375724488742041453776276374570809350632868170734732734838719881293241590782288705168714390777596721837144699999507108449320042638606848, 609987332706579302352693848719322061433462702010702316706625686780384052692097453976043110735309001855013995224369916608979312574511⟩ else bif Nat.beq i 15 then ⟨9, 77, 680906217249386249846784, 1205088896848329185427456, 23115831598601250764242733299745186244064715112560933823724752031692391757118915468275322643558725747272738064420965321799759590965544320155833376631231322711835302609810875268349228821309506037028511729844225, 21211526881130410853267533183424259031483221315037831563207555260244335392337441166579316541022363516950468447371577672569443599734093801526701739672898498476400484063534686101840588701766⟩ else ⟨0, 0, 0, 0, 0, 0⟩
noncomputable def b69 (E : Env) : CT :=
 .seq (.reg [o 6 (sMov (K (.nilSl)))])
 (.seq (.reg [o 10 (sMov (X 0)),
  o 11 (sMov (X 1)),
  o 12 (sSliceS 2 (X 10) (some (X 11)) none none)])
 (.seq (.reg [o 13 (sMov (X 2)),
  o 14 (sLenSl (X 13)),
  o 7 (sMov (X 14))])
 (.seq (.seq (.reg [o 15 (sMov (X 7)),
  o 16 (sBin .eql .none (X 15) (K (.int .i64 0)))])
 (.ite (X 16)
 (.seq (.reg [o 17 (sMov (X 0)),
  o 6 (sMov (X 17))])
 (.ret))
 (.skip)))
 (.seq (.reg [o 18 (sMov (X 0)),
  o 19 (sLenSl (X 18)),
  o 8 (sMov (X 19))])
 (.seq (.seq (.reg [o 20 (sMov (X 1)),
  o 21 (sMov (X 8)),
  o 22 (sBin .eql .none (X 20) (X 21))])
 (.ite (X 22)
 (.seq (.reg [o 23 (sMov (X 0)),
  o 24 (sMov (X 2)),
  o 25 (sApp (ty 2 true 16 [.int .i64 0, .int .i64 0]) (X 23) (X 24)),
  o 6 (sMov (X 25))])
 (.ret))
 (.skip)))
 (.seq (.seq (.reg [o 26 (sMov (X 8)),
  o 27 (sMov (X 7)),
  o 28 (sBin .add .none (X 26) (X 27)),
  o 29 (sMov (X 0)),
  o 30 (sCapSl (X 29)),
  o 31 (sBin .gtr .none (X 28) (X 30))])
 (.ite (X 31)
 (.seq (.reg [o 32 (sMov (X 0)),
  o 33 (sMov (X 1)),
  o 34 (sSliceS 2 (X 32) none (some (X 33)) none),
  o 35 (sMov (X 8)),
  o 36 (sMov (X 7)),
  o 37 (sBin .add .none (X 35) (X 36)),
  o 38 (sMov (X 1)),
  o 39 (sBin .sub .none (X 37) (X 38)),
  o 40 (sAppN (ty 2 true 16 [.int .i64 0, .int .i64 0]) (X 34) (X 39)),
  o 9 (sMov (X 40))])
 (.seq (.reg [o 41 (sMov (X 9)),
  o 42 (sMov (X 1)),
  o 43 (sSliceS 2 (X 41) (some (X 42)) none none),
  o 44 (sMov (X 2)),
  o 45 (sCopy (ty 2 true 16 [.int .i64 0, .int .i64 0]) (X 43) (X 44))])
 (.seq (.drw [.op (o 46 (sMov (X 9))),
  .op (o 47 (sMov (X 1))),
  .op (o 48 (sMov (X 7))),
  .op (o 49 (sBin .add .none (X 47) (X 48))),
  .op (o 50 (sSliceS 2 (X 46) (some (X 49)) none none)),
  .op (o 51 (sMov (X 0))),
  .op (o 52 (sMov (X 1))),
  .op (o 53 (sSliceS 2 (X 51) (some (X 52)) none none)),
  .hv 255 (o 54 (sCopy (ty 2 true 16 [.int .i64 0, .int .i64 0]) (X 50) (X 53)))])
 (.seq (.reg [o 55 (sMov (X 9)),
  o 6 (sMov (X 55))])
 (.ret)))))
 (.skip)))
 (.seq (.reg [o 56 (sMov (X 0)),
  o 57 (sMov (X 8)),
  o 58 (sMov (X 7)),
  o 59 (sBin .add .none (X 57) (X 58)),
  o 60 (sSliceS 2 (X 56) none (some (X 59)) none),
  o 0 (sMov (X 60))])
 (.seq (.seq (.reg [o 61 (sMov (X 2)),
  o 62 (sMov (X 0)),
  o 63 (sMov (X 1)),
  o 64 (sMov (X 7)),
  o 65 (sBin .add .none (X 63) (X 64)),
  o 66 (sSliceS 2 (X 62) (some (X 65)) none none),
  o 67 (sCall E 70 [(X 61), (X 66)]),
  o 68 (sUn .not (X 67))])
 (.ite (X 68)
 (.seq (.drw [.op (o 69 (sMov (X 0))),
  .op (o 70 (sMov (X 1))),
  .op (o 71 (sMov (X 7))),
  .op (o 72 (sBin .add .none (X 70) (X 71))),
  .op (o 73 (sSliceS 2 (X 69) (some (X 72)) none none)),
  .op (o 74 (sMov (X 0))),
  .op (o 75 (sMov (X 1))),
  .op (o 76 (sSliceS 2 (X 74) (some (X 75)) none none)),
  .hv 255 (o 77 (sCopy (ty 2 true 16 [.int .i64 0, .int .i64 0]) (X 73) (X 76)))])
 (.seq (.reg [o 78 (sMov (X 0)),
  o 79 (sMov (X 1)),
  o 80 (sSliceS 2 (X 78) (some (X 79)) none none),
  o 81 (sMov (X 2)),
  o 82 (sCopy (ty 2 true 16 [.int .i64 0, .int .i64 0]) (X 80) (X 81))])
 (.seq (.reg [o 83 (sMov (X 0)),
  o 6 (sMov (X 83))])
 (.ret))))
 (.skip)))
 (.seq (.reg [o 84 (sMov (X 0)),
  o 85 (sMov (X 8)),
  o 86 (sSliceS 2 (X 84) (some (X 85)) none none),
  o 87 (sMov (X 2)),
  o 88 (sCopy (ty 2 true 16 [.int .i64 0, .int .i64 0]) (X 86) (X 87))])
 (.seq (.reg [o 89 (sMov (X 0)),
  o 90 (sMov (X 1)),
  o 91 (sSliceS 2 (X 89) (some (X 90)) none none),
  o 92 (sMov (X 7)),
  o 93 (sCall E 71 [(X 91), (X 92)])])
 (.seq (.reg [o 94 (sMov (X 0)),
  o 6 (sMov (X 94))])
 (.ret))))))))))))
theorem d69 (E : Env) (args : T) (h : AHeap) : callBody prog E 69 args h = trim h (fin [.tmp 6] (runC E (b69 E) (args ++ List.replicate (95 - args.length) .undef) h)) :=
 body_tr (fn := Go.Proofs.Try.f69) tab69 (by kernel_rfl) (by rfl) (by kernel_rfl) (fun t h => by kernel_rfl) rfl args h
end Go.Proofs.Ythhodjcgcgkaaaa.G11
