/- What the functions that PoolFrees reaches answer, for every argument. No condition but those in each statement. -/
import Derived.Test.YtfioahnogphnfaaE5
import Derived.Test.YtfioahnogphnfaaProg
set_option maxRecDepth 100000
set_option linter.unusedVariables false
namespace Go.Proofs.Ytfioahnogphnfaa.G12
open Go Go.Proofs.Ytfioahnogphnfaa.Eng
noncomputable abbrev prog : Program := Go.Proofs.Try.prog
def tab5 : Nat → Cert := fun i => bif Nat.beq i 10 then ⟨20, 81, 1291122784243965278947807570119852289510829312324054490905134811786169244673526827437652303798624776475941109661366747136, 1291122784244038668733764430809216367505483139827405636497105316436413914520739319800857392113352571634912106949388533760, 23311111409942682465739380233406821744477411984132935588149787061026500999732179520799379777999933598068833963052173471525111696167276164013127103331399382599970069911381332910694850296974347030953615431727522809209780461512078230567608848685465512061775423732929133368220932753049691430762067440136754910671054239952584988540874126480114724590559551003524055241507459494749004580250096574212448620484680852013650233362736182963798421731720791224070136964939071164334822646344044181979137, 250672492399787389212332222727602735489153192224021962725111435882152969534450258649215614171650713722114342592231220292674277956405443067171383774719410158345418295388598365656122181546148199925998278149290131006275420083913365995322699976420178850266814876750289676872728019095889608759606297901032882532971495189902339384741367649159729679871971649079640301472960816917450737974167287849184254152751972911642502336597907865654442663098583538770990395004825894977⟩ else bif Nat.beq i 19 then ⟨15, 121, 13506520756698643926567946194043491632286802939573451172990085496832, 26958712494055879672854489322261027173109895541120147024782162919424, 1172896090235603100444369155849972796861490126752502864125374217592457971030446544175139268991262375450688049993578048858049636424206562358154529391659442105740670056526463632095550110093805086755738390588455271916171381958035198676215728256784388080876280650155299899740326360842159974908884009658981936433902031369730776889608096922976701856875173241122853953507570390776473823511422857491352031398416660311547335220275464245151180043414517604343838265277005555699867294421523554945148006398439391488740315366874950704630985046721412997836709888, 107441604531935398120624385162990690063705294825761792332509181777715420672314042958400282325698649686139377351075522661268179099957177464664622186935812946675563154110406754298260710064299029706644504478199960015646794628415318177965377085278636704022147606251889865348021048089509669729548488125018054711893923757053327160720120317561712953072072206067244123532035263298270929775328386194010135786210826051935609288047385135083073739420040171624420369323717778573054185055024549047287159566138016139021295550572⟩ else bif Nat.beq i 21 then ⟨15, 138, 13506520756698643926567946194043491632286802939573451172990085496832, 26958712494055879672854489322261027173109895541120147024782162919424, 67906044373330111468612533212314359216979353555024858813288238841986482467623107839867403918800904494942558631231826419878954246856122573231860145057127448326197011477567387871771682984858860174373453246360040212009184423987726291023187894434815549439726966544380755590709851940272513399588503034887332771335887011263086653306356849661630952742367263776006984940491541181503113408135490363347828198394425002136389352542881828523640800885978385776195733272652977598104255306890205442808708202886529445166513448886520184697507309826712222907185418619177945839486326898756077592517518276677329070885218313887742881153771642880, 54071251681811212924355834076069932354380968061535781681325044799196683686252910761167468332296500970085329303956320208035317943688187945722276805321242460795612764234714695811072124700601487637680207442995544959948953600083139412252930316223642808571190686473762091792762088296302698777983420023259075861413786540984592702191160895540659676838138182680692292216039905148458372316122969462814400965727240784359202163146185302601825182707876846573296712041284375211812597823851287980211440562425840438576150812058041905553526091434248528436225039520646538624138829036729201496353144957⟩ else ⟨0, 0, 0, 0, 0, 0⟩
noncomputable def l5x0 (E : Env) : CT :=
 .seq (.seq (.reg [o 49 (sMov (X 10)),
  o 50 (sMov (X 0)),
  o 51 (sMov (X 5)),
  o 52 (sIdxAddrS 3 (X 50) (X 51)),
  o 53 (sFieldAddr 2 (X 52)),
  o 54 (sLoad 1 false (X 53)),
  o 55 (sLenSl (X 54)),
  o 56 (sBin .lss .none (X 49) (X 55)),
  o 57 (sMov (X 56)),
  og 57 true 58 (sMov (X 5)),
  og 57 true 59 (sBin .gtr .none (X 58) (K (.int .i64 0))),
  o 60 (sPick (X 57) (X 59) (K (.bool false)))])
 (.ite (X 60)
 (.skip)
 (.exit 0)))
 (.seq (.block 1 (.seq (.drw [.op (o 64 (sMov (X 0))),
  .op (o 65 (sMov (X 5))),
  .op (o 66 (sBin .sub .none (X 65) (K (.int .i64 1)))),
  .op (o 67 (sMov (X 5))),
  .op (o 68 (sSliceS 3 (X 64) (some (X 66)) (some (X 67)) none)),
  .op (o 69 (sMov (X 0))),
  .op (o 70 (sMov (X 5))),
  .op (o 71 (sIdxAddrS 3 (X 69) (X 70))),
  .op (o 72 (sFieldAddr 2 (X 71))),
  .op (o 73 (sLoad 1 false (X 72))),
  .op (o 74 (sMov (X 10))),
  .op (o 75 (sIdxAddrS 2 (X 73) (X 74))),
  .op (o 76 (sFieldAddr 0 (X 75))),
  .op (o 77 (sLoad 1 false (X 76))),
  .hv 16383 (o 78 (sCall E 13 [(X 68), (K (.int .i64 0)), (X 77)])),
  .op (o 63 (sMov (X 78))),
  .op (o 79 (sExtract (X 63) 0)),
  .op (o 80 (sExtract (X 63) 1)),
  .op (o 11 (sMov (X 79))),
  .op (o 12 (sMov (X 80)))])
 (.seq (.reg [o 81 (sMov (X 12)),
  o 82 (sUn .not (X 81))])
 (.ite (X 82)
 (.reg [o 83 (sMov (X 9)),
  o 84 (sBin .sub .none (X 83) (K (.int .i64 1))),
  o 9 (sMov (X 84))])
 (.skip)))))
 (.reg [o 61 (sMov (X 10)),
  o 62 (sBin .add .none (X 61) (K (.int .i64 1))),
  o 10 (sMov (X 62))]))
noncomputable def l5x1 (E : Env) : CT :=
 .seq (.seq (.drw [.op (o 107 (sMov (X 13))),
  .op (o 108 (sMov (X 7))),
  .op (o 109 (sLenSl (X 108))),
  .op (o 110 (sBin .lss .none (X 107) (X 109))),
  .op (o 111 (sMov (X 110))),
  .op (og 111 true 112 (sMov (X 7))),
  .op (og 111 true 113 (sMov (X 13))),
  .op (og 111 true 114 (sIdxAddrS 1 (X 112) (X 113))),
  .op (og 111 true 115 (sLoad 1 false (X 114))),
  .op (og 111 true 116 (sMov (X 8))),
  .op (og 111 true 117 (sMov (X 14))),
  .op (og 111 true 118 (sIdxAddrS 1 (X 116) (X 117))),
  .op (og 111 true 119 (sLoad 1 false (X 118))),
  .op (og 111 true 120 (sBin .lss .none (X 115) (X 119))),
  .op (o 121 (sPick (X 111) (X 120) (K (.bool false))))])
 (.ite (X 121)
 (.skip)
 (.exit 4)))
 (.block 5 (.reg [o 122 (sMov (X 13)),
  o 123 (sBin .add .none (X 122) (K (.int .i64 1))),
  o 13 (sMov (X 123))]))
noncomputable def l5x2 (E : Env) : CT :=
 .seq (.seq (.reg [o 101 (sMov (X 14)),
  o 102 (sMov (X 8)),
  o 103 (sLenSl (X 102)),
  o 104 (sBin .lss .none (X 101) (X 103))])
 (.ite (X 104)
 (.skip)
 (.exit 2)))
 (.seq (.block 3 (.seq (.block 4 (.loop (l5x1 E)))
 (.seq (.drw [.op (o 124 (sMov (X 13))),
  .op (o 125 (sMov (X 7))),
  .op (o 126 (sLenSl (X 125))),
  .op (o 127 (sBin .geq .none (X 124) (X 126))),
  .op (o 128 (sMov (X 127))),
  .op (og 128 false 129 (sMov (X 7))),
  .op (og 128 false 130 (sMov (X 13))),
  .op (og 128 false 131 (sIdxAddrS 1 (X 129) (X 130))),
  .op (og 128 false 132 (sLoad 1 false (X 131))),
  .op (og 128 false 133 (sMov (X 8))),
  .op (og 128 false 134 (sMov (X 14))),
  .op (og 128 false 135 (sIdxAddrS 1 (X 133) (X 134))),
  .op (og 128 false 136 (sLoad 1 false (X 135))),
  .op (og 128 false 137 (sBin .neq .none (X 132) (X 136))),
  .op (o 138 (sPick (X 128) (K (.bool true)) (X 137)))])
 (.ite (X 138)
 (.seq (.reg [o 4 (sMov (K (.bool false)))])
 (.ret))
 (.skip)))))
 (.reg [o 105 (sMov (X 14)),
  o 106 (sBin .add .none (X 105) (K (.int .i64 1))),
  o 14 (sMov (X 106))]))
noncomputable def b5 (E : Env) : CT :=
 .seq (.reg [o 4 (sMov (K (.bool false)))])
 (.seq (.seq (.reg [o 15 (sMov (X 0)),
  o 16 (sLenSl (X 15)),
  o 17 (sBin .eql .none (X 16) (K (.int .i64 0))),
  o 18 (sMov (X 17)),
  og 18 false 19 (sMov (X 0)),
  og 18 false 20 (sLenSl (X 19)),
  og 18 false 21 (sBin .gtr .none (X 20) (K (.int .i64 8))),
  o 22 (sPick (X 18) (K (.bool true)) (X 21)),
  o 23 (sMov (X 22)),
  og 23 false 24 (sMov (X 0)),
  og 23 false 25 (sCall E 11 [(X 24), (K (.int .i64 10)), (K (.int .i64 200))]),
  og 23 false 26 (sUn .not (X 25)),
  o 27 (sPick (X 23) (K (.bool true)) (X 26))])
 (.ite (X 27)
 (.seq (.reg [o 28 (sCall E 7 []),
  o 4 (sMov (X 28))])
 (.ret))
 (.skip)))
 (.seq (.reg [o 29 (sMov (X 1)),
  o 30 (sConv (.int .i64) (X 29)),
  o 31 (sMov (X 0)),
  o 32 (sLenSl (X 31)),
  o 33 (sBin .rem .none (X 30) (X 32)),
  o 5 (sMov (X 33))])
 (.seq (.reg [o 34 (sMov (X 0)),
  o 35 (sMov (X 5)),
  o 36 (sCall E 12 [(X 34), (X 35)]),
  o 6 (sMov (X 36))])
 (.seq (.reg [o 37 (sMov (X 0)),
  o 38 (sBuild [.nilSl, .nilSl, .int .i64 0, .int .i64 0, .int .i64 0, .nilSl] [(1, 1, (X 37))]),
  o 39 (sCall E 8 [(X 38)]),
  o 40 (sMov (X 6)),
  o 41 (sBuild [.nilSl, .nilSl, .int .i64 0, .int .i64 0, .int .i64 0, .nilSl] [(1, 1, (X 40))]),
  o 42 (sCall E 8 [(X 41)]),
  o 7 (sMov (X 39)),
  o 8 (sMov (X 42))])
 (.seq (.reg [o 43 (sMov (X 0)),
  o 44 (sMov (X 5)),
  o 45 (sIdxAddrS 3 (X 43) (X 44)),
  o 46 (sFieldAddr 2 (X 45)),
  o 47 (sLoad 1 false (X 46)),
  o 48 (sLenSl (X 47)),
  o 9 (sMov (X 48))])
 (.seq (.seq (.reg [o 10 (sMov (K (.int .i64 0)))])
 (.block 0 (.loop (l5x0 E))))
 (.seq (.seq (.reg [o 85 (sMov (X 8)),
  o 86 (sLenSl (X 85)),
  o 87 (sMov (X 7)),
  o 88 (sLenSl (X 87)),
  o 89 (sMov (X 9)),
  o 90 (sBin .sub .none (X 88) (X 89)),
  o 91 (sBin .neq .none (X 86) (X 90)),
  o 92 (sMov (X 91)),
  og 92 false 93 (sMov (X 6)),
  og 92 false 94 (sBuild [.nilSl, .nilSl, .int .i64 0, .int .i64 0, .int .i64 0, .nilSl] [(1, 1, (X 93))]),
  og 92 false 95 (sCall E 9 [(X 94), (K (.int .i64 200))]),
  og 92 false 96 (sMov (X 8)),
  og 92 false 97 (sLenSl (X 96)),
  og 92 false 98 (sBin .sub .none (K (.int .i64 200)) (X 97)),
  og 92 false 99 (sBin .neq .none (X 95) (X 98)),
  o 100 (sPick (X 92) (K (.bool true)) (X 99))])
 (.ite (X 100)
 (.seq (.reg [o 4 (sMov (K (.bool false)))])
 (.ret))
 (.skip)))
 (.seq (.reg [o 13 (sMov (K (.int .i64 0)))])
 (.seq (.seq (.reg [o 14 (sMov (K (.int .i64 0)))])
 (.block 2 (.loop (l5x2 E))))
 (.seq (.reg [o 139 (sCall E 7 []),
  o 4 (sMov (X 139))])
 (.ret)))))))))))
theorem c5 (args : T) (h : AHeap) : (envL prog).call 5 args h = trim h (fin [.tmp 4] (runC (envL prog) (b5 (envL prog)) (args ++ List.replicate (140 - args.length) .undef) h)) :=
 call_tr (fn := Go.Proofs.Try.f5) tab5 (by kernel_rfl) (by rfl) (by kernel_rfl) (fun t h => by kernel_rfl) rfl args h
theorem d5 (E : Env) (args : T) (h : AHeap) : callBody prog E 5 args h = trim h (fin [.tmp 4] (runC E (b5 E) (args ++ List.replicate (140 - args.length) .undef) h)) :=
 body_tr (fn := Go.Proofs.Try.f5) tab5 (by kernel_rfl) (by rfl) (by kernel_rfl) (fun t h => by kernel_rfl) rfl args h
def tab7 : Nat → Cert := fun i => ⟨0, 0, 0, 0, 0, 0⟩
noncomputable def b7 (E : Env) : CT :=
 .seq (.reg [o 0 (sMov (K (.bool false)))])
 (.seq (.reg [o 6 (sBuild [.int .i64 0, .int .i64 0] [(0, 1, (K (.int .i64 1))), (1, 1, (K (.int .i64 2)))]),
  o 7 (sBuild [.int .i64 0, .int .i64 0] [(0, 1, (K (.int .i64 3))), (1, 1, (K (.int .i64 0)))]),
  o 8 (sBuildSl 2 2 [.int .i64 0, .int .i64 0] [(0, 2, (X 6)), (2, 2, (X 7))]),
  o 9 (sBuild [.int .i64 0, .nilSl, .nilSl] [(2, 1, (X 8))]),
  o 10 (sBuildSl 3 1 [.int .i64 0, .nilSl, .nilSl] [(0, 3, (X 9))]),
  o 11 (sBuild [.int .i64 0, .int .i64 0] [(0, 1, (K (.int .i64 0))), (1, 1, (K (.int .i64 4)))]),
  o 12 (sBuild [.int .i64 0, .int .i64 0] [(0, 1, (K (.int .i64 1))), (1, 1, (K (.int .i64 255)))]),
  o 13 (sBuildSl 2 2 [.int .i64 0, .int .i64 0] [(0, 2, (X 11)), (2, 2, (X 12))]),
  o 14 (sBuild [.int .i64 0, .int .i64 0, .nilSl] [(0, 1, (K (.int .i64 2))), (2, 1, (X 13))]),
  o 15 (sBuild [.nilSl, .nilSl, .int .i64 0, .int .i64 0, .int .i64 0, .nilSl] [(1, 1, (X 10)), (3, 3, (X 14))]),
  o 1 (sAlloc [.nilSl, .nilSl, .int .i64 0, .int .i64 0, .int .i64 0, .nilSl]),
  u (sStore 6 (X 1) (X 15))])
 (.seq (.reg [o 17 (sLoad 6 true (X 1)),
  o 18 (sCall E 10 [(X 17), (K (.int .i64 6)), (K (.int .i64 2))]),
  o 16 (sMov (X 18)),
  o 19 (sExtract (X 16) 0),
  o 20 (sExtract (X 16) 1),
  o 2 (sMov (X 19)),
  o 3 (sMov (X 20))])
 (.seq (.reg [o 22 (sLoad 6 true (X 1)),
  o 23 (sCall E 10 [(X 22), (K (.int .i64 6)), (K (.int .i64 4))]),
  o 21 (sMov (X 23)),
  o 24 (sExtract (X 21) 0),
  o 25 (sExtract (X 21) 1),
  o 4 (sMov (X 24)),
  o 5 (sMov (X 25))])
 (.seq (.reg [o 26 (sLoad 6 true (X 1)),
  o 27 (sCall E 8 [(X 26)]),
  o 28 (sBuildSl 1 3 [.int .i64 0] [(0, 1, (K (.int .i64 0))), (1, 1, (K (.int .i64 2))), (2, 1, (K (.int .i64 4)))]),
  o 29 (sCall E 14 [(X 27), (X 28)]),
  o 30 (sMov (X 29)),
  og 30 true 31 (sLoad 6 true (X 1)),
  og 30 true 32 (sCall E 9 [(X 31), (K (.int .i64 6))]),
  og 30 true 33 (sBin .eql .none (X 32) (K (.int .i64 3))),
  o 34 (sPick (X 30) (X 33) (K (.bool false))),
  o 35 (sMov (X 34)),
  og 35 true 36 (sMov (X 3)),
  og 35 true 37 (sBin .eql .none (X 36) (K (.int .i64 0))),
  o 38 (sPick (X 35) (X 37) (K (.bool false))),
  o 39 (sMov (X 38)),
  og 39 true 40 (sMov (X 2)),
  og 39 true 41 (sBuildSl 1 2 [.int .i64 0] [(0, 1, (K (.int .i64 1))), (1, 1, (K (.int .i64 3)))]),
  og 39 true 42 (sCall E 14 [(X 40), (X 41)]),
  o 43 (sPick (X 39) (X 42) (K (.bool false))),
  o 44 (sMov (X 43)),
  og 44 true 45 (sMov (X 5)),
  og 44 true 46 (sBin .eql .none (X 45) (K (.int .i64 12))),
  o 47 (sPick (X 44) (X 46) (K (.bool false))),
  o 0 (sMov (X 47))])
 (.ret)))))
theorem d7 (E : Env) (args : T) (h : AHeap) : callBody prog E 7 args h = trim h (fin [.tmp 0] (runC E (b7 E) (args ++ List.replicate (48 - args.length) .undef) h)) :=
 body_tr (fn := Go.Proofs.Try.f7) tab7 (by kernel_rfl) (by rfl) (by kernel_rfl) (fun t h => by kernel_rfl) rfl args h
def tab8 : Nat → Cert := fun i => ⟨0, 0, 0, 0, 0, 0⟩
noncomputable def l8x0 (E : Env) : CT :=
 .seq (.reg [o 21 (sBin .lss .none (X 20) (X 19))])
 (.seq (.ite (X 21)
 (.skip)
 (.exit 2))
 (.seq (.block 3 (.seq (.reg [o 22 (sIdxAddrS 2 (X 18) (X 20)),
  o 23 (sLoad 2 true (X 22)),
  o 7 (sAlloc [.int .i64 0, .int .i64 0]),
  u (sStore 2 (X 7) (X 23))])
 (.reg [o 24 (sMov (X 3)),
  o 25 (sFieldAddr 1 (X 7)),
  o 26 (sLoad 1 false (X 25)),
  o 27 (sBuildSl 1 1 [.int .i64 0] [(0, 1, (X 26))]),
  o 28 (sApp (ty 1 false 8 [.int .i64 0]) (X 24) (X 27)),
  o 3 (sMov (X 28))])))
 (.reg [o 29 (sBin .add .none (X 20) (K (.int .i64 1))),
  o 20 (sMov (X 29))])))
noncomputable def l8x1 (E : Env) : CT :=
 .seq (.reg [o 14 (sBin .lss .none (X 13) (X 12))])
 (.seq (.ite (X 14)
 (.skip)
 (.exit 0))
 (.seq (.block 1 (.seq (.reg [o 15 (sIdxAddrS 3 (X 11) (X 13)),
  o 16 (sLoad 3 true (X 15)),
  o 5 (sAlloc [.int .i64 0, .nilSl, .nilSl]),
  u (sStore 3 (X 5) (X 16))])
 (.seq (.reg [o 17 (sFieldAddr 2 (X 5)),
  o 18 (sLoad 1 false (X 17)),
  o 19 (sLenSl (X 18)),
  o 20 (sMov (K (.int .i64 0)))])
 (.block 2 (.loop (l8x0 E))))))
 (.reg [o 30 (sBin .add .none (X 13) (K (.int .i64 1))),
  o 13 (sMov (X 30))])))
noncomputable def l8x2 (E : Env) : CT :=
 .seq (.reg [o 36 (sBin .lss .none (X 35) (X 34))])
 (.seq (.ite (X 36)
 (.skip)
 (.exit 4))
 (.seq (.block 5 (.seq (.reg [o 37 (sIdxAddrS 2 (X 33) (X 35)),
  o 38 (sLoad 2 true (X 37)),
  o 9 (sAlloc [.int .i64 0, .int .i64 0]),
  u (sStore 2 (X 9) (X 38))])
 (.seq (.reg [o 39 (sFieldAddr 1 (X 9)),
  o 40 (sLoad 1 false (X 39)),
  o 41 (sBin .neq .none (X 40) (K (.int .i64 255)))])
 (.ite (X 41)
 (.reg [o 42 (sMov (X 3)),
  o 43 (sFieldAddr 1 (X 9)),
  o 44 (sLoad 1 false (X 43)),
  o 45 (sBuildSl 1 1 [.int .i64 0] [(0, 1, (X 44))]),
  o 46 (sApp (ty 1 false 8 [.int .i64 0]) (X 42) (X 45)),
  o 3 (sMov (X 46))])
 (.skip)))))
 (.reg [o 47 (sBin .add .none (X 35) (K (.int .i64 1))),
  o 35 (sMov (X 47))])))
noncomputable def b8 (E : Env) : CT :=
 .seq (.reg [o 1 (sBox (X 0)),
  o 2 (sMov (K (.nilSl)))])
 (.seq (.reg [o 3 (sMov (K (.nilSl)))])
 (.seq (.seq (.reg [o 10 (sFieldAddr 1 (X 1)),
  o 11 (sLoad 1 false (X 10)),
  o 12 (sLenSl (X 11)),
  o 13 (sMov (K (.int .i64 0)))])
 (.block 0 (.loop (l8x1 E))))
 (.seq (.seq (.reg [o 31 (sFieldAddr 3 (X 1)),
  o 32 (sFieldAddr 2 (X 31)),
  o 33 (sLoad 1 false (X 32)),
  o 34 (sLenSl (X 33)),
  o 35 (sMov (K (.int .i64 0)))])
 (.block 4 (.loop (l8x2 E))))
 (.seq (.reg [o 48 (sMov (X 3)),
  o 49 (sCall E 15 [(X 48)])])
 (.seq (.reg [o 50 (sMov (X 3)),
  o 51 (sCall E 16 [(X 50)]),
  o 2 (sMov (X 51))])
 (.ret))))))
theorem d8 (E : Env) (args : T) (h : AHeap) : callBody prog E 8 args h = trim h (fin [.tmp 2] (runC E (b8 E) (args ++ List.replicate (52 - args.length) .undef) h)) :=
 body_tr (fn := Go.Proofs.Try.f8) tab8 (by kernel_rfl) (by rfl) (by kernel_rfl) (fun t h => by kernel_rfl) rfl args h
def tab9 : Nat → Cert := fun i => ⟨0, 0, 0, 0, 0, 0⟩
noncomputable def l9x0 (E : Env) : CT :=
 .seq (.reg [o 15 (sBin .lss .none (X 14) (X 13))])
 (.seq (.ite (X 15)
 (.skip)
 (.exit 0))
 (.seq (.block 1 (.seq (.reg [o 16 (sIdxAddrS 1 (X 12) (X 14)),
  o 17 (sLoad 1 false (X 16)),
  o 7 (sMov (X 17))])
 (.seq (.reg [o 18 (sMov (X 7)),
  o 19 (sBin .geq .none (X 18) (K (.int .i64 0))),
  o 20 (sMov (X 19)),
  og 20 true 21 (sMov (X 7)),
  og 20 true 22 (sMov (X 1)),
  og 20 true 23 (sBin .lss .none (X 21) (X 22)),
  o 24 (sPick (X 20) (X 23) (K (.bool false)))])
 (.ite (X 24)
 (.reg [o 25 (sMov (X 5)),
  o 26 (sBin .sub .none (X 25) (K (.int .i64 1))),
  o 5 (sMov (X 26))])
 (.skip)))))
 (.reg [o 27 (sBin .add .none (X 14) (K (.int .i64 1))),
  o 14 (sMov (X 27))])))
noncomputable def b9 (E : Env) : CT :=
 .seq (.reg [o 2 (sBox (X 0)),
  o 4 (sMov (K (.int .i64 0)))])
 (.seq (.seq (.reg [o 8 (sMov (X 1)),
  o 9 (sBin .lss .none (X 8) (K (.int .i64 1)))])
 (.ite (X 9)
 (.seq (.reg [o 4 (sMov (K (.int .i64 0)))])
 (.ret))
 (.skip)))
 (.seq (.reg [o 10 (sMov (X 1)),
  o 5 (sMov (X 10))])
 (.seq (.seq (.reg [o 11 (sLoad 6 true (X 2)),
  o 12 (sCall E 8 [(X 11)]),
  o 13 (sLenSl (X 12)),
  o 14 (sMov (K (.int .i64 0)))])
 (.block 0 (.loop (l9x0 E))))
 (.seq (.reg [o 28 (sMov (X 5)),
  o 4 (sMov (X 28))])
 (.ret)))))
theorem d9 (E : Env) (args : T) (h : AHeap) : callBody prog E 9 args h = trim h (fin [.tmp 4] (runC E (b9 E) (args ++ List.replicate (29 - args.length) .undef) h)) :=
 body_tr (fn := Go.Proofs.Try.f9) tab9 (by kernel_rfl) (by rfl) (by kernel_rfl) (fun t h => by kernel_rfl) rfl args h
def tab10 : Nat → Cert := fun i => bif Nat.beq i 3 then ⟨6, 23, 25922371584, 33539227648, 174224583546189353451639427374625794818080, 747690861519511779272682397446963219⟩ else ⟨0, 0, 0, 0, 0, 0⟩
noncomputable def aq10x0 (E : Env) : CT :=
 .reg [o 9 (sMov (X 26))]
noncomputable def bq10x0 (E : Env) : CT :=
 .block 2 (.seq (.seq (.reg [o 27 (sLoad 1 false (X 8)),
  o 28 (sLenSl (X 27)),
  o 29 (sLoad 1 false (X 5)),
  o 30 (sBin .eql .none (X 28) (X 29))])
 (.ite (X 30)
 (.exit 1)
 (.skip)))
 (.reg [o 31 (sLoad 1 false (X 8)),
  o 32 (sMov (X 9)),
  o 33 (sBuildSl 1 1 [.int .i64 0] [(0, 1, (X 32))]),
  o 34 (sApp (ty 1 false 8 [.int .i64 0]) (X 31) (X 33)),
  u (sStore 1 (X 8) (X 34))]))
noncomputable def kaq10x0 : Code := (nthRange Go.Proofs.Try.f10 0).1
noncomputable def kbq10x0 : Code := (nthRange Go.Proofs.Try.f10 0).2
theorem eaq10x0 (E : Env) (t : T) (h : AHeap) : evalCode prog E kaq10x0 t h = runC E (aq10x0 E) t h := code_tr tab10 (by kernel_rfl) t h
theorem ebq10x0 (E : Env) (t : T) (h : AHeap) : evalCode prog E kbq10x0 t h = runC E (bq10x0 E) t h := code_tr tab10 (by kernel_rfl) t h
noncomputable def b10 (E : Env) : CT :=
 .seq (.reg [o 3 (sBox (X 0)),
  o 5 (sBox (X 2)),
  o 6 (sMov (K (.nilSl))),
  o 7 (sMov (K (.int .i64 0)))])
 (.seq (.block 0 (.seq (.reg [o 11 (sLoad 1 false (X 5)),
  o 12 (sBin .lss .none (X 11) (K (.int .i64 0))),
  o 13 (sMov (X 12)),
  og 13 false 14 (sLoad 1 false (X 5)),
  og 13 false 15 (sBin .gtr .none (X 14) (K (.int .i64 4096))),
  o 16 (sPick (X 13) (K (.bool true)) (X 15)),
  o 10 (sMov (X 16))])
 (.ite (X 10)
 (.seq (.reg [o 6 (sMov (K (.nilSl))),
  o 7 (sMov (K (.int .i64 1)))])
 (.ret))
 (.seq (.drw [.rd 0 (o 18 (sLoad 1 false (X 5))),
  .op (o 19 (sLoad 6 true (X 3))),
  .op (o 20 (sMov (X 1))),
  .hv 6 (o 21 (sCall E 9 [(X 19), (X 20)])),
  .op (o 22 (sBin .gtr .none (X 18) (X 21))),
  .op (o 17 (sMov (X 22)))])
 (.ite (X 17)
 (.seq (.reg [o 6 (sMov (K (.nilSl))),
  o 7 (sMov (K (.int .i64 12)))])
 (.ret))
 (.skip))))))
 (.seq (.reg [o 8 (sAlloc [.nilSl])])
 (.seq (.seq (.reg [o 23 (sLoad 6 true (X 3)),
  o 24 (sMov (X 1)),
  o 25 (sCall E 17 [(X 23), (X 24)])])
 (.block 1 (.range (X 25) [26] kaq10x0 kbq10x0)))
 (.seq (.reg [o 35 (sLoad 1 false (X 8)),
  o 6 (sMov (X 35)),
  o 7 (sMov (K (.int .i64 0)))])
 (.ret)))))
theorem d10 (E : Env) (args : T) (h : AHeap) : callBody prog E 10 args h = trim h (fin [.tmp 6, .tmp 7] (runC E (b10 E) (args ++ List.replicate (36 - args.length) .undef) h)) :=
 body_tr (fn := Go.Proofs.Try.f10) tab10 (by kernel_rfl) (by rfl) (by kernel_rfl) (fun t h => by kernel_rfl) rfl args h
def tab11 : Nat → Cert := fun i => bif Nat.beq i 8 then ⟨38, 65, 123591080793042945603774969924406538139668500422184042109161150932093227982931350996865314193678689492167634675634432270870607690386277600130684113195379899956227492572564623387458074933652023191379790515674693519345338238756401379958811463008731985653007805843669223849791118521052071890937828892671569630314224049942721850347292699529739267050474769742977333712950171826159779649995610431699803492028698830879368249734506356135690240, 243379359098368479526831052749390675968994274052731229243025515492057605234549588297263685383239570248161060067599931677018445593177688010448945193511704933486079676274658341098667352541197683408871610356806381338194374363940385204956653512233467734028444114312397548378049276482681503356117047735393811808865045267897228942115478201912334844044269251839845294108117251687779451743346405216628767568622889307579001401312176430827700224, 177743069977165419839400586496059196327888190556619529092119353174993190401212534189110822636911701137536010553043819641521780760333432942705660766930742079844562290816140968991866701982847770323187567938029957642409785523127529458871365878744073479487232575643066331373758444010438917044712256952470779868811681025557670441632023192349846391623179614393258982598476553385904807003163193195043342439231160696034341907122766680099458304599553488106412606768020486398098403476347432877354933423779313091759546557923017128384775426613940080541211358108396509666352262181412110154778862767997407987477057254353819566369879300461616808533836305569121332302667091779420880750637704271250041931970845556528137948146671457678923544884666239814050251264, 626157385476433819279873399924115462186408651992799141652829666393517991951010469420221657774518691331011036558030046987557181917500504739334917957183930309017718145088217400403364416766871494994030028524106110812546334086131026268187303344909355526507566222275393278341703965205744471602315059407188275122831238339628138984153216586328153329498735016887890641541418253298812836468727792049292438230624347223809297494228834448511622323145118482220210893529264167447019057552560985131786073475749379815872830147514618630374941154962445280728362665109017140612015618730814641157714276468131621958300623598929361463959640928324445509287766178269127708664333771862912104530729660872548909082856764414291557519675981284135093141533⟩ else bif Nat.beq i 13 then ⟨10, 82, 317069886008391487830689317888, 632895782621398835350101558272, 3495959950985713037648777702775481440017705654674549719712995012313383204527667326665630441553370135634093238478895722763936630862452870849105773374404484333215212528063490946880433045726560413038619688170575309597675161392039120463626324003521024, 120009297189264410750349353876664747633010375445211079725867644813370885177516209928478563840657298851592104910110380000196741213615274233507087419691028637732131194455321163133026431166688860594863116939109150055413890154570⟩ else bif Nat.beq i 18 then ⟨11, 99, 675160890514945172616361234353094656, 1328244373212466086062127733431861248, 3367973495033648689385522569405399977115136000026859090301272306272269028819889099018303836098415084946653051416397696797662179372730057019712943553793086425131337581376043290338491638187564774120103084944852403147434102728582081744206080243351724896556671433634028052954077012285235045606709408283027746621612117276583446708352, 1046395124205339180613696336974292429332072850787087714728875514493613719098333979274611059723451466208686100319702270650639604629301522669694439640481302561995318293294264225715884851120720049926633594718299487543838391699133809410834730826779831486496632835424766407643383783274977329297696430751834⟩ else bif Nat.beq i 28 then ⟨8, 139, 4621273811361202432, 9169078204214804736, 27817953874931422193200157252797783625799575190965417185247681684985688156016637528480604565104700038194148569872667968345439160087568221167471871615796486670737412788121697297853431807534135876730056557089694976682733014116407542818745469537618840793970030286963358850110397030940211422949421136755529118801638056952079565077335769600, 11176705733394430945275687193006295969977742981669140904492694214492253717676399609705428669716993656296328956148985504451144121427284122797050265757077188845094932654729828123982727445147941511207224762634835040292827329232698839955761398175537411313593562238196449390032098107480650726397444229⟩ else ⟨0, 0, 0, 0, 0, 0⟩
noncomputable def l11x0 (E : Env) : CT :=
 .seq (.seq (.reg [o 83 (sMov (X 11)),
  o 84 (sMov (X 7)),
  o 85 (sLenSl (X 84)),
  o 86 (sBin .lss .none (X 83) (X 85))])
 (.ite (X 86)
 (.skip)
 (.exit 4)))
 (.seq (.block 5 (.seq (.drw [.op (o 89 (sMov (X 7))),
  .op (o 90 (sMov (X 11))),
  .op (o 91 (sIdxAddrS 1 (X 89) (X 90))),
  .op (o 92 (sLoad 1 false (X 91))),
  .op (o 93 (sFieldAddr 2 (X 9))),
  .op (o 94 (sLoad 1 false (X 93))),
  .op (o 95 (sMov (X 10))),
  .op (o 96 (sIdxAddrS 2 (X 94) (X 95))),
  .op (o 97 (sFieldAddr 1 (X 96))),
  .op (o 98 (sLoad 1 false (X 97))),
  .op (o 99 (sBin .eql .none (X 92) (X 98)))])
 (.ite (X 99)
 (.seq (.reg [o 6 (sMov (K (.bool false)))])
 (.ret))
 (.skip))))
 (.reg [o 87 (sMov (X 11)),
  o 88 (sBin .add .none (X 87) (K (.int .i64 1))),
  o 11 (sMov (X 88))]))
noncomputable def l11x1 (E : Env) : CT :=
 .seq (.seq (.reg [o 66 (sMov (X 10)),
  o 67 (sFieldAddr 2 (X 9)),
  o 68 (sLoad 1 false (X 67)),
  o 69 (sLenSl (X 68)),
  o 70 (sBin .lss .none (X 66) (X 69))])
 (.ite (X 70)
 (.skip)
 (.exit 2)))
 (.seq (.block 3 (.seq (.seq (.drw [.op (o 73 (sFieldAddr 1 (X 9))),
  .op (o 74 (sLoad 1 false (X 73))),
  .op (o 75 (sFieldAddr 2 (X 9))),
  .op (o 76 (sLoad 1 false (X 75))),
  .op (o 77 (sMov (X 10))),
  .op (o 78 (sIdxAddrS 2 (X 76) (X 77))),
  .op (o 79 (sFieldAddr 0 (X 78))),
  .op (o 80 (sLoad 1 false (X 79))),
  .hv 255 (o 81 (sCall E 20 [(X 74), (X 80)])),
  .op (o 82 (sUn .not (X 81)))])
 (.ite (X 82)
 (.seq (.reg [o 6 (sMov (K (.bool false)))])
 (.ret))
 (.skip)))
 (.seq (.reg [o 11 (sMov (K (.int .i64 0)))])
 (.block 4 (.loop (l11x0 E))))))
 (.reg [o 71 (sMov (X 10)),
  o 72 (sBin .add .none (X 71) (K (.int .i64 1))),
  o 10 (sMov (X 72))]))
noncomputable def l11x2 (E : Env) : CT :=
 .seq (.seq (.reg [o 100 (sMov (X 12)),
  o 101 (sFieldAddr 2 (X 9)),
  o 102 (sLoad 1 false (X 101)),
  o 103 (sLenSl (X 102)),
  o 104 (sBin .lss .none (X 100) (X 103))])
 (.ite (X 104)
 (.skip)
 (.exit 6)))
 (.seq (.block 7 (.reg [o 107 (sMov (X 7)),
  o 108 (sFieldAddr 2 (X 9)),
  o 109 (sLoad 1 false (X 108)),
  o 110 (sMov (X 12)),
  o 111 (sIdxAddrS 2 (X 109) (X 110)),
  o 112 (sFieldAddr 1 (X 111)),
  o 113 (sLoad 1 false (X 112)),
  o 114 (sBuildSl 1 1 [.int .i64 0] [(0, 1, (X 113))]),
  o 115 (sApp (ty 1 false 8 [.int .i64 0]) (X 107) (X 114)),
  o 7 (sMov (X 115))]))
 (.reg [o 105 (sMov (X 12)),
  o 106 (sBin .add .none (X 105) (K (.int .i64 1))),
  o 12 (sMov (X 106))]))
noncomputable def l11x3 (E : Env) : CT :=
 .seq (.seq (.reg [o 119 (sMov (X 14)),
  o 120 (sMov (X 13)),
  o 121 (sLenSl (X 120)),
  o 122 (sBin .lss .none (X 119) (X 121)),
  o 123 (sMov (X 122)),
  og 123 true 124 (sMov (X 8)),
  og 123 true 125 (sBin .add .none (X 124) (K (.int .i64 1))),
  og 123 true 126 (sMov (X 0)),
  og 123 true 127 (sLenSl (X 126)),
  og 123 true 128 (sBin .lss .none (X 125) (X 127)),
  o 129 (sPick (X 123) (X 128) (K (.bool false)))])
 (.ite (X 129)
 (.skip)
 (.exit 8)))
 (.seq (.block 9 (.seq (.drw [.op (o 132 (sFieldAddr 2 (X 9))),
  .op (o 133 (sLoad 1 false (X 132))),
  .op (o 134 (sMov (X 13))),
  .op (o 135 (sMov (X 14))),
  .op (o 136 (sIdxAddrS 1 (X 134) (X 135))),
  .op (o 137 (sLoad 1 false (X 136))),
  .hv 63 (o 138 (sCall E 22 [(X 133), (X 137)])),
  .op (o 139 (sBin .lss .none (X 138) (K (.int .i64 0))))])
 (.ite (X 139)
 (.seq (.reg [o 6 (sMov (K (.bool false)))])
 (.ret))
 (.skip))))
 (.reg [o 130 (sMov (X 14)),
  o 131 (sBin .add .none (X 130) (K (.int .i64 1))),
  o 14 (sMov (X 131))]))
noncomputable def l11x4 (E : Env) : CT :=
 .seq (.seq (.reg [o 18 (sMov (X 8)),
  o 19 (sMov (X 0)),
  o 20 (sLenSl (X 19)),
  o 21 (sBin .lss .none (X 18) (X 20))])
 (.ite (X 21)
 (.skip)
 (.exit 0)))
 (.seq (.block 1 (.seq (.reg [o 24 (sMov (X 0)),
  o 25 (sMov (X 8)),
  o 26 (sIdxAddrS 3 (X 24) (X 25)),
  o 27 (sLoad 3 true (X 26)),
  o 9 (sAlloc [.int .i64 0, .nilSl, .nilSl]),
  u (sStore 3 (X 9) (X 27))])
 (.seq (.seq (.drw [.op (o 28 (sFieldAddr 0 (X 9))),
  .op (o 29 (sLoad 1 false (X 28))),
  .op (o 30 (sBin .lss .none (X 29) (K (.int .i64 1)))),
  .op (o 31 (sMov (X 30))),
  .op (og 31 false 32 (sFieldAddr 0 (X 9))),
  .op (og 31 false 33 (sLoad 1 false (X 32))),
  .op (og 31 false 34 (sBin .gtr .none (X 33) (K (.int .i64 1000000)))),
  .op (o 35 (sPick (X 31) (K (.bool true)) (X 34))),
  .op (o 36 (sMov (X 35))),
  .op (og 36 false 37 (sMov (X 8))),
  .op (og 36 false 38 (sBin .gtr .none (X 37) (K (.int .i64 0)))),
  .op (og 36 false 39 (sMov (X 38))),
  .op (og 39 true 40 (sFieldAddr 0 (X 9))),
  .op (og 39 true 41 (sLoad 1 false (X 40))),
  .op (og 39 true 42 (sMov (X 0))),
  .op (og 39 true 43 (sMov (X 8))),
  .op (og 39 true 44 (sBin .sub .none (X 43) (K (.int .i64 1)))),
  .op (og 39 true 45 (sIdxAddrS 3 (X 42) (X 44))),
  .op (og 39 true 46 (sFieldAddr 0 (X 45))),
  .op (og 39 true 47 (sLoad 1 false (X 46))),
  .op (og 39 true 48 (sBin .leq .none (X 41) (X 47))),
  .op (og 36 false 49 (sPick (X 39) (X 48) (K (.bool false)))),
  .op (o 50 (sPick (X 36) (K (.bool true)) (X 49))),
  .op (o 51 (sMov (X 50))),
  .op (og 51 false 52 (sFieldAddr 1 (X 9))),
  .op (og 51 false 53 (sLoad 1 false (X 52))),
  .op (og 51 false 54 (sMov (X 1))),
  .hv 134217727 (og 51 false 55 (sCall E 18 [(X 53), (X 54)])),
  .op (og 51 false 56 (sUn .not (X 55))),
  .op (o 57 (sPick (X 51) (K (.bool true)) (X 56))),
  .op (o 58 (sMov (X 57))),
  .op (og 58 false 59 (sFieldAddr 2 (X 9))),
  .op (og 58 false 60 (sLoad 1 false (X 59))),
  .op (og 58 false 61 (sMov (X 1))),
  .op (og 58 false 62 (sMov (X 2))),
  .hv 34359738367 (og 58 false 63 (sCall E 19 [(X 60), (X 61), (X 62)])),
  .op (og 58 false 64 (sUn .not (X 63))),
  .op (o 65 (sPick (X 58) (K (.bool true)) (X 64)))])
 (.ite (X 65)
 (.seq (.reg [o 6 (sMov (K (.bool false)))])
 (.ret))
 (.skip)))
 (.seq (.seq (.reg [o 10 (sMov (K (.int .i64 0)))])
 (.block 2 (.loop (l11x1 E))))
 (.seq (.seq (.reg [o 12 (sMov (K (.int .i64 0)))])
 (.block 6 (.loop (l11x2 E))))
 (.seq (.reg [o 116 (sFieldAddr 1 (X 9)),
  o 117 (sLoad 1 false (X 116)),
  o 118 (sCall E 21 [(X 117)]),
  o 13 (sMov (X 118))])
 (.seq (.reg [o 14 (sMov (K (.int .i64 0)))])
 (.block 8 (.loop (l11x3 E))))))))))
 (.reg [o 22 (sMov (X 8)),
  o 23 (sBin .add .none (X 22) (K (.int .i64 1))),
  o 8 (sMov (X 23))]))
noncomputable def b11 (E : Env) : CT :=
 .seq (.reg [o 6 (sMov (K (.bool false)))])
 (.seq (.seq (.reg [o 15 (sMov (X 0)),
  o 16 (sLenSl (X 15)),
  o 17 (sBin .gtr .none (X 16) (K (.int .i64 8)))])
 (.ite (X 17)
 (.seq (.reg [o 6 (sMov (K (.bool false)))])
 (.ret))
 (.skip)))
 (.seq (.reg [o 7 (sMov (K (.nilSl)))])
 (.seq (.seq (.reg [o 8 (sMov (K (.int .i64 0)))])
 (.block 0 (.loop (l11x4 E))))
 (.seq (.reg [o 6 (sMov (K (.bool true)))])
 (.ret)))))
theorem c11 (args : T) (h : AHeap) : (envL prog).call 11 args h = trim h (fin [.tmp 6] (runC (envL prog) (b11 (envL prog)) (args ++ List.replicate (140 - args.length) .undef) h)) :=
 call_tr (fn := Go.Proofs.Try.f11) tab11 (by kernel_rfl) (by rfl) (by kernel_rfl) (fun t h => by kernel_rfl) rfl args h
def tab12 : Nat → Cert := fun i => bif Nat.beq i 5 then ⟨11, 28, 1328101688236288039412356468071989248, 1328101688243541594330044260300095488, 260740729362331724371075627168182311526998100162651603994165745741558917572623747212445220865, 43422033652713202766035185496059406722459368605663873215133368010653437001749⟩ else bif Nat.beq i 6 then ⟨11, 38, 995946886283180634205326102042247168, 1328253885236360925894167555163029504, 423075820026374759676044469627668227170086408974666214429912941757861540770874365409241101737627914578308041039908817969610784, 340441200812232165302725510969052109643826695629514208629387312470622912391518637699518313486044958294045⟩ else bif Nat.beq i 7 then ⟨14, 51, 31380527715642717591591199373480650813915496031931082997760, 43934731186416433165201389437000105246478338099625230073856, 48477412468669819810864428888245217094997815741389602761573093374202915504736314737051866400930967855476429201763381490648616342670332212453449985358434144157689869800684104142138433990985270018785883577216768409632, 866817204276964282457650435247928269604495863843326126112998262351906579975174696089077726414712546952197419583450127525305724279012903658079034279287557747397569043045559510499814539304⟩ else ⟨0, 0, 0, 0, 0, 0⟩
noncomputable def b12 (E : Env) : CT :=
 .seq (.reg [o 4 (sMov (K (.nilSl)))])
 (.seq (.reg [o 7 (sMov (X 0)),
  o 8 (sCall E 23 [(X 7)]),
  o 0 (sMov (X 8))])
 (.seq (.seq (.reg [o 9 (sMov (X 1)),
  o 10 (sBin .lss .none (X 9) (K (.int .i64 0))),
  o 11 (sMov (X 10)),
  og 11 false 12 (sMov (X 1)),
  og 11 false 13 (sMov (X 0)),
  og 11 false 14 (sLenSl (X 13)),
  og 11 false 15 (sBin .geq .none (X 12) (X 14)),
  o 16 (sPick (X 11) (K (.bool true)) (X 15))])
 (.ite (X 16)
 (.seq (.reg [o 17 (sMov (X 0)),
  o 4 (sMov (X 17))])
 (.ret))
 (.skip)))
 (.seq (.seq (.reg [o 18 (sMov (X 1)),
  o 19 (sBin .gtr .none (X 18) (K (.int .i64 0)))])
 (.ite (X 19)
 (.seq (.drw [.op (o 20 (sMov (X 0))),
  .op (o 21 (sMov (X 1))),
  .op (o 22 (sBin .sub .none (X 21) (K (.int .i64 1)))),
  .op (o 23 (sIdxAddrS 3 (X 20) (X 22))),
  .op (o 24 (sMov (X 0))),
  .op (o 25 (sMov (X 1))),
  .op (o 26 (sIdxAddrS 3 (X 24) (X 25))),
  .op (o 27 (sLoad 3 true (X 26))),
  .op (o 6 (sAlloc [.int .i64 0, .nilSl, .nilSl])),
  .op (o 5 (sMov (X 23))),
  .hv 1023 (u (sStore 3 (X 6) (X 27)))])
 (.seq (.drw [.op (o 28 (sMov (X 5))),
  .op (o 29 (sMov (X 5))),
  .op (o 30 (sNil (X 29))),
  .op (o 31 (sFieldAddr 1 (X 30))),
  .op (o 32 (sLoad 1 false (X 31))),
  .op (o 33 (sFieldAddr 1 (X 6))),
  .op (o 34 (sLoad 1 false (X 33))),
  .hv 126 (o 35 (sCall E 24 [(X 32), (X 34)])),
  .op (o 36 (sNil (X 28))),
  .op (o 37 (sFieldAddr 1 (X 36))),
  .hv 1023 (u (sStore 1 (X 37) (X 35)))])
 (.drw [.op (o 39 (sMov (X 5))),
  .op (o 40 (sMov (X 5))),
  .op (o 41 (sNil (X 40))),
  .op (o 42 (sFieldAddr 2 (X 41))),
  .op (o 43 (sLoad 1 false (X 42))),
  .op (o 44 (sFieldAddr 2 (X 6))),
  .op (o 45 (sLoad 1 false (X 44))),
  .hv 126 (o 46 (sCall E 25 [(X 43), (X 45)])),
  .op (o 38 (sMov (X 46))),
  .op (o 47 (sExtract (X 38) 0)),
  .op (o 48 (sExtract (X 38) 1)),
  .op (o 49 (sNil (X 39))),
  .op (o 50 (sFieldAddr 2 (X 49))),
  .hv 7167 (u (sStore 1 (X 50) (X 47)))])))
 (.skip)))
 (.seq (.reg [o 51 (sMov (X 0)),
  o 52 (sMov (X 1)),
  o 53 (sMov (X 1)),
  o 54 (sBin .add .none (X 53) (K (.int .i64 1))),
  o 55 (sCall E 26 [(X 51), (X 52), (X 54)]),
  o 4 (sMov (X 55))])
 (.ret)))))
theorem d12 (E : Env) (args : T) (h : AHeap) : callBody prog E 12 args h = trim h (fin [.tmp 4] (runC E (b12 E) (args ++ List.replicate (56 - args.length) .undef) h)) :=
 body_tr (fn := Go.Proofs.Try.f12) tab12 (by kernel_rfl) (by rfl) (by kernel_rfl) (fun t h => by kernel_rfl) rfl args h
def tab13 : Nat → Cert := fun i => ⟨0, 0, 0, 0, 0, 0⟩
noncomputable def aq13x0 (E : Env) : CT :=
 .reg [o 9 (sAlloc [.int .i64 0, .nilSl, .nilSl]),
  u (sStore 3 (X 9) (X 14))]
noncomputable def bq13x0 (E : Env) : CT :=
 .block 1 (.seq (.reg [o 16 (sFieldAddr 2 (X 9)),
  o 17 (sLoad 1 false (X 16)),
  o 18 (sLoad 1 false (X 5)),
  o 19 (sCall E 28 [(X 17), (X 18)]),
  o 15 (sMov (X 19)),
  o 20 (sExtract (X 15) 0),
  o 21 (sExtract (X 15) 1),
  u (sStore 1 (X 6) (X 20)),
  u (sStore 1 (X 7) (X 21))])
 (.seq (.reg [o 22 (sLoad 1 false (X 7))])
 (.ite (X 22)
 (.seq (.reg [o 23 (sLoad 1 false (X 6)),
  u (sStore 1 (X 6) (X 23)),
  u (sStore 1 (X 7) (K (.bool true)))])
 (.ret))
 (.skip))))
noncomputable def kaq13x0 : Code := (nthRange Go.Proofs.Try.f13 0).1
noncomputable def kbq13x0 : Code := (nthRange Go.Proofs.Try.f13 0).2
theorem eaq13x0 (E : Env) (t : T) (h : AHeap) : evalCode prog E kaq13x0 t h = runC E (aq13x0 E) t h := code_tr tab13 (by kernel_rfl) t h
theorem ebq13x0 (E : Env) (t : T) (h : AHeap) : evalCode prog E kbq13x0 t h = runC E (bq13x0 E) t h := code_tr tab13 (by kernel_rfl) t h
noncomputable def b13 (E : Env) : CT :=
 .seq (.reg [o 5 (sBox (X 2)),
  o 6 (sAlloc [.int .i64 0]),
  o 7 (sAlloc [.bool false])])
 (.seq (.seq (.reg [o 10 (sMov (X 0)),
  o 11 (sMov (X 1)),
  o 12 (sCall E 27 [(X 10), (X 11)])])
 (.block 0 (.range (X 12) [13, 14] kaq13x0 kbq13x0)))
 (.seq (.reg [u (sStore 1 (X 6) (K (.int .i64 0))),
  u (sStore 1 (X 7) (K (.bool false)))])
 (.ret)))
theorem c13 (args : T) (h : AHeap) : (envL prog).call 13 args h = trim h (fin [.cell 6 1 false, .cell 7 1 false] (runC (envL prog) (b13 (envL prog)) (args ++ List.replicate (24 - args.length) .undef) h)) :=
 call_tr (fn := Go.Proofs.Try.f13) tab13 (by kernel_rfl) (by rfl) (by kernel_rfl) (fun t h => by kernel_rfl) rfl args h
def tab14 : Nat → Cert := fun i => bif Nat.beq i 6 then ⟨9, 25, 642833002171759447506944, 1205237335491016659828736, 28644943735582074826047332177877539589708590883724224647809306984449, 41780390347995922719512288248198774037700430168845219084107794⟩ else ⟨0, 0, 0, 0, 0, 0⟩
noncomputable def l14x0 (E : Env) : CT :=
 .seq (.seq (.reg [o 11 (sMov (X 5)),
  o 12 (sMov (X 0)),
  o 13 (sLenSl (X 12)),
  o 14 (sBin .lss .none (X 11) (X 13))])
 (.ite (X 14)
 (.skip)
 (.exit 0)))
 (.seq (.block 1 (.seq (.drw [.op (o 17 (sMov (X 0))),
  .op (o 18 (sMov (X 5))),
  .op (o 19 (sIdxAddrS 1 (X 17) (X 18))),
  .op (o 20 (sLoad 1 false (X 19))),
  .op (o 21 (sMov (X 1))),
  .op (o 22 (sMov (X 5))),
  .op (o 23 (sIdxAddrS 1 (X 21) (X 22))),
  .op (o 24 (sLoad 1 false (X 23))),
  .op (o 25 (sBin .neq .none (X 20) (X 24)))])
 (.ite (X 25)
 (.seq (.reg [o 4 (sMov (K (.bool false)))])
 (.ret))
 (.skip))))
 (.reg [o 15 (sMov (X 5)),
  o 16 (sBin .add .none (X 15) (K (.int .i64 1))),
  o 5 (sMov (X 16))]))
noncomputable def b14 (E : Env) : CT :=
 .seq (.reg [o 4 (sMov (K (.bool false)))])
 (.seq (.seq (.reg [o 6 (sMov (X 0)),
  o 7 (sLenSl (X 6)),
  o 8 (sMov (X 1)),
  o 9 (sLenSl (X 8)),
  o 10 (sBin .neq .none (X 7) (X 9))])
 (.ite (X 10)
 (.seq (.reg [o 4 (sMov (K (.bool false)))])
 (.ret))
 (.skip)))
 (.seq (.seq (.reg [o 5 (sMov (K (.int .i64 0)))])
 (.block 0 (.loop (l14x0 E))))
 (.seq (.reg [o 4 (sMov (K (.bool true)))])
 (.ret))))
theorem c14 (args : T) (h : AHeap) : (envL prog).call 14 args h = trim h (fin [.tmp 4] (runC (envL prog) (b14 (envL prog)) (args ++ List.replicate (26 - args.length) .undef) h)) :=
 call_tr (fn := Go.Proofs.Try.f14) tab14 (by kernel_rfl) (by rfl) (by kernel_rfl) (fun t h => by kernel_rfl) rfl args h
def tab16 : Nat → Cert := fun i => bif Nat.beq i 6 then ⟨10, 25, 326971007360474210652352675840, 632877634534691839980386385920, 932895263682960510679373386348352327327762612020585652427584328757984362497, 1401917266865285525169130149188584885931384520471265422282797254443025⟩ else bif Nat.beq i 11 then ⟨10, 44, 326971007360474210652352675840, 632877634534691839980386385920, 1463969598495830593511747798607698204145328610191351964684210808364695591188871615247655913539840576533047148171746442691451465760784, 7262577782119834064163686946268206428521138543820301156102815424411072455104353659169724590704609557155119228510162386980⟩ else ⟨0, 0, 0, 0, 0, 0⟩
noncomputable def l16x0 (E : Env) : CT :=
 .seq (.seq (.reg [o 29 (sMov (X 5)),
  o 30 (sMov (X 4)),
  o 31 (sLenSl (X 30)),
  o 32 (sBin .lss .none (X 29) (X 31))])
 (.ite (X 32)
 (.skip)
 (.exit 2)))
 (.seq (.block 3 (.seq (.drw [.op (o 35 (sMov (X 4))),
  .op (o 36 (sMov (X 5))),
  .op (o 37 (sIdxAddrS 1 (X 35) (X 36))),
  .op (o 38 (sLoad 1 false (X 37))),
  .op (o 39 (sMov (X 4))),
  .op (o 40 (sMov (X 5))),
  .op (o 41 (sBin .sub .none (X 40) (K (.int .i64 1)))),
  .op (o 42 (sIdxAddrS 1 (X 39) (X 41))),
  .op (o 43 (sLoad 1 false (X 42))),
  .op (o 44 (sBin .neq .none (X 38) (X 43)))])
 (.ite (X 44)
 (.seq (.reg [o 45 (sMov (X 0)),
  o 46 (sMov (X 3)),
  o 47 (sMov (X 4)),
  o 48 (sMov (X 5)),
  o 49 (sIdxAddrS 1 (X 47) (X 48)),
  o 50 (sLoad 1 false (X 49)),
  o 51 (sIdxAddrS 1 (X 45) (X 46)),
  u (sStore 1 (X 51) (X 50))])
 (.reg [o 52 (sMov (X 3)),
  o 53 (sBin .add .none (X 52) (K (.int .i64 1))),
  o 3 (sMov (X 53))]))
 (.skip))))
 (.reg [o 33 (sMov (X 5)),
  o 34 (sBin .add .none (X 33) (K (.int .i64 1))),
  o 5 (sMov (X 34))]))
noncomputable def l16x1 (E : Env) : CT :=
 .seq (.seq (.reg [o 10 (sMov (X 3)),
  o 11 (sMov (X 0)),
  o 12 (sLenSl (X 11)),
  o 13 (sBin .lss .none (X 10) (X 12))])
 (.ite (X 13)
 (.skip)
 (.exit 0)))
 (.seq (.block 1 (.seq (.drw [.op (o 16 (sMov (X 0))),
  .op (o 17 (sMov (X 3))),
  .op (o 18 (sIdxAddrS 1 (X 16) (X 17))),
  .op (o 19 (sLoad 1 false (X 18))),
  .op (o 20 (sMov (X 0))),
  .op (o 21 (sMov (X 3))),
  .op (o 22 (sBin .sub .none (X 21) (K (.int .i64 1)))),
  .op (o 23 (sIdxAddrS 1 (X 20) (X 22))),
  .op (o 24 (sLoad 1 false (X 23))),
  .op (o 25 (sBin .eql .none (X 19) (X 24)))])
 (.ite (X 25)
 (.seq (.reg [o 26 (sMov (X 0)),
  o 27 (sMov (X 3)),
  o 28 (sSliceS 1 (X 26) (some (X 27)) none none),
  o 4 (sMov (X 28))])
 (.seq (.seq (.reg [o 5 (sMov (K (.int .i64 1)))])
 (.block 2 (.loop (l16x0 E))))
 (.seq (.reg [o 54 (sMov (X 0)),
  o 55 (sMov (X 3)),
  o 56 (sSliceS 1 (X 54) (some (X 55)) none none),
  u (sClear (ty 1 false 8 [.int .i64 0]) (X 56))])
 (.seq (.reg [o 57 (sMov (X 0)),
  o 58 (sMov (X 3)),
  o 59 (sSliceS 1 (X 57) none (some (X 58)) none),
  o 2 (sMov (X 59))])
 (.ret)))))
 (.skip))))
 (.reg [o 14 (sMov (X 3)),
  o 15 (sBin .add .none (X 14) (K (.int .i64 1))),
  o 3 (sMov (X 15))]))
noncomputable def b16 (E : Env) : CT :=
 .seq (.reg [o 2 (sMov (K (.nilSl)))])
 (.seq (.seq (.reg [o 6 (sMov (X 0)),
  o 7 (sLenSl (X 6)),
  o 8 (sBin .lss .none (X 7) (K (.int .i64 2)))])
 (.ite (X 8)
 (.seq (.reg [o 9 (sMov (X 0)),
  o 2 (sMov (X 9))])
 (.ret))
 (.skip)))
 (.seq (.seq (.reg [o 3 (sMov (K (.int .i64 1)))])
 (.block 0 (.loop (l16x1 E))))
 (.seq (.reg [o 60 (sMov (X 0)),
  o 2 (sMov (X 60))])
 (.ret))))
theorem c16 (args : T) (h : AHeap) : (envL prog).call 16 args h = trim h (fin [.tmp 2] (runC (envL prog) (b16 (envL prog)) (args ++ List.replicate (61 - args.length) .undef) h)) :=
 call_tr (fn := Go.Proofs.Try.f16) tab16 (by kernel_rfl) (by rfl) (by kernel_rfl) (fun t h => by kernel_rfl) rfl args h
def tab17 : Nat → Cert := fun i => ⟨0, 0, 0, 0, 0, 0⟩
noncomputable def b17 (E : Env) : CT :=
 .seq (.reg [o 2 (sBox (X 0)),
  o 3 (sBox (X 1)),
  o 4 (sMov (K (.nilFn)))])
 (.seq (.reg [o 5 (sFun 31 [(X 2), (X 3)]),
  o 4 (sMov (X 5))])
 (.ret))
theorem c17 (args : T) (h : AHeap) : (envL prog).call 17 args h = trim h (fin [.tmp 4] (runC (envL prog) (b17 (envL prog)) (args ++ List.replicate (6 - args.length) .undef) h)) :=
 call_tr (fn := Go.Proofs.Try.f17) tab17 (by kernel_rfl) (by rfl) (by kernel_rfl) (fun t h => by kernel_rfl) rfl args h
def tab18 : Nat → Cert := fun i => ⟨0, 0, 0, 0, 0, 0⟩
noncomputable def l18x0 (E : Env) : CT :=
 .seq (.seq (.reg [o 14 (sMov (X 5)),
  o 15 (sMov (X 0)),
  o 16 (sLenSl (X 15)),
  o 17 (sBin .mul .none (K (.int .i64 8)) (X 16)),
  o 18 (sBin .lss .none (X 14) (X 17))])
 (.ite (X 18)
 (.skip)
 (.exit 0)))
 (.seq (.block 1 (.seq (.reg [o 21 (sMov (X 0)),
  o 22 (sMov (X 5)),
  o 23 (sCall E 20 [(X 21), (X 22)])])
 (.ite (X 23)
 (.seq (.reg [o 4 (sMov (K (.bool false)))])
 (.ret))
 (.skip))))
 (.reg [o 19 (sMov (X 5)),
  o 20 (sBin .add .none (X 19) (K (.int .i64 1))),
  o 5 (sMov (X 20))]))
noncomputable def b18 (E : Env) : CT :=
 .seq (.reg [o 4 (sMov (K (.bool false)))])
 (.seq (.seq (.reg [o 6 (sMov (X 0)),
  o 7 (sLenSl (X 6)),
  o 8 (sMov (X 1)),
  o 9 (sCall E 33 [(X 8)]),
  o 10 (sLenSl (X 9)),
  o 11 (sBin .neq .none (X 7) (X 10))])
 (.ite (X 11)
 (.seq (.reg [o 4 (sMov (K (.bool false)))])
 (.ret))
 (.skip)))
 (.seq (.seq (.reg [o 12 (sMov (X 1)),
  o 13 (sMax [(K (.int .i64 0)), (X 12)]),
  o 5 (sMov (X 13))])
 (.block 0 (.loop (l18x0 E))))
 (.seq (.reg [o 4 (sMov (K (.bool true)))])
 (.ret))))
theorem c18 (args : T) (h : AHeap) : (envL prog).call 18 args h = trim h (fin [.tmp 4] (runC (envL prog) (b18 (envL prog)) (args ++ List.replicate (24 - args.length) .undef) h)) :=
 call_tr (fn := Go.Proofs.Try.f18) tab18 (by kernel_rfl) (by rfl) (by kernel_rfl) (fun t h => by kernel_rfl) rfl args h
def tab19 : Nat → Cert := fun i => bif Nat.beq i 5 then ⟨35, 54, 144456706240742981253486938374969308533123264002620000681016550140940253929527120781808113596246415559588982351890878079397792769697254485239022099675621311049157380824964577029222200946777355783001768362621860261725534632731675630217324692389378082841641421990937063765867598618010837991518763239128842681689613669332762054546092433501921137109431498623997324088573952, 288878149018735126432926659676826792261178797128031392956774616214939589884509551620059743572313814691738715893108607009114062911916276416050642609584127244776172830745860665777805220586891026465120651774165449405011584273751568869088427802074488460214714729002607837296636654041261806413249880688608159492937650675323939145843618222543003598383311026073218442034413568, 44229784206561672429893437339037386784259271102677553716410146472340358793404465046211112429062104804855459834226842340084834730867527084048169953153570209926118649392904435171806503065386605183252795305392843925373863132967669290950875946589306724190766513360090643108065373644313703892443249180625752623817025758509668122690431020009228199314515124033100959664669467755330992796113518279749835441885390973083179205000717835264721305985134416389164002101468444099248431043838641692619142884421431437327240219340308676758246626537488613854785205993669184242475622990080, 270044122031432679258317848931287541416898229210046106854921639519170262810144933030667189034706973094997009217778226633370741766206342450924657117750348353810997371095044221710537780679457271360367266048042120846891015005410406138289934477152860353207474720418934662215896122987230146314759783031126939802661263544856925968416176318219332204197448288403620125725748185725313099957565849473268454870011931895413926657804287554967318000385964693181317512182115186281732562948772194447407702125857087376297235727201432422653246956914802164093057366881206293⟩ else bif Nat.beq i 10 then ⟨8, 67, 5773614756716019712, 9160321706613735424, 140591056079474886963210401186270428235110358827524880905723735898270829006881166179088429663677163340969020795534910783594490040318026827612183437665589725757441, 103651807334710679558284138487803516497591328517300419146875112630728913876326142734175096983865593647941495051041647169322716650609505487290429⟩ else ⟨0, 0, 0, 0, 0, 0⟩
noncomputable def l19x0 (E : Env) : CT :=
 .seq (.seq (.reg [o 55 (sMov (X 9)),
  o 56 (sMov (X 7)),
  o 57 (sBin .lss .none (X 55) (X 56))])
 (.ite (X 57)
 (.skip)
 (.exit 2)))
 (.seq (.block 3 (.seq (.drw [.op (o 60 (sMov (X 0))),
  .op (o 61 (sMov (X 9))),
  .op (o 62 (sIdxAddrS 2 (X 60) (X 61))),
  .op (o 63 (sFieldAddr 1 (X 62))),
  .op (o 64 (sLoad 1 false (X 63))),
  .op (o 65 (sFieldAddr 1 (X 8))),
  .op (o 66 (sLoad 1 false (X 65))),
  .op (o 67 (sBin .eql .none (X 64) (X 66)))])
 (.ite (X 67)
 (.seq (.reg [o 6 (sMov (K (.bool false)))])
 (.ret))
 (.skip))))
 (.reg [o 58 (sMov (X 9)),
  o 59 (sBin .add .none (X 58) (K (.int .i64 1))),
  o 9 (sMov (X 59))]))
noncomputable def l19x1 (E : Env) : CT :=
 .seq (.seq (.reg [o 10 (sMov (X 7)),
  o 11 (sMov (X 0)),
  o 12 (sLenSl (X 11)),
  o 13 (sBin .lss .none (X 10) (X 12))])
 (.ite (X 13)
 (.skip)
 (.exit 0)))
 (.seq (.block 1 (.seq (.reg [o 16 (sMov (X 0)),
  o 17 (sMov (X 7)),
  o 18 (sIdxAddrS 2 (X 16) (X 17)),
  o 19 (sLoad 2 true (X 18)),
  o 8 (sAlloc [.int .i64 0, .int .i64 0]),
  u (sStore 2 (X 8) (X 19))])
 (.seq (.seq (.drw [.op (o 20 (sFieldAddr 0 (X 8))),
  .op (o 21 (sLoad 1 false (X 20))),
  .op (o 22 (sBin .lss .none (X 21) (K (.int .i64 0)))),
  .op (o 23 (sMov (X 22))),
  .op (og 23 false 24 (sFieldAddr 0 (X 8))),
  .op (og 23 false 25 (sLoad 1 false (X 24))),
  .op (og 23 false 26 (sMov (X 1))),
  .op (og 23 false 27 (sBin .geq .none (X 25) (X 26))),
  .op (o 28 (sPick (X 23) (K (.bool true)) (X 27))),
  .op (o 29 (sMov (X 28))),
  .op (og 29 false 30 (sFieldAddr 1 (X 8))),
  .op (og 29 false 31 (sLoad 1 false (X 30))),
  .op (og 29 false 32 (sBin .lss .none (X 31) (K (.int .i64 0)))),
  .op (o 33 (sPick (X 29) (K (.bool true)) (X 32))),
  .op (o 34 (sMov (X 33))),
  .op (og 34 false 35 (sFieldAddr 1 (X 8))),
  .op (og 34 false 36 (sLoad 1 false (X 35))),
  .op (og 34 false 37 (sMov (X 2))),
  .op (og 34 false 38 (sBin .geq .none (X 36) (X 37))),
  .op (o 39 (sPick (X 34) (K (.bool true)) (X 38))),
  .op (o 40 (sMov (X 39))),
  .op (og 40 false 41 (sMov (X 7))),
  .op (og 40 false 42 (sBin .gtr .none (X 41) (K (.int .i64 0)))),
  .op (og 40 false 43 (sMov (X 42))),
  .op (og 43 true 44 (sFieldAddr 0 (X 8))),
  .op (og 43 true 45 (sLoad 1 false (X 44))),
  .op (og 43 true 46 (sMov (X 0))),
  .op (og 43 true 47 (sMov (X 7))),
  .op (og 43 true 48 (sBin .sub .none (X 47) (K (.int .i64 1)))),
  .op (og 43 true 49 (sIdxAddrS 2 (X 46) (X 48))),
  .op (og 43 true 50 (sFieldAddr 0 (X 49))),
  .op (og 43 true 51 (sLoad 1 false (X 50))),
  .op (og 43 true 52 (sBin .leq .none (X 45) (X 51))),
  .op (og 40 false 53 (sPick (X 43) (X 52) (K (.bool false)))),
  .op (o 54 (sPick (X 40) (K (.bool true)) (X 53)))])
 (.ite (X 54)
 (.seq (.reg [o 6 (sMov (K (.bool false)))])
 (.ret))
 (.skip)))
 (.seq (.reg [o 9 (sMov (K (.int .i64 0)))])
 (.block 2 (.loop (l19x0 E)))))))
 (.reg [o 14 (sMov (X 7)),
  o 15 (sBin .add .none (X 14) (K (.int .i64 1))),
  o 7 (sMov (X 15))]))
noncomputable def b19 (E : Env) : CT :=
 .seq (.reg [o 6 (sMov (K (.bool false)))])
 (.seq (.seq (.reg [o 7 (sMov (K (.int .i64 0)))])
 (.block 0 (.loop (l19x1 E))))
 (.seq (.reg [o 6 (sMov (K (.bool true)))])
 (.ret)))
theorem c19 (args : T) (h : AHeap) : (envL prog).call 19 args h = trim h (fin [.tmp 6] (runC (envL prog) (b19 (envL prog)) (args ++ List.replicate (68 - args.length) .undef) h)) :=
 call_tr (fn := Go.Proofs.Try.f19) tab19 (by kernel_rfl) (by rfl) (by kernel_rfl) (fun t h => by kernel_rfl) rfl args h
def tab20 : Nat → Cert := fun i => ⟨0, 0, 0, 0, 0, 0⟩
noncomputable def b20 (E : Env) : CT :=
 .seq (.reg [o 4 (sMov (K (.bool false)))])
 (.seq (.reg [o 5 (sMov (X 1)),
  o 6 (sBin .geq .none (X 5) (K (.int .i64 0))),
  o 7 (sMov (X 6)),
  og 7 true 8 (sMov (X 1)),
  og 7 true 9 (sBin .quo .none (X 8) (K (.int .i64 8))),
  og 7 true 10 (sMov (X 0)),
  og 7 true 11 (sLenSl (X 10)),
  og 7 true 12 (sBin .lss .none (X 9) (X 11)),
  o 13 (sPick (X 7) (X 12) (K (.bool false))),
  o 14 (sMov (X 13)),
  og 14 true 15 (sMov (X 0)),
  og 14 true 16 (sMov (X 1)),
  og 14 true 17 (sBin .quo .none (X 16) (K (.int .i64 8))),
  og 14 true 18 (sIdxAddrS 1 (X 15) (X 17)),
  og 14 true 19 (sLoad 1 false (X 18)),
  og 14 true 20 (sMov (X 1)),
  og 14 true 21 (sBin .rem .none (X 20) (K (.int .i64 8))),
  og 14 true 22 (sConv (.int .u64) (X 21)),
  og 14 true 23 (sBin .shr .none (X 19) (X 22)),
  og 14 true 24 (sBin .and .none (X 23) (K (.int .u8 1))),
  og 14 true 25 (sBin .eql .none (X 24) (K (.int .u8 1))),
  o 26 (sPick (X 14) (X 25) (K (.bool false))),
  o 4 (sMov (X 26))])
 (.ret))
theorem c20 (args : T) (h : AHeap) : (envL prog).call 20 args h = trim h (fin [.tmp 4] (runC (envL prog) (b20 (envL prog)) (args ++ List.replicate (27 - args.length) .undef) h)) :=
 call_tr (fn := Go.Proofs.Try.f20) tab20 (by kernel_rfl) (by rfl) (by kernel_rfl) (fun t h => by kernel_rfl) rfl args h
def tab21 : Nat → Cert := fun i => ⟨0, 0, 0, 0, 0, 0⟩
noncomputable def l21x0 (E : Env) : CT :=
 .seq (.seq (.reg [o 5 (sMov (X 4)),
  o 6 (sMov (X 0)),
  o 7 (sLenSl (X 6)),
  o 8 (sBin .mul .none (K (.int .i64 8)) (X 7)),
  o 9 (sBin .lss .none (X 5) (X 8))])
 (.ite (X 9)
 (.skip)
 (.exit 0)))
 (.seq (.block 1 (.seq (.reg [o 12 (sMov (X 0)),
  o 13 (sMov (X 4)),
  o 14 (sCall E 20 [(X 12), (X 13)])])
 (.ite (X 14)
 (.reg [o 15 (sMov (X 3)),
  o 16 (sMov (X 4)),
  o 17 (sBuildSl 1 1 [.int .i64 0] [(0, 1, (X 16))]),
  o 18 (sApp (ty 1 false 8 [.int .i64 0]) (X 15) (X 17)),
  o 3 (sMov (X 18))])
 (.skip))))
 (.reg [o 10 (sMov (X 4)),
  o 11 (sBin .add .none (X 10) (K (.int .i64 1))),
  o 4 (sMov (X 11))]))
noncomputable def b21 (E : Env) : CT :=
 .seq (.reg [o 2 (sMov (K (.nilSl)))])
 (.seq (.reg [o 3 (sMov (K (.nilSl)))])
 (.seq (.seq (.reg [o 4 (sMov (K (.int .i64 0)))])
 (.block 0 (.loop (l21x0 E))))
 (.seq (.reg [o 19 (sMov (X 3)),
  o 2 (sMov (X 19))])
 (.ret))))
theorem c21 (args : T) (h : AHeap) : (envL prog).call 21 args h = trim h (fin [.tmp 2] (runC (envL prog) (b21 (envL prog)) (args ++ List.replicate (20 - args.length) .undef) h)) :=
 call_tr (fn := Go.Proofs.Try.f21) tab21 (by kernel_rfl) (by rfl) (by kernel_rfl) (fun t h => by kernel_rfl) rfl args h
def tab22 : Nat → Cert := fun i => ⟨0, 0, 0, 0, 0, 0⟩
noncomputable def l22x0 (E : Env) : CT :=
 .seq (.seq (.reg [o 6 (sMov (X 5)),
  o 7 (sMov (X 0)),
  o 8 (sLenSl (X 7)),
  o 9 (sBin .lss .none (X 6) (X 8))])
 (.ite (X 9)
 (.skip)
 (.exit 0)))
 (.seq (.block 1 (.seq (.reg [o 12 (sMov (X 0)),
  o 13 (sMov (X 5)),
  o 14 (sIdxAddrS 2 (X 12) (X 13)),
  o 15 (sFieldAddr 0 (X 14)),
  o 16 (sLoad 1 false (X 15)),
  o 17 (sMov (X 1)),
  o 18 (sBin .eql .none (X 16) (X 17))])
 (.ite (X 18)
 (.seq (.reg [o 19 (sMov (X 5)),
  o 4 (sMov (X 19))])
 (.ret))
 (.skip))))
 (.reg [o 10 (sMov (X 5)),
  o 11 (sBin .add .none (X 10) (K (.int .i64 1))),
  o 5 (sMov (X 11))]))
noncomputable def b22 (E : Env) : CT :=
 .seq (.reg [o 4 (sMov (K (.int .i64 0)))])
 (.seq (.seq (.reg [o 5 (sMov (K (.int .i64 0)))])
 (.block 0 (.loop (l22x0 E))))
 (.seq (.reg [o 4 (sMov (K (.int .i64 (-1))))])
 (.ret)))
theorem c22 (args : T) (h : AHeap) : (envL prog).call 22 args h = trim h (fin [.tmp 4] (runC (envL prog) (b22 (envL prog)) (args ++ List.replicate (20 - args.length) .undef) h)) :=
 call_tr (fn := Go.Proofs.Try.f22) tab22 (by kernel_rfl) (by rfl) (by kernel_rfl) (fun t h => by kernel_rfl) rfl args h
def tab23 : Nat → Cert := fun i => bif Nat.beq i 4 then ⟨6, 15, 33505157120, 33539235840, 619282876566297638545129480, 17294315164270985227⟩ else ⟨0, 0, 0, 0, 0, 0⟩
noncomputable def aq23x0 (E : Env) : CT :=
 .reg [o 5 (sAlloc [.int .i64 0, .nilSl, .nilSl]),
  u (sStore 3 (X 5) (X 9))]
noncomputable def bq23x0 (E : Env) : CT :=
 .block 1 (.drw [.rd 0 (o 10 (sLoad 1 false (X 3))),
  .op (o 11 (sLoad 3 true (X 5))),
  .hv 2 (o 12 (sCall E 34 [(X 11)])),
  .op (o 13 (sBuildSl 3 1 [.int .i64 0, .nilSl, .nilSl] [(0, 3, (X 12))])),
  .hv 15 (o 14 (sApp (ty 3 true 56 [.int .i64 0, .nilSl, .nilSl]) (X 10) (X 13))),
  .hv 31 (u (sStore 1 (X 3) (X 14)))])
noncomputable def kaq23x0 : Code := (nthRange Go.Proofs.Try.f23 0).1
noncomputable def kbq23x0 : Code := (nthRange Go.Proofs.Try.f23 0).2
theorem eaq23x0 (E : Env) (t : T) (h : AHeap) : evalCode prog E kaq23x0 t h = runC E (aq23x0 E) t h := code_tr tab23 (by kernel_rfl) t h
theorem ebq23x0 (E : Env) (t : T) (h : AHeap) : evalCode prog E kbq23x0 t h = runC E (bq23x0 E) t h := code_tr tab23 (by kernel_rfl) t h
noncomputable def b23 (E : Env) : CT :=
 .seq (.reg [o 2 (sMov (K (.nilSl)))])
 (.seq (.reg [o 3 (sAlloc [.nilSl])])
 (.seq (.seq (.reg [o 6 (sMov (X 0)),
  o 7 (sCall E 27 [(X 6), (K (.int .i64 0))])])
 (.block 0 (.range (X 7) [8, 9] kaq23x0 kbq23x0)))
 (.seq (.reg [o 15 (sLoad 1 false (X 3)),
  o 2 (sMov (X 15))])
 (.ret))))
theorem c23 (args : T) (h : AHeap) : (envL prog).call 23 args h = trim h (fin [.tmp 2] (runC (envL prog) (b23 (envL prog)) (args ++ List.replicate (16 - args.length) .undef) h)) :=
 call_tr (fn := Go.Proofs.Try.f23) tab23 (by kernel_rfl) (by rfl) (by kernel_rfl) (fun t h => by kernel_rfl) rfl args h
def tab24 : Nat → Cert := fun i => ⟨0, 0, 0, 0, 0, 0⟩
noncomputable def l24x0 (E : Env) : CT :=
 .seq (.reg [o 20 (sBin .lss .none (X 19) (X 18))])
 (.seq (.ite (X 20)
 (.skip)
 (.exit 0))
 (.seq (.block 1 (.seq (.reg [o 21 (sMov (X 19)),
  o 22 (sIdxAddrS 1 (X 17) (X 19)),
  o 23 (sLoad 1 false (X 22)),
  o 6 (sMov (X 21)),
  o 7 (sMov (X 23))])
 (.reg [o 24 (sMov (X 5)),
  o 25 (sMov (X 6)),
  o 26 (sIdxAddrS 1 (X 24) (X 25)),
  o 27 (sLoad 1 false (X 26)),
  o 28 (sMov (X 7)),
  o 29 (sBin .or .none (X 27) (X 28)),
  o 30 (sIdxAddrS 1 (X 24) (X 25)),
  u (sStore 1 (X 30) (X 29))])))
 (.reg [o 31 (sBin .add .none (X 19) (K (.int .i64 1))),
  o 19 (sMov (X 31))])))
noncomputable def b24 (E : Env) : CT :=
 .seq (.reg [o 4 (sMov (K (.nilSl)))])
 (.seq (.seq (.reg [o 8 (sMov (X 0)),
  o 9 (sLenSl (X 8)),
  o 10 (sMov (X 1)),
  o 11 (sLenSl (X 10)),
  o 12 (sBin .lss .none (X 9) (X 11))])
 (.ite (X 12)
 (.reg [o 13 (sMov (X 1)),
  o 14 (sMov (X 0)),
  o 0 (sMov (X 13)),
  o 1 (sMov (X 14))])
 (.skip)))
 (.seq (.reg [o 15 (sMov (X 0)),
  o 16 (sCall E 35 [(X 15)]),
  o 5 (sMov (X 16))])
 (.seq (.seq (.reg [o 17 (sMov (X 1)),
  o 18 (sLenSl (X 17)),
  o 19 (sMov (K (.int .i64 0)))])
 (.block 0 (.loop (l24x0 E))))
 (.seq (.reg [o 32 (sMov (X 5)),
  o 4 (sMov (X 32))])
 (.ret)))))
theorem c24 (args : T) (h : AHeap) : (envL prog).call 24 args h = trim h (fin [.tmp 4] (runC (envL prog) (b24 (envL prog)) (args ++ List.replicate (33 - args.length) .undef) h)) :=
 call_tr (fn := Go.Proofs.Try.f24) tab24 (by kernel_rfl) (by rfl) (by kernel_rfl) (fun t h => by kernel_rfl) rfl args h
def tab25 : Nat → Cert := fun i => ⟨0, 0, 0, 0, 0, 0⟩
noncomputable def l25x0 (E : Env) : CT :=
 .seq (.reg [o 21 (sBin .lss .none (X 20) (X 19))])
 (.seq (.ite (X 21)
 (.skip)
 (.exit 2))
 (.seq (.block 3 (.seq (.reg [o 22 (sIdxAddrS 2 (X 18) (X 20)),
  o 23 (sLoad 2 true (X 22)),
  o 9 (sAlloc [.int .i64 0, .int .i64 0]),
  u (sStore 2 (X 9) (X 23))])
 (.seq (.reg [o 24 (sFieldAddr 0 (X 9)),
  o 25 (sLoad 1 false (X 24)),
  o 26 (sFieldAddr 0 (X 7)),
  o 27 (sLoad 1 false (X 26)),
  o 28 (sBin .eql .none (X 25) (X 27))])
 (.ite (X 28)
 (.seq (.reg [o 29 (sMov (X 5)),
  o 30 (sFieldAddr 1 (X 7)),
  o 31 (sLoad 1 false (X 30)),
  o 32 (sBuildSl 1 1 [.int .i64 0] [(0, 1, (X 31))]),
  o 33 (sApp (ty 1 false 8 [.int .i64 0]) (X 29) (X 32)),
  o 5 (sMov (X 33))])
 (.exit 1))
 (.skip)))))
 (.reg [o 34 (sBin .add .none (X 20) (K (.int .i64 1))),
  o 20 (sMov (X 34))])))
noncomputable def l25x1 (E : Env) : CT :=
 .seq (.reg [o 15 (sBin .lss .none (X 14) (X 13))])
 (.seq (.ite (X 15)
 (.skip)
 (.exit 0))
 (.seq (.block 1 (.seq (.reg [o 16 (sIdxAddrS 2 (X 12) (X 14)),
  o 17 (sLoad 2 true (X 16)),
  o 7 (sAlloc [.int .i64 0, .int .i64 0]),
  u (sStore 2 (X 7) (X 17))])
 (.seq (.seq (.reg [o 18 (sMov (X 0)),
  o 19 (sLenSl (X 18)),
  o 20 (sMov (K (.int .i64 0)))])
 (.block 2 (.loop (l25x0 E))))
 (.reg [o 35 (sMov (X 4)),
  o 36 (sFieldAddr 0 (X 7)),
  o 37 (sLoad 1 false (X 36)),
  o 38 (sFieldAddr 1 (X 7)),
  o 39 (sLoad 1 false (X 38)),
  o 40 (sCall E 37 [(X 35), (X 37), (X 39)]),
  o 4 (sMov (X 40))]))))
 (.reg [o 41 (sBin .add .none (X 14) (K (.int .i64 1))),
  o 14 (sMov (X 41))])))
noncomputable def b25 (E : Env) : CT :=
 .seq (.reg [o 4 (sMov (K (.nilSl))),
  o 5 (sMov (K (.nilSl)))])
 (.seq (.reg [o 10 (sMov (X 0)),
  o 11 (sCall E 36 [(X 10)]),
  o 4 (sMov (X 11))])
 (.seq (.skip)
 (.seq (.seq (.reg [o 12 (sMov (X 1)),
  o 13 (sLenSl (X 12)),
  o 14 (sMov (K (.int .i64 0)))])
 (.block 0 (.loop (l25x1 E))))
 (.seq (.reg [o 42 (sMov (X 4)),
  o 43 (sMov (X 5)),
  o 4 (sMov (X 42)),
  o 5 (sMov (X 43))])
 (.ret)))))
theorem d25 (E : Env) (args : T) (h : AHeap) : callBody prog E 25 args h = trim h (fin [.tmp 4, .tmp 5] (runC E (b25 E) (args ++ List.replicate (44 - args.length) .undef) h)) :=
 body_tr (fn := Go.Proofs.Try.f25) tab25 (by kernel_rfl) (by rfl) (by kernel_rfl) (fun t h => by kernel_rfl) rfl args h
def tab26 : Nat → Cert := fun i => bif Nat.beq i 5 then ⟨8, 27, 9161473930257694720, 9169073754628882432, 52656146054957952329773237443615674796072802905529410281986326529, 784637874765513059676714069746026130589979498592897859605⟩ else ⟨0, 0, 0, 0, 0, 0⟩
noncomputable def b26 (E : Env) : CT :=
 .seq (.reg [o 6 (sMov (K (.nilSl)))])
 (.seq (.reg [o 8 (sMov (X 0)),
  o 9 (sMov (X 1)),
  o 10 (sMov (X 2)),
  o 11 (sMov (X 0)),
  o 12 (sLenSl (X 11)),
  o 13 (sSliceS 3 (X 8) (some (X 9)) (some (X 10)) (some (X 12)))])
 (.seq (.seq (.reg [o 14 (sMov (X 1)),
  o 15 (sMov (X 2)),
  o 16 (sBin .eql .none (X 14) (X 15))])
 (.ite (X 16)
 (.seq (.reg [o 17 (sMov (X 0)),
  o 6 (sMov (X 17))])
 (.ret))
 (.skip)))
 (.seq (.reg [o 18 (sMov (X 0)),
  o 19 (sLenSl (X 18)),
  o 7 (sMov (X 19))])
 (.seq (.drw [.op (o 20 (sMov (X 0))),
  .op (o 21 (sMov (X 1))),
  .op (o 22 (sSliceS 3 (X 20) none (some (X 21)) none)),
  .op (o 23 (sMov (X 0))),
  .op (o 24 (sMov (X 2))),
  .op (o 25 (sSliceS 3 (X 23) (some (X 24)) none none)),
  .hv 63 (o 26 (sApp (ty 3 true 56 [.int .i64 0, .nilSl, .nilSl]) (X 22) (X 25))),
  .op (o 0 (sMov (X 26)))])
 (.seq (.reg [o 27 (sMov (X 0)),
  o 28 (sMov (X 0)),
  o 29 (sLenSl (X 28)),
  o 30 (sMov (X 7)),
  o 31 (sSliceS 3 (X 27) (some (X 29)) (some (X 30)) none),
  u (sClear (ty 3 true 56 [.int .i64 0, .nilSl, .nilSl]) (X 31))])
 (.seq (.reg [o 32 (sMov (X 0)),
  o 6 (sMov (X 32))])
 (.ret)))))))
theorem c26 (args : T) (h : AHeap) : (envL prog).call 26 args h = trim h (fin [.tmp 6] (runC (envL prog) (b26 (envL prog)) (args ++ List.replicate (33 - args.length) .undef) h)) :=
 call_tr (fn := Go.Proofs.Try.f26) tab26 (by kernel_rfl) (by rfl) (by kernel_rfl) (fun t h => by kernel_rfl) rfl args h
def tab27 : Nat → Cert := fun i => ⟨0, 0, 0, 0, 0, 0⟩
noncomputable def b27 (E : Env) : CT :=
 .seq (.reg [o 2 (sBox (X 0)),
  o 3 (sBox (X 1)),
  o 4 (sMov (K (.nilFn)))])
 (.seq (.reg [o 5 (sFun 38 [(X 3), (X 2)]),
  o 4 (sMov (X 5))])
 (.ret))
theorem c27 (args : T) (h : AHeap) : (envL prog).call 27 args h = trim h (fin [.tmp 4] (runC (envL prog) (b27 (envL prog)) (args ++ List.replicate (6 - args.length) .undef) h)) :=
 call_tr (fn := Go.Proofs.Try.f27) tab27 (by kernel_rfl) (by rfl) (by kernel_rfl) (fun t h => by kernel_rfl) rfl args h
def tab28 : Nat → Cert := fun i => ⟨0, 0, 0, 0, 0, 0⟩
noncomputable def b28 (E : Env) : CT :=
 .seq (.reg [o 4 (sMov (K (.int .i64 0))),
  o 5 (sMov (K (.bool false)))])
 (.seq (.reg [o 7 (sMov (X 0)),
  o 8 (sMov (X 1)),
  o 9 (sCall E 39 [(X 7), (X 8)]),
  o 6 (sMov (X 9))])
 (.seq (.seq (.reg [o 10 (sMov (X 6)),
  o 11 (sBin .lss .none (X 10) (K (.int .i64 0)))])
 (.ite (X 11)
 (.seq (.reg [o 4 (sMov (K (.int .i64 0))),
  o 5 (sMov (K (.bool false)))])
 (.ret))
 (.skip)))
 (.seq (.reg [o 12 (sMov (X 0)),
  o 13 (sMov (X 6)),
  o 14 (sIdxAddrS 2 (X 12) (X 13)),
  o 15 (sFieldAddr 1 (X 14)),
  o 16 (sLoad 1 false (X 15)),
  o 4 (sMov (X 16)),
  o 5 (sMov (K (.bool true)))])
 (.ret))))
theorem c28 (args : T) (h : AHeap) : (envL prog).call 28 args h = trim h (fin [.tmp 4, .tmp 5] (runC (envL prog) (b28 (envL prog)) (args ++ List.replicate (17 - args.length) .undef) h)) :=
 call_tr (fn := Go.Proofs.Try.f28) tab28 (by kernel_rfl) (by rfl) (by kernel_rfl) (fun t h => by kernel_rfl) rfl args h
def tab31 : Nat → Cert := fun i => ⟨0, 0, 0, 0, 0, 0⟩
noncomputable def l31x0 (E : Env) : CT :=
 .seq (.seq (.reg [o 10 (sMov (X 5)),
  o 11 (sLoad 1 false (X 2)),
  o 12 (sBin .lss .none (X 10) (X 11))])
 (.ite (X 12)
 (.skip)
 (.exit 0)))
 (.seq (.block 1 (.seq (.reg [o 16 (sMov (X 4)),
  o 17 (sMov (X 5)),
  o 18 (sCall E 32 [(X 16), (X 17)]),
  o 15 (sMov (X 18)),
  o 19 (sExtract (X 15) 0),
  o 20 (sExtract (X 15) 1),
  o 6 (sMov (X 19)),
  o 7 (sMov (X 20))])
 (.seq (.reg [o 21 (sMov (X 7)),
  o 22 (sUn .not (X 21)),
  o 23 (sMov (X 22)),
  og 23 true 24 (sMov (X 0)),
  og 23 true 25 (sMov (X 5)),
  og 23 true 26 (sCallV E (X 24) [(X 25)]),
  og 23 true 27 (sUn .not (X 26)),
  o 28 (sPick (X 23) (X 27) (K (.bool false)))])
 (.ite (X 28)
 (.ret)
 (.skip)))))
 (.reg [o 13 (sMov (X 5)),
  o 14 (sBin .add .none (X 13) (K (.int .i64 1))),
  o 5 (sMov (X 14))]))
noncomputable def b31 (E : Env) : CT :=
 .seq (.reg [o 8 (sLoad 6 true (X 1)),
  o 9 (sCall E 8 [(X 8)]),
  o 4 (sMov (X 9))])
 (.seq (.reg [o 5 (sMov (K (.int .i64 0)))])
 (.block 0 (.loop (l31x0 E))))
theorem d31 (E : Env) (args : T) (h : AHeap) : callBody prog E 31 args h = trim h (fin [] (runC E (b31 E) (args ++ List.replicate (29 - args.length) .undef) h)) :=
 body_tr (fn := Go.Proofs.Try.f31) tab31 (by kernel_rfl) (by rfl) (by kernel_rfl) (fun t h => by kernel_rfl) rfl args h
def tab32 : Nat → Cert := fun i => ⟨0, 0, 0, 0, 0, 0⟩
noncomputable def l32x0 (E : Env) : CT :=
 .seq (.seq (.reg [o 13 (sMov (X 7)),
  o 14 (sMov (X 8)),
  o 15 (sBin .lss .none (X 13) (X 14))])
 (.ite (X 15)
 (.skip)
 (.exit 0)))
 (.block 1 (.seq (.reg [o 16 (sMov (X 7)),
  o 17 (sMov (X 8)),
  o 18 (sBin .add .none (X 16) (X 17)),
  o 19 (sConv (.int .u64) (X 18)),
  o 20 (sBin .shr .none (X 19) (K (.int .u64 1))),
  o 21 (sConv (.int .i64) (X 20)),
  o 9 (sMov (X 21))])
 (.seq (.reg [o 22 (sMov (X 0)),
  o 23 (sMov (X 9)),
  o 24 (sIdxAddrS 1 (X 22) (X 23)),
  o 25 (sLoad 1 false (X 24)),
  o 26 (sMov (X 1)),
  o 27 (sCall E 46 [(X 25), (X 26)])])
 (.ite (X 27)
 (.reg [o 28 (sMov (X 9)),
  o 29 (sBin .add .none (X 28) (K (.int .i64 1))),
  o 7 (sMov (X 29))])
 (.reg [o 30 (sMov (X 9)),
  o 8 (sMov (X 30))])))))
noncomputable def b32 (E : Env) : CT :=
 .seq (.reg [o 4 (sMov (K (.int .i64 0))),
  o 5 (sMov (K (.bool false)))])
 (.seq (.reg [o 10 (sMov (X 0)),
  o 11 (sLenSl (X 10)),
  o 6 (sMov (X 11))])
 (.seq (.reg [o 12 (sMov (X 6)),
  o 7 (sMov (K (.int .i64 0))),
  o 8 (sMov (X 12))])
 (.seq (.block 0 (.loop (l32x0 E)))
 (.seq (.reg [o 31 (sMov (X 7)),
  o 32 (sMov (X 7)),
  o 33 (sMov (X 6)),
  o 34 (sBin .lss .none (X 32) (X 33)),
  o 35 (sMov (X 34)),
  og 35 true 36 (sMov (X 0)),
  og 35 true 37 (sMov (X 7)),
  og 35 true 38 (sIdxAddrS 1 (X 36) (X 37)),
  og 35 true 39 (sLoad 1 false (X 38)),
  og 35 true 40 (sMov (X 1)),
  og 35 true 41 (sBin .eql .none (X 39) (X 40)),
  og 35 true 42 (sMov (X 41)),
  og 42 false 43 (sMov (X 0)),
  og 42 false 44 (sMov (X 7)),
  og 42 false 45 (sIdxAddrS 1 (X 43) (X 44)),
  og 42 false 46 (sLoad 1 false (X 45)),
  og 42 false 47 (sCall E 51 [(X 46)]),
  og 42 false 48 (sMov (X 47)),
  og 48 true 49 (sMov (X 1)),
  og 48 true 50 (sCall E 51 [(X 49)]),
  og 42 false 51 (sPick (X 48) (X 50) (K (.bool false))),
  og 35 true 52 (sPick (X 42) (K (.bool true)) (X 51)),
  o 53 (sPick (X 35) (X 52) (K (.bool false))),
  o 4 (sMov (X 31)),
  o 5 (sMov (X 53))])
 (.ret)))))
theorem c32 (args : T) (h : AHeap) : (envL prog).call 32 args h = trim h (fin [.tmp 4, .tmp 5] (runC (envL prog) (b32 (envL prog)) (args ++ List.replicate (54 - args.length) .undef) h)) :=
 call_tr (fn := Go.Proofs.Try.f32) tab32 (by kernel_rfl) (by rfl) (by kernel_rfl) (fun t h => by kernel_rfl) rfl args h
def tab33 : Nat → Cert := fun i => ⟨0, 0, 0, 0, 0, 0⟩
noncomputable def b33 (E : Env) : CT :=
 .seq (.reg [o 2 (sMov (K (.nilSl)))])
 (.seq (.seq (.reg [o 3 (sMov (X 0)),
  o 4 (sBin .lss .none (X 3) (K (.int .i64 1))),
  o 5 (sMov (X 4)),
  og 5 false 6 (sMov (X 0)),
  og 5 false 7 (sBin .gtr .none (X 6) (K (.int .i64 4096))),
  o 8 (sPick (X 5) (K (.bool true)) (X 7))])
 (.ite (X 8)
 (.seq (.reg [o 2 (sMov (K (.nilSl)))])
 (.ret))
 (.skip)))
 (.seq (.reg [o 9 (sMov (X 0)),
  o 10 (sBin .add .none (X 9) (K (.int .i64 7))),
  o 11 (sBin .quo .none (X 10) (K (.int .i64 8))),
  o 12 (sMake (ty 1 false 1 [.int .u8 0]) (X 11) (X 11)),
  o 2 (sMov (X 12))])
 (.ret)))
theorem c33 (args : T) (h : AHeap) : (envL prog).call 33 args h = trim h (fin [.tmp 2] (runC (envL prog) (b33 (envL prog)) (args ++ List.replicate (13 - args.length) .undef) h)) :=
 call_tr (fn := Go.Proofs.Try.f33) tab33 (by kernel_rfl) (by rfl) (by kernel_rfl) (fun t h => by kernel_rfl) rfl args h
def tab34 : Nat → Cert := fun i => bif Nat.beq i 1 then ⟨10, 11, 632895786129729975461282317312, 632895786129742360360258634752, 811297085323194380207336638660610, 3404335846228958675168405508⟩ else ⟨0, 0, 0, 0, 0, 0⟩
noncomputable def b34 (E : Env) : CT :=
 .seq (.reg [o 1 (sBox (X 0)),
  o 2 (sAlloc [.int .i64 0, .nilSl, .nilSl])])
 (.seq (.drw [.op (o 3 (sFieldAddr 1 (X 1))),
  .op (o 4 (sLoad 1 false (X 3))),
  .op (o 6 (sFieldAddr 2 (X 1))),
  .rd 4 (o 7 (sLoad 1 false (X 6))),
  .hv 3 (o 5 (sCall E 35 [(X 4)])),
  .op (o 9 (sFieldAddr 1 (X 1))),
  .hv 31 (o 8 (sCall E 36 [(X 7)])),
  .hv 127 (u (sStore 1 (X 9) (X 5))),
  .op (o 10 (sFieldAddr 2 (X 1))),
  .hv 511 (u (sStore 1 (X 10) (X 8)))])
 (.seq (.reg [o 11 (sLoad 3 true (X 1)),
  u (sStore 3 (X 2) (X 11))])
 (.ret)))
theorem c34 (args : T) (h : AHeap) : (envL prog).call 34 args h = trim h (fin [.cell 2 3 true] (runC (envL prog) (b34 (envL prog)) (args ++ List.replicate (12 - args.length) .undef) h)) :=
 call_tr (fn := Go.Proofs.Try.f34) tab34 (by kernel_rfl) (by rfl) (by kernel_rfl) (fun t h => by kernel_rfl) rfl args h
def tab35 : Nat → Cert := fun i => ⟨0, 0, 0, 0, 0, 0⟩
noncomputable def b35 (E : Env) : CT :=
 .seq (.reg [o 2 (sMov (K (.nilSl)))])
 (.seq (.seq (.reg [o 3 (sMov (X 0)),
  o 4 (sBin .eql .slice (X 3) (K (.nilSl)))])
 (.ite (X 4)
 (.seq (.reg [o 2 (sMov (K (.nilSl)))])
 (.ret))
 (.skip)))
 (.seq (.reg [o 5 (sBuildSl 1 0 [.int .u8 0] []),
  o 6 (sMov (X 0)),
  o 7 (sApp (ty 1 false 1 [.int .u8 0]) (X 5) (X 6)),
  o 2 (sMov (X 7))])
 (.ret)))
theorem c35 (args : T) (h : AHeap) : (envL prog).call 35 args h = trim h (fin [.tmp 2] (runC (envL prog) (b35 (envL prog)) (args ++ List.replicate (8 - args.length) .undef) h)) :=
 call_tr (fn := Go.Proofs.Try.f35) tab35 (by kernel_rfl) (by rfl) (by kernel_rfl) (fun t h => by kernel_rfl) rfl args h
def tab36 : Nat → Cert := fun i => ⟨0, 0, 0, 0, 0, 0⟩
noncomputable def b36 (E : Env) : CT :=
 .seq (.reg [o 2 (sMov (K (.nilSl)))])
 (.seq (.seq (.reg [o 3 (sMov (X 0)),
  o 4 (sBin .eql .slice (X 3) (K (.nilSl)))])
 (.ite (X 4)
 (.seq (.reg [o 2 (sMov (K (.nilSl)))])
 (.ret))
 (.skip)))
 (.seq (.reg [o 5 (sBuildSl 2 0 [.int .i64 0, .int .i64 0] []),
  o 6 (sMov (X 0)),
  o 7 (sApp (ty 2 true 16 [.int .i64 0, .int .i64 0]) (X 5) (X 6)),
  o 2 (sMov (X 7))])
 (.ret)))
theorem c36 (args : T) (h : AHeap) : (envL prog).call 36 args h = trim h (fin [.tmp 2] (runC (envL prog) (b36 (envL prog)) (args ++ List.replicate (8 - args.length) .undef) h)) :=
 call_tr (fn := Go.Proofs.Try.f36) tab36 (by kernel_rfl) (by rfl) (by kernel_rfl) (fun t h => by kernel_rfl) rfl args h
def tab37 : Nat → Cert := fun i => ⟨0, 0, 0, 0, 0, 0⟩
noncomputable def l37x0 (E : Env) : CT :=
 .seq (.reg [o 29 (sBin .lss .none (X 28) (X 27))])
 (.seq (.ite (X 29)
 (.skip)
 (.exit 0))
 (.seq (.block 1 (.seq (.reg [o 30 (sMov (X 28)),
  o 31 (sIdxAddrS 2 (X 26) (X 28)),
  o 32 (sLoad 2 true (X 31)),
  o 10 (sAlloc [.int .i64 0, .int .i64 0]),
  o 9 (sMov (X 30)),
  u (sStore 2 (X 10) (X 32))])
 (.seq (.reg [o 33 (sFieldAddr 0 (X 10)),
  o 34 (sLoad 1 false (X 33)),
  o 35 (sMov (X 1)),
  o 36 (sBin .gtr .none (X 34) (X 35))])
 (.ite (X 36)
 (.seq (.reg [o 37 (sMov (X 0)),
  o 38 (sMov (X 9)),
  o 39 (sLoad 2 true (X 7)),
  o 40 (sBuildSl 2 1 [.int .i64 0, .int .i64 0] [(0, 2, (X 39))]),
  o 41 (sCall E 52 [(X 37), (X 38), (X 40)]),
  o 6 (sMov (X 41))])
 (.ret))
 (.skip)))))
 (.reg [o 42 (sBin .add .none (X 28) (K (.int .i64 1))),
  o 28 (sMov (X 42))])))
noncomputable def b37 (E : Env) : CT :=
 .seq (.reg [o 6 (sMov (K (.nilSl)))])
 (.seq (.reg [o 11 (sMov (X 1)),
  o 12 (sMov (X 2)),
  o 13 (sBuild [.int .i64 0, .int .i64 0] [(0, 1, (X 11)), (1, 1, (X 12))]),
  o 7 (sAlloc [.int .i64 0, .int .i64 0]),
  u (sStore 2 (X 7) (X 13))])
 (.seq (.reg [o 14 (sMov (X 0)),
  o 15 (sCall E 36 [(X 14)]),
  o 0 (sMov (X 15))])
 (.seq (.seq (.reg [o 16 (sMov (X 0)),
  o 17 (sMov (X 1)),
  o 18 (sCall E 39 [(X 16), (X 17)]),
  o 8 (sMov (X 18))])
 (.seq (.reg [o 19 (sMov (X 8)),
  o 20 (sBin .geq .none (X 19) (K (.int .i64 0)))])
 (.ite (X 20)
 (.seq (.reg [o 21 (sMov (X 0)),
  o 22 (sMov (X 8)),
  o 23 (sLoad 2 true (X 7)),
  o 24 (sIdxAddrS 2 (X 21) (X 22)),
  u (sStore 2 (X 24) (X 23))])
 (.seq (.reg [o 25 (sMov (X 0)),
  o 6 (sMov (X 25))])
 (.ret)))
 (.skip))))
 (.seq (.seq (.reg [o 26 (sMov (X 0)),
  o 27 (sLenSl (X 26)),
  o 28 (sMov (K (.int .i64 0)))])
 (.block 0 (.loop (l37x0 E))))
 (.seq (.reg [o 43 (sMov (X 0)),
  o 44 (sLoad 2 true (X 7)),
  o 45 (sBuildSl 2 1 [.int .i64 0, .int .i64 0] [(0, 2, (X 44))]),
  o 46 (sApp (ty 2 true 16 [.int .i64 0, .int .i64 0]) (X 43) (X 45)),
  o 6 (sMov (X 46))])
 (.ret))))))
theorem d37 (E : Env) (args : T) (h : AHeap) : callBody prog E 37 args h = trim h (fin [.tmp 6] (runC E (b37 E) (args ++ List.replicate (47 - args.length) .undef) h)) :=
 body_tr (fn := Go.Proofs.Try.f37) tab37 (by kernel_rfl) (by rfl) (by kernel_rfl) (fun t h => by kernel_rfl) rfl args h
def tab38 : Nat → Cert := fun i => bif Nat.beq i 3 then ⟨8, 19, 4621555286337912832, 9169078204214804480, 2854498362885226472471214775385442849263714305, 217781109444674920010573885300070459375629⟩ else ⟨0, 0, 0, 0, 0, 0⟩
noncomputable def l38x0 (E : Env) : CT :=
 .seq (.seq (.reg [o 6 (sLoad 1 false (X 1)),
  o 7 (sLoad 1 false (X 2)),
  o 8 (sLenSl (X 7)),
  o 9 (sBin .lss .none (X 6) (X 8))])
 (.ite (X 9)
 (.skip)
 (.exit 0)))
 (.seq (.block 1 (.seq (.drw [.op (o 12 (sMov (X 0))),
  .op (o 13 (sLoad 1 false (X 1))),
  .op (o 14 (sLoad 1 false (X 2))),
  .op (o 15 (sLoad 1 false (X 1))),
  .op (o 16 (sIdxAddrS 3 (X 14) (X 15))),
  .op (o 17 (sLoad 3 true (X 16))),
  .hv 63 (o 18 (sCallV E (X 12) [(X 13), (X 17)])),
  .op (o 19 (sUn .not (X 18)))])
 (.ite (X 19)
 (.ret)
 (.skip))))
 (.reg [o 10 (sLoad 1 false (X 1)),
  o 11 (sBin .add .none (X 10) (K (.int .i64 1))),
  u (sStore 1 (X 1) (X 11))]))
noncomputable def b38 (E : Env) : CT :=
 .seq (.seq (.reg [o 4 (sLoad 1 false (X 1)),
  o 5 (sBin .lss .none (X 4) (K (.int .i64 0)))])
 (.ite (X 5)
 (.ret)
 (.skip)))
 (.block 0 (.loop (l38x0 E)))
theorem c38 (args : T) (h : AHeap) : (envL prog).call 38 args h = trim h (fin [] (runC (envL prog) (b38 (envL prog)) (args ++ List.replicate (20 - args.length) .undef) h)) :=
 call_tr (fn := Go.Proofs.Try.f38) tab38 (by kernel_rfl) (by rfl) (by kernel_rfl) (fun t h => by kernel_rfl) rfl args h
def tab39 : Nat → Cert := fun i => ⟨0, 0, 0, 0, 0, 0⟩
noncomputable def b39 (E : Env) : CT :=
 .seq (.reg [o 3 (sBox (X 1)),
  o 4 (sMov (K (.int .i64 0)))])
 (.seq (.reg [o 5 (sMov (X 0)),
  o 6 (sFun 54 [(X 3)]),
  o 7 (sCall E 53 [(X 5), (X 6)]),
  o 4 (sMov (X 7))])
 (.ret))
theorem c39 (args : T) (h : AHeap) : (envL prog).call 39 args h = trim h (fin [.tmp 4] (runC (envL prog) (b39 (envL prog)) (args ++ List.replicate (8 - args.length) .undef) h)) :=
 call_tr (fn := Go.Proofs.Try.f39) tab39 (by kernel_rfl) (by rfl) (by kernel_rfl) (fun t h => by kernel_rfl) rfl args h
def tab46 : Nat → Cert := fun i => ⟨0, 0, 0, 0, 0, 0⟩
noncomputable def b46 (E : Env) : CT :=
 .seq (.reg [o 4 (sMov (K (.bool false)))])
 (.seq (.reg [o 5 (sMov (X 0)),
  o 6 (sCall E 60 [(X 5)]),
  o 7 (sMov (X 6)),
  og 7 true 8 (sMov (X 1)),
  og 7 true 9 (sCall E 60 [(X 8)]),
  og 7 true 10 (sUn .not (X 9)),
  o 11 (sPick (X 7) (X 10) (K (.bool false))),
  o 12 (sMov (X 11)),
  og 12 false 13 (sMov (X 0)),
  og 12 false 14 (sMov (X 1)),
  og 12 false 15 (sBin .lss .none (X 13) (X 14)),
  o 16 (sPick (X 12) (K (.bool true)) (X 15)),
  o 4 (sMov (X 16))])
 (.ret))
theorem c46 (args : T) (h : AHeap) : (envL prog).call 46 args h = trim h (fin [.tmp 4] (runC (envL prog) (b46 (envL prog)) (args ++ List.replicate (17 - args.length) .undef) h)) :=
 call_tr (fn := Go.Proofs.Try.f46) tab46 (by kernel_rfl) (by rfl) (by kernel_rfl) (fun t h => by kernel_rfl) rfl args h
noncomputable def l48x0 (E : Env) : CT :=
 .seq (.seq (.drw [.op (o 30 (sMov (X 10))),
  .op (o 31 (sMov (X 11))),
  .op (o 32 (sBin .leq .none (X 30) (X 31))),
  .op (o 33 (sMov (X 32))),
  .op (og 33 true 34 (sMov (X 0))),
  .op (og 33 true 35 (sMov (X 10))),
  .op (og 33 true 36 (sIdxAddrS 1 (X 34) (X 35))),
  .op (og 33 true 37 (sLoad 1 false (X 36))),
  .op (og 33 true 38 (sMov (X 0))),
  .op (og 33 true 39 (sMov (X 1))),
  .op (og 33 true 40 (sIdxAddrS 1 (X 38) (X 39))),
  .op (og 33 true 41 (sLoad 1 false (X 40))),
  .hv 4095 (og 33 true 42 (sCall E 46 [(X 37), (X 41)])),
  .op (o 43 (sPick (X 33) (X 42) (K (.bool false))))])
 (.ite (X 43)
 (.skip)
 (.exit 0)))
 (.block 1 (.reg [o 44 (sMov (X 10)),
  o 45 (sBin .add .none (X 44) (K (.int .i64 1))),
  o 10 (sMov (X 45))]))
noncomputable def l48x1 (E : Env) : CT :=
 .seq (.seq (.drw [.op (o 46 (sMov (X 10))),
  .op (o 47 (sMov (X 11))),
  .op (o 48 (sBin .leq .none (X 46) (X 47))),
  .op (o 49 (sMov (X 48))),
  .op (og 49 true 50 (sMov (X 0))),
  .op (og 49 true 51 (sMov (X 11))),
  .op (og 49 true 52 (sIdxAddrS 1 (X 50) (X 51))),
  .op (og 49 true 53 (sLoad 1 false (X 52))),
  .op (og 49 true 54 (sMov (X 0))),
  .op (og 49 true 55 (sMov (X 1))),
  .op (og 49 true 56 (sIdxAddrS 1 (X 54) (X 55))),
  .op (og 49 true 57 (sLoad 1 false (X 56))),
  .hv 4095 (og 49 true 58 (sCall E 46 [(X 53), (X 57)])),
  .op (og 49 true 59 (sUn .not (X 58))),
  .op (o 60 (sPick (X 49) (X 59) (K (.bool false))))])
 (.ite (X 60)
 (.skip)
 (.exit 2)))
 (.block 3 (.reg [o 61 (sMov (X 11)),
  o 62 (sBin .sub .none (X 61) (K (.int .i64 1))),
  o 11 (sMov (X 62))]))
noncomputable def l48x2 (E : Env) : CT :=
 .seq (.seq (.drw [.op (o 99 (sMov (X 10))),
  .op (o 100 (sMov (X 11))),
  .op (o 101 (sBin .leq .none (X 99) (X 100))),
  .op (o 102 (sMov (X 101))),
  .op (og 102 true 103 (sMov (X 0))),
  .op (og 102 true 104 (sMov (X 10))),
  .op (og 102 true 105 (sIdxAddrS 1 (X 103) (X 104))),
  .op (og 102 true 106 (sLoad 1 false (X 105))),
  .op (og 102 true 107 (sMov (X 0))),
  .op (og 102 true 108 (sMov (X 1))),
  .op (og 102 true 109 (sIdxAddrS 1 (X 107) (X 108))),
  .op (og 102 true 110 (sLoad 1 false (X 109))),
  .hv 4095 (og 102 true 111 (sCall E 46 [(X 106), (X 110)])),
  .op (o 112 (sPick (X 102) (X 111) (K (.bool false))))])
 (.ite (X 112)
 (.skip)
 (.exit 6)))
 (.block 7 (.reg [o 113 (sMov (X 10)),
  o 114 (sBin .add .none (X 113) (K (.int .i64 1))),
  o 10 (sMov (X 114))]))
noncomputable def l48x3 (E : Env) : CT :=
 .seq (.seq (.drw [.op (o 115 (sMov (X 10))),
  .op (o 116 (sMov (X 11))),
  .op (o 117 (sBin .leq .none (X 115) (X 116))),
  .op (o 118 (sMov (X 117))),
  .op (og 118 true 119 (sMov (X 0))),
  .op (og 118 true 120 (sMov (X 11))),
  .op (og 118 true 121 (sIdxAddrS 1 (X 119) (X 120))),
  .op (og 118 true 122 (sLoad 1 false (X 121))),
  .op (og 118 true 123 (sMov (X 0))),
  .op (og 118 true 124 (sMov (X 1))),
  .op (og 118 true 125 (sIdxAddrS 1 (X 123) (X 124))),
  .op (og 118 true 126 (sLoad 1 false (X 125))),
  .hv 4095 (og 118 true 127 (sCall E 46 [(X 122), (X 126)])),
  .op (og 118 true 128 (sUn .not (X 127))),
  .op (o 129 (sPick (X 118) (X 128) (K (.bool false))))])
 (.ite (X 129)
 (.skip)
 (.exit 8)))
 (.block 9 (.reg [o 130 (sMov (X 11)),
  o 131 (sBin .sub .none (X 130) (K (.int .i64 1))),
  o 11 (sMov (X 131))]))
noncomputable def l48x4 (E : Env) : CT :=
 .block 5 (.seq (.block 6 (.loop (l48x2 E)))
 (.seq (.block 8 (.loop (l48x3 E)))
 (.seq (.seq (.reg [o 132 (sMov (X 10)),
  o 133 (sMov (X 11)),
  o 134 (sBin .gtr .none (X 132) (X 133))])
 (.ite (X 134)
 (.exit 4)
 (.skip)))
 (.seq (.drw [.op (o 135 (sMov (X 0))),
  .op (o 136 (sMov (X 10))),
  .op (o 137 (sMov (X 0))),
  .op (o 138 (sMov (X 11))),
  .op (o 139 (sMov (X 0))),
  .op (o 140 (sMov (X 11))),
  .op (o 141 (sIdxAddrS 1 (X 139) (X 140))),
  .op (o 142 (sLoad 1 false (X 141))),
  .op (o 143 (sMov (X 0))),
  .op (o 144 (sMov (X 10))),
  .op (o 145 (sIdxAddrS 1 (X 143) (X 144))),
  .op (o 146 (sLoad 1 false (X 145))),
  .op (o 147 (sIdxAddrS 1 (X 135) (X 136))),
  .hv 8179 (u (sStore 1 (X 147) (X 142))),
  .op (o 148 (sIdxAddrS 1 (X 137) (X 138))),
  .hv 32767 (u (sStore 1 (X 148) (X 146)))])
 (.seq (.reg [o 149 (sMov (X 10)),
  o 150 (sBin .add .none (X 149) (K (.int .i64 1))),
  o 10 (sMov (X 150))])
 (.reg [o 151 (sMov (X 11)),
  o 152 (sBin .sub .none (X 151) (K (.int .i64 1))),
  o 11 (sMov (X 152))]))))))
noncomputable def b48 (E : Env) : CT :=
 .seq (.reg [o 8 (sMov (K (.int .i64 0))),
  o 9 (sMov (K (.bool false)))])
 (.seq (.drw [.op (o 12 (sMov (X 0))),
  .op (o 13 (sMov (X 1))),
  .op (o 14 (sMov (X 0))),
  .op (o 15 (sMov (X 3))),
  .op (o 16 (sMov (X 0))),
  .op (o 17 (sMov (X 3))),
  .op (o 18 (sIdxAddrS 1 (X 16) (X 17))),
  .op (o 19 (sLoad 1 false (X 18))),
  .op (o 20 (sMov (X 0))),
  .op (o 21 (sMov (X 1))),
  .op (o 22 (sIdxAddrS 1 (X 20) (X 21))),
  .op (o 23 (sLoad 1 false (X 22))),
  .op (o 24 (sIdxAddrS 1 (X 12) (X 13))),
  .hv 8179 (u (sStore 1 (X 24) (X 19))),
  .op (o 25 (sIdxAddrS 1 (X 14) (X 15))),
  .hv 32767 (u (sStore 1 (X 25) (X 23)))])
 (.seq (.reg [o 26 (sMov (X 1)),
  o 27 (sBin .add .none (X 26) (K (.int .i64 1))),
  o 28 (sMov (X 2)),
  o 29 (sBin .sub .none (X 28) (K (.int .i64 1))),
  o 10 (sMov (X 27)),
  o 11 (sMov (X 29))])
 (.seq (.block 0 (.loop (l48x0 E)))
 (.seq (.block 2 (.loop (l48x1 E)))
 (.seq (.seq (.reg [o 63 (sMov (X 10)),
  o 64 (sMov (X 11)),
  o 65 (sBin .gtr .none (X 63) (X 64))])
 (.ite (X 65)
 (.seq (.drw [.op (o 66 (sMov (X 0))),
  .op (o 67 (sMov (X 11))),
  .op (o 68 (sMov (X 0))),
  .op (o 69 (sMov (X 1))),
  .op (o 70 (sMov (X 0))),
  .op (o 71 (sMov (X 1))),
  .op (o 72 (sIdxAddrS 1 (X 70) (X 71))),
  .op (o 73 (sLoad 1 false (X 72))),
  .op (o 74 (sMov (X 0))),
  .op (o 75 (sMov (X 11))),
  .op (o 76 (sIdxAddrS 1 (X 74) (X 75))),
  .op (o 77 (sLoad 1 false (X 76))),
  .op (o 78 (sIdxAddrS 1 (X 66) (X 67))),
  .hv 8179 (u (sStore 1 (X 78) (X 73))),
  .op (o 79 (sIdxAddrS 1 (X 68) (X 69))),
  .hv 32767 (u (sStore 1 (X 79) (X 77)))])
 (.seq (.reg [o 80 (sMov (X 11)),
  o 8 (sMov (X 80)),
  o 9 (sMov (K (.bool true)))])
 (.ret)))
 (.skip)))
 (.seq (.drw [.op (o 81 (sMov (X 0))),
  .op (o 82 (sMov (X 10))),
  .op (o 83 (sMov (X 0))),
  .op (o 84 (sMov (X 11))),
  .op (o 85 (sMov (X 0))),
  .op (o 86 (sMov (X 11))),
  .op (o 87 (sIdxAddrS 1 (X 85) (X 86))),
  .op (o 88 (sLoad 1 false (X 87))),
  .op (o 89 (sMov (X 0))),
  .op (o 90 (sMov (X 10))),
  .op (o 91 (sIdxAddrS 1 (X 89) (X 90))),
  .op (o 92 (sLoad 1 false (X 91))),
  .op (o 93 (sIdxAddrS 1 (X 81) (X 82))),
  .hv 8179 (u (sStore 1 (X 93) (X 88))),
  .op (o 94 (sIdxAddrS 1 (X 83) (X 84))),
  .hv 32767 (u (sStore 1 (X 94) (X 92)))])
 (.seq (.reg [o 95 (sMov (X 10)),
  o 96 (sBin .add .none (X 95) (K (.int .i64 1))),
  o 10 (sMov (X 96))])
 (.seq (.reg [o 97 (sMov (X 11)),
  o 98 (sBin .sub .none (X 97) (K (.int .i64 1))),
  o 11 (sMov (X 98))])
 (.seq (.block 4 (.loop (l48x4 E)))
 (.seq (.drw [.op (o 153 (sMov (X 0))),
  .op (o 154 (sMov (X 11))),
  .op (o 155 (sMov (X 0))),
  .op (o 156 (sMov (X 1))),
  .op (o 157 (sMov (X 0))),
  .op (o 158 (sMov (X 1))),
  .op (o 159 (sIdxAddrS 1 (X 157) (X 158))),
  .op (o 160 (sLoad 1 false (X 159))),
  .op (o 161 (sMov (X 0))),
  .op (o 162 (sMov (X 11))),
  .op (o 163 (sIdxAddrS 1 (X 161) (X 162))),
  .op (o 164 (sLoad 1 false (X 163))),
  .op (o 165 (sIdxAddrS 1 (X 153) (X 154))),
  .hv 8179 (u (sStore 1 (X 165) (X 160))),
  .op (o 166 (sIdxAddrS 1 (X 155) (X 156))),
  .hv 32767 (u (sStore 1 (X 166) (X 164)))])
 (.seq (.reg [o 167 (sMov (X 11)),
  o 8 (sMov (X 167)),
  o 9 (sMov (K (.bool false)))])
 (.ret))))))))))))
def tab51 : Nat → Cert := fun i => ⟨0, 0, 0, 0, 0, 0⟩
noncomputable def b51 (E : Env) : CT :=
 .seq (.reg [o 2 (sMov (K (.bool false)))])
 (.seq (.reg [o 3 (sMov (X 0)),
  o 4 (sMov (X 0)),
  o 5 (sBin .neq .none (X 3) (X 4)),
  o 2 (sMov (X 5))])
 (.ret))
theorem c51 (args : T) (h : AHeap) : (envL prog).call 51 args h = trim h (fin [.tmp 2] (runC (envL prog) (b51 (envL prog)) (args ++ List.replicate (6 - args.length) .undef) h)) :=
 call_tr (fn := Go.Proofs.Try.f51) tab51 (by kernel_rfl) (by rfl) (by kernel_rfl) (fun t h => by kernel_rfl) rfl args h
def tab52 : Nat → Cert := fun i => bif Nat.beq i 11 then ⟨9, 54, 680906217249386249846784, 1205088896848329185427456, 112382947811375724488742041453776276374570809350632868170734732734838719881293241590782288705168714390777596721837144699999507108449320042638606848, 609987332706579302352693848719322061433462702010702316706625686780384052692097453976043110735309001855013995224369916608979312574511⟩ else bif Nat.beq i 15 then ⟨9, 77, 680906217249386249846784, 1205088896848329185427456, 23115831598601250764242733299745186244064715112560933823724752031692391757118915468275322643558725747272738064420965321799759590965544320155833376631231322711835302609810875268349228821309506037028511729844225, 21211526881130410853267533183424259031483221315037831563207555260244335392337441166579316541022363516950468447371577672569443599734093801526701739672898498476400484063534686101840588701766⟩ else ⟨0, 0, 0, 0, 0, 0⟩
noncomputable def b52 (E : Env) : CT :=
 .seq (.reg [o 6 (sMov (K (.nilSl)))])
 (.seq (.reg [o 10 (sMov (X 0)),
  o 11 (sMov (X 1)),
  o 12 (sSliceS 2 (X 10) (some (X 11)) none none)])
 (.seq (.reg [o 13 (sMov (X 2)),
  o 14 (sLenSl (X 13)),
  o 7 (sMov (X 14))])
 (.seq (.seq (.reg [o 15 (sMov (X 7)),
  o 16 (sBin .eql .none (X 15) (K (.int .i64 0)))])
 (.ite (X 16)
 (.seq (.reg [o 17 (sMov (X 0)),
  o 6 (sMov (X 17))])
 (.ret))
 (.skip)))
 (.seq (.reg [o 18 (sMov (X 0)),
  o 19 (sLenSl (X 18)),
  o 8 (sMov (X 19))])
 (.seq (.seq (.reg [o 20 (sMov (X 1)),
  o 21 (sMov (X 8)),
  o 22 (sBin .eql .none (X 20) (X 21))])
 (.ite (X 22)
 (.seq (.reg [o 23 (sMov (X 0)),
  o 24 (sMov (X 2)),
  o 25 (sApp (ty 2 true 16 [.int .i64 0, .int .i64 0]) (X 23) (X 24)),
  o 6 (sMov (X 25))])
 (.ret))
 (.skip)))
 (.seq (.seq (.reg [o 26 (sMov (X 8)),
  o 27 (sMov (X 7)),
  o 28 (sBin .add .none (X 26) (X 27)),
  o 29 (sMov (X 0)),
  o 30 (sCapSl (X 29)),
  o 31 (sBin .gtr .none (X 28) (X 30))])
 (.ite (X 31)
 (.seq (.reg [o 32 (sMov (X 0)),
  o 33 (sMov (X 1)),
  o 34 (sSliceS 2 (X 32) none (some (X 33)) none),
  o 35 (sMov (X 8)),
  o 36 (sMov (X 7)),
  o 37 (sBin .add .none (X 35) (X 36)),
  o 38 (sMov (X 1)),
  o 39 (sBin .sub .none (X 37) (X 38)),
  o 40 (sAppN (ty 2 true 16 [.int .i64 0, .int .i64 0]) (X 34) (X 39)),
  o 9 (sMov (X 40))])
 (.seq (.reg [o 41 (sMov (X 9)),
  o 42 (sMov (X 1)),
  o 43 (sSliceS 2 (X 41) (some (X 42)) none none),
  o 44 (sMov (X 2)),
  o 45 (sCopy (ty 2 true 16 [.int .i64 0, .int .i64 0]) (X 43) (X 44))])
 (.seq (.drw [.op (o 46 (sMov (X 9))),
  .op (o 47 (sMov (X 1))),
  .op (o 48 (sMov (X 7))),
  .op (o 49 (sBin .add .none (X 47) (X 48))),
  .op (o 50 (sSliceS 2 (X 46) (some (X 49)) none none)),
  .op (o 51 (sMov (X 0))),
  .op (o 52 (sMov (X 1))),
  .op (o 53 (sSliceS 2 (X 51) (some (X 52)) none none)),
  .hv 255 (o 54 (sCopy (ty 2 true 16 [.int .i64 0, .int .i64 0]) (X 50) (X 53)))])
 (.seq (.reg [o 55 (sMov (X 9)),
  o 6 (sMov (X 55))])
 (.ret)))))
 (.skip)))
 (.seq (.reg [o 56 (sMov (X 0)),
  o 57 (sMov (X 8)),
  o 58 (sMov (X 7)),
  o 59 (sBin .add .none (X 57) (X 58)),
  o 60 (sSliceS 2 (X 56) none (some (X 59)) none),
  o 0 (sMov (X 60))])
 (.seq (.seq (.reg [o 61 (sMov (X 2)),
  o 62 (sMov (X 0)),
  o 63 (sMov (X 1)),
  o 64 (sMov (X 7)),
  o 65 (sBin .add .none (X 63) (X 64)),
  o 66 (sSliceS 2 (X 62) (some (X 65)) none none),
  o 67 (sCall E 61 [(X 61), (X 66)]),
  o 68 (sUn .not (X 67))])
 (.ite (X 68)
 (.seq (.drw [.op (o 69 (sMov (X 0))),
  .op (o 70 (sMov (X 1))),
  .op (o 71 (sMov (X 7))),
  .op (o 72 (sBin .add .none (X 70) (X 71))),
  .op (o 73 (sSliceS 2 (X 69) (some (X 72)) none none)),
  .op (o 74 (sMov (X 0))),
  .op (o 75 (sMov (X 1))),
  .op (o 76 (sSliceS 2 (X 74) (some (X 75)) none none)),
  .hv 255 (o 77 (sCopy (ty 2 true 16 [.int .i64 0, .int .i64 0]) (X 73) (X 76)))])
 (.seq (.reg [o 78 (sMov (X 0)),
  o 79 (sMov (X 1)),
  o 80 (sSliceS 2 (X 78) (some (X 79)) none none),
  o 81 (sMov (X 2)),
  o 82 (sCopy (ty 2 true 16 [.int .i64 0, .int .i64 0]) (X 80) (X 81))])
 (.seq (.reg [o 83 (sMov (X 0)),
  o 6 (sMov (X 83))])
 (.ret))))
 (.skip)))
 (.seq (.reg [o 84 (sMov (X 0)),
  o 85 (sMov (X 8)),
  o 86 (sSliceS 2 (X 84) (some (X 85)) none none),
  o 87 (sMov (X 2)),
  o 88 (sCopy (ty 2 true 16 [.int .i64 0, .int .i64 0]) (X 86) (X 87))])
 (.seq (.reg [o 89 (sMov (X 0)),
  o 90 (sMov (X 1)),
  o 91 (sSliceS 2 (X 89) (some (X 90)) none none),
  o 92 (sMov (X 7)),
  o 93 (sCall E 62 [(X 91), (X 92)])])
 (.seq (.reg [o 94 (sMov (X 0)),
  o 6 (sMov (X 94))])
 (.ret))))))))))))
theorem d52 (E : Env) (args : T) (h : AHeap) : callBody prog E 52 args h = trim h (fin [.tmp 6] (runC E (b52 E) (args ++ List.replicate (95 - args.length) .undef) h)) :=
 body_tr (fn := Go.Proofs.Try.f52) tab52 (by kernel_rfl) (by rfl) (by kernel_rfl) (fun t h => by kernel_rfl) rfl args h
def tab53 : Nat → Cert := fun i => ⟨0, 0, 0, 0, 0, 0⟩
noncomputable def l53x0 (E : Env) : CT :=
 .seq (.reg [o 9 (sBin .lss .none (X 8) (X 7))])
 (.seq (.ite (X 9)
 (.skip)
 (.exit 0))
 (.seq (.block 1 (.seq (.reg [o 10 (sMov (X 8)),
  o 5 (sMov (X 10))])
 (.seq (.reg [o 11 (sMov (X 1)),
  o 12 (sMov (X 0)),
  o 13 (sMov (X 5)),
  o 14 (sIdxAddrS 2 (X 12) (X 13)),
  o 15 (sLoad 2 true (X 14)),
  o 16 (sCallV E (X 11) [(X 15)])])
 (.ite (X 16)
 (.seq (.reg [o 17 (sMov (X 5)),
  o 4 (sMov (X 17))])
 (.ret))
 (.skip)))))
 (.reg [o 18 (sBin .add .none (X 8) (K (.int .i64 1))),
  o 8 (sMov (X 18))])))
noncomputable def b53 (E : Env) : CT :=
 .seq (.reg [o 4 (sMov (K (.int .i64 0)))])
 (.seq (.seq (.reg [o 6 (sMov (X 0)),
  o 7 (sLenSl (X 6)),
  o 8 (sMov (K (.int .i64 0)))])
 (.block 0 (.loop (l53x0 E))))
 (.seq (.reg [o 4 (sMov (K (.int .i64 (-1))))])
 (.ret)))
theorem c53 (args : T) (h : AHeap) : (envL prog).call 53 args h = trim h (fin [.tmp 4] (runC (envL prog) (b53 (envL prog)) (args ++ List.replicate (19 - args.length) .undef) h)) :=
 call_tr (fn := Go.Proofs.Try.f53) tab53 (by kernel_rfl) (by rfl) (by kernel_rfl) (fun t h => by kernel_rfl) rfl args h
def tab54 : Nat → Cert := fun i => ⟨0, 0, 0, 0, 0, 0⟩
noncomputable def b54 (E : Env) : CT :=
 .seq (.reg [o 2 (sBox (X 0)),
  o 3 (sMov (K (.bool false)))])
 (.seq (.reg [o 4 (sFieldAddr 0 (X 2)),
  o 5 (sLoad 1 false (X 4)),
  o 6 (sLoad 1 false (X 1)),
  o 7 (sBin .eql .none (X 5) (X 6)),
  o 3 (sMov (X 7))])
 (.ret))
theorem c54 (args : T) (h : AHeap) : (envL prog).call 54 args h = trim h (fin [.tmp 3] (runC (envL prog) (b54 (envL prog)) (args ++ List.replicate (8 - args.length) .undef) h)) :=
 call_tr (fn := Go.Proofs.Try.f54) tab54 (by kernel_rfl) (by rfl) (by kernel_rfl) (fun t h => by kernel_rfl) rfl args h
def tab60 : Nat → Cert := fun i => ⟨0, 0, 0, 0, 0, 0⟩
noncomputable def b60 (E : Env) : CT :=
 .seq (.reg [o 2 (sMov (K (.bool false)))])
 (.seq (.reg [o 3 (sMov (X 0)),
  o 4 (sMov (X 0)),
  o 5 (sBin .neq .none (X 3) (X 4)),
  o 2 (sMov (X 5))])
 (.ret))
theorem c60 (args : T) (h : AHeap) : (envL prog).call 60 args h = trim h (fin [.tmp 2] (runC (envL prog) (b60 (envL prog)) (args ++ List.replicate (6 - args.length) .undef) h)) :=
 call_tr (fn := Go.Proofs.Try.f60) tab60 (by kernel_rfl) (by rfl) (by kernel_rfl) (fun t h => by kernel_rfl) rfl args h
end Go.Proofs.Ytfioahnogphnfaa.G12
