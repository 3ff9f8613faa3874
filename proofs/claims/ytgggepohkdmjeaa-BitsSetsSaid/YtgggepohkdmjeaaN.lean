/- What the functions that BitsSets reaches answer, for every argument. No condition but those in each statement. -/
import Derived.Test.YtgggepohkdmjeaaE4
import Derived.Test.YtgggepohkdmjeaaProg
set_option maxRecDepth 100000
set_option linter.unusedVariables false
namespace Go.Proofs.Ytgggepohkdmjeaa.G09
open Go Go.Proofs.Ytgggepohkdmjeaa.Eng
noncomputable abbrev prog : Program := Go.Proofs.Try.prog

/-! f3: revetment/revetmentlaw09.BitsTell -/
def tab3 : Nat → Cert := fun i => bif Nat.beq i 4 then ⟨6, 30, 33337376832, 33337376832, 766247770611350391099725497653669343182053959666761760, 15699724633057838686628505604978649013650718747⟩ else ⟨0, 0, 0, 0, 0, 0⟩
noncomputable def b3 (E : Env) : CT :=
  .seq (.reg [o 5 (sBox (X 2)),
    o 6 (sMov (K (.bool false)))])
  (.seq (.seq (.reg [o 11 (sMov (X 0)),
    o 12 (sLenSl (X 11)),
    o 13 (sBin .gtr .none (X 12) (K (.int .i64 600))),
    o 14 (sMov (X 13)),
    og 14 false 15 (sMov (X 1)),
    og 14 false 16 (sLenSl (X 15)),
    og 14 false 17 (sBin .gtr .none (X 16) (K (.int .i64 600))),
    o 18 (sPick (X 14) (K (.bool true)) (X 17))])
  (.ite (X 18)
  (.seq (.reg [o 19 (sCall E 6 []),
    o 6 (sMov (X 19))])
  (.ret))
  (.skip)))
  (.seq (.reg [o 20 (sBuildSl 1 0 [.int .u8 0] []),
    o 21 (sMov (X 0)),
    o 22 (sApp (ty 1 false 1 [.int .u8 0]) (X 20) (X 21)),
    o 23 (sBuildSl 1 0 [.int .u8 0] []),
    o 24 (sMov (X 1)),
    o 25 (sApp (ty 1 false 1 [.int .u8 0]) (X 23) (X 24)),
    o 7 (sMov (X 22)),
    o 8 (sMov (X 25))])
  (.seq (.drw [.op (o 26 (sIdxAddrA 2 1 (X 5) (K (.int .i64 0)))),
    .op (o 27 (sLoad 1 false (X 26))),
    .op (o 28 (sIdxAddrA 2 1 (X 5) (K (.int .i64 1)))),
    .op (o 29 (sLoad 1 false (X 28))),
    .op (o 9 (sMov (X 27))),
    .op (o 10 (sMov (X 29)))])
  (.seq (.reg [o 30 (sMov (X 7)),
    o 31 (sMov (X 9)),
    o 32 (sCall E 7 [(X 30), (X 31)]),
    o 33 (sMov (X 0)),
    o 34 (sMov (X 9)),
    o 35 (sCall E 8 [(X 33), (X 34)]),
    o 36 (sBin .eql .bool (X 32) (X 35)),
    o 37 (sMov (X 36)),
    og 37 true 38 (sMov (X 7)),
    og 37 true 39 (sMov (X 9)),
    og 37 true 40 (sCall E 10 [(X 38), (X 39)]),
    og 37 true 41 (sMov (X 0)),
    og 37 true 42 (sMov (X 9)),
    og 37 true 43 (sCall E 11 [(X 41), (X 42)]),
    og 37 true 44 (sCall E 9 [(X 40), (X 43)]),
    o 45 (sPick (X 37) (X 44) (K (.bool false))),
    o 46 (sMov (X 45)),
    og 46 true 47 (sMov (X 7)),
    og 46 true 48 (sMov (X 8)),
    og 46 true 49 (sCall E 12 [(X 47), (X 48)]),
    og 46 true 50 (sMov (X 0)),
    og 46 true 51 (sMov (X 1)),
    og 46 true 52 (sCall E 13 [(X 50), (X 51)]),
    og 46 true 53 (sCall E 9 [(X 49), (X 52)]),
    o 54 (sPick (X 46) (X 53) (K (.bool false))),
    o 55 (sMov (X 54)),
    og 55 true 56 (sMov (X 7)),
    og 55 true 57 (sCall E 14 [(X 56)]),
    og 55 true 58 (sMov (X 0)),
    og 55 true 59 (sCall E 15 [(X 58)]),
    og 55 true 60 (sLenSl (X 59)),
    og 55 true 61 (sBin .eql .none (X 57) (X 60)),
    o 62 (sPick (X 55) (X 61) (K (.bool false))),
    o 63 (sMov (X 62)),
    og 63 true 64 (sMov (X 7)),
    og 63 true 65 (sCall E 17 [(X 64)]),
    og 63 true 66 (sMov (X 0)),
    og 63 true 67 (sCall E 15 [(X 66)]),
    og 63 true 68 (sCall E 16 [(X 65), (X 67)]),
    o 69 (sPick (X 63) (X 68) (K (.bool false))),
    o 70 (sMov (X 69)),
    og 70 true 71 (sMov (X 7)),
    og 70 true 72 (sMov (X 10)),
    og 70 true 73 (sCall E 18 [(X 71), (X 72)]),
    og 70 true 74 (sMov (X 0)),
    og 70 true 75 (sMov (X 10)),
    og 70 true 76 (sCall E 19 [(X 74), (X 75)]),
    og 70 true 77 (sBin .eql .bool (X 73) (X 76)),
    o 78 (sPick (X 70) (X 77) (K (.bool false))),
    o 79 (sMov (X 78)),
    og 79 true 80 (sMov (X 10)),
    og 79 true 81 (sCall E 20 [(X 80)]),
    og 79 true 82 (sMov (X 10)),
    og 79 true 83 (sCall E 21 [(X 82)]),
    og 79 true 84 (sCall E 9 [(X 81), (X 83)]),
    o 85 (sPick (X 79) (X 84) (K (.bool false))),
    o 86 (sMov (X 85)),
    og 86 true 87 (sMov (X 7)),
    og 86 true 88 (sMov (X 0)),
    og 86 true 89 (sCall E 9 [(X 87), (X 88)]),
    o 90 (sPick (X 86) (X 89) (K (.bool false))),
    o 91 (sMov (X 90)),
    og 91 true 92 (sMov (X 8)),
    og 91 true 93 (sMov (X 1)),
    og 91 true 94 (sCall E 9 [(X 92), (X 93)]),
    o 95 (sPick (X 91) (X 94) (K (.bool false))),
    o 96 (sMov (X 95)),
    og 96 true 97 (sCall E 6 []),
    o 98 (sPick (X 96) (X 97) (K (.bool false))),
    o 6 (sMov (X 98))])
  (.ret)))))
theorem c3 (args : T) (h : AHeap) : (envL prog).call 3 args h = trim h (fin [.tmp 6] (runC (envL prog) (b3 (envL prog)) (args ++ List.replicate (99 - args.length) .undef) h)) :=
  call_tr (fn := Go.Proofs.Try.f3) tab3 (by kernel_rfl) (by rfl) (by kernel_rfl) (fun t h => by kernel_rfl) rfl args h
theorem d3 (E : Env) (args : T) (h : AHeap) : callBody prog E 3 args h = trim h (fin [.tmp 6] (runC E (b3 E) (args ++ List.replicate (99 - args.length) .undef) h)) :=
  body_tr (fn := Go.Proofs.Try.f3) tab3 (by kernel_rfl) (by rfl) (by kernel_rfl) (fun t h => by kernel_rfl) rfl args h
/-! f4: revetment/revetmentlaw09.BitsSets -/
def tab4 : Nat → Cert := fun i => bif Nat.beq i 1 then ⟨6, 21, 33337376832, 33337376832, 42535300935724544549118031444848934944, 365083527608428669204319805898770⟩ else ⟨0, 0, 0, 0, 0, 0⟩
noncomputable def l4x0 (E : Env) : CT :=
  .seq (.seq (.reg [o 40 (sMov (X 11)),
    o 41 (sMov (X 1)),
    o 42 (sLenSl (X 41)),
    o 43 (sBin .lss .none (X 40) (X 42))])
  (.ite (X 43)
  (.skip)
  (.exit 0)))
  (.seq (.block 1 (.reg [o 46 (sMov (X 10)),
    o 47 (sMov (X 1)),
    o 48 (sMov (X 11)),
    o 49 (sIdxAddrS 1 (X 47) (X 48)),
    o 50 (sLoad 1 false (X 49)),
    o 51 (sConv (.int .i64) (X 50)),
    o 52 (sMov (X 9)),
    o 53 (sBin .rem .none (X 51) (X 52)),
    o 54 (sCall E 10 [(X 46), (X 53)]),
    o 10 (sMov (X 54))]))
  (.reg [o 44 (sMov (X 11)),
    o 45 (sBin .add .none (X 44) (K (.int .i64 1))),
    o 11 (sMov (X 45))]))
noncomputable def l4x1 (E : Env) : CT :=
  .seq (.seq (.reg [o 72 (sMov (X 14)),
    o 73 (sMov (X 1)),
    o 74 (sLenSl (X 73)),
    o 75 (sBin .lss .none (X 72) (X 74))])
  (.ite (X 75)
  (.skip)
  (.exit 4)))
  (.seq (.block 5 (.reg [o 78 (sMov (X 13)),
    o 79 (sMov (X 78)),
    og 79 false 80 (sMov (X 1)),
    og 79 false 81 (sMov (X 14)),
    og 79 false 82 (sIdxAddrS 1 (X 80) (X 81)),
    og 79 false 83 (sLoad 1 false (X 82)),
    og 79 false 84 (sConv (.int .i64) (X 83)),
    og 79 false 85 (sMov (X 9)),
    og 79 false 86 (sBin .rem .none (X 84) (X 85)),
    og 79 false 87 (sMov (X 12)),
    og 79 false 88 (sBin .eql .none (X 86) (X 87)),
    o 89 (sPick (X 79) (K (.bool true)) (X 88)),
    o 13 (sMov (X 89))]))
  (.reg [o 76 (sMov (X 14)),
    o 77 (sBin .add .none (X 76) (K (.int .i64 1))),
    o 14 (sMov (X 77))]))
noncomputable def l4x2 (E : Env) : CT :=
  .seq (.seq (.reg [o 67 (sMov (X 12)),
    o 68 (sMov (X 9)),
    o 69 (sBin .lss .none (X 67) (X 68))])
  (.ite (X 69)
  (.skip)
  (.exit 2)))
  (.seq (.block 3 (.seq (.reg [o 13 (sMov (K (.bool false)))])
  (.seq (.seq (.reg [o 14 (sMov (K (.int .i64 0)))])
  (.block 4 (.loop (l4x1 E))))
  (.seq (.reg [o 90 (sMov (X 10)),
    o 91 (sMov (X 12)),
    o 92 (sCall E 7 [(X 90), (X 91)]),
    o 93 (sMov (X 13)),
    o 94 (sBin .neq .bool (X 92) (X 93))])
  (.ite (X 94)
  (.seq (.reg [o 6 (sMov (K (.bool false)))])
  (.ret))
  (.skip))))))
  (.reg [o 70 (sMov (X 12)),
    o 71 (sBin .add .none (X 70) (K (.int .i64 1))),
    o 12 (sMov (X 71))]))
noncomputable def l4x3 (E : Env) : CT :=
  .seq (.seq (.reg [o 98 (sMov (X 16)),
    o 99 (sMov (X 7)),
    o 100 (sLenSl (X 99)),
    o 101 (sMov (X 8)),
    o 102 (sLenSl (X 101)),
    o 103 (sMax [(X 100), (X 102)]),
    o 104 (sBin .mul .none (K (.int .i64 8)) (X 103)),
    o 105 (sBin .lss .none (X 98) (X 104))])
  (.ite (X 105)
  (.skip)
  (.exit 6)))
  (.seq (.block 7 (.seq (.reg [o 108 (sMov (X 15)),
    o 109 (sMov (X 16)),
    o 110 (sCall E 7 [(X 108), (X 109)]),
    o 111 (sMov (X 7)),
    o 112 (sMov (X 16)),
    o 113 (sCall E 7 [(X 111), (X 112)]),
    o 114 (sMov (X 113)),
    og 114 false 115 (sMov (X 8)),
    og 114 false 116 (sMov (X 16)),
    og 114 false 117 (sCall E 7 [(X 115), (X 116)]),
    o 118 (sPick (X 114) (K (.bool true)) (X 117)),
    o 119 (sBin .neq .bool (X 110) (X 118))])
  (.ite (X 119)
  (.seq (.reg [o 6 (sMov (K (.bool false)))])
  (.ret))
  (.skip))))
  (.reg [o 106 (sMov (X 16)),
    o 107 (sBin .add .none (X 106) (K (.int .i64 1))),
    o 16 (sMov (X 107))]))
noncomputable def b4 (E : Env) : CT :=
  .seq (.reg [o 5 (sBox (X 2)),
    o 6 (sMov (K (.bool false)))])
  (.seq (.drw [.op (o 17 (sIdxAddrA 2 1 (X 5) (K (.int .i64 0)))),
    .op (o 18 (sLoad 1 false (X 17))),
    .op (o 19 (sIdxAddrA 2 1 (X 5) (K (.int .i64 1)))),
    .op (o 20 (sLoad 1 false (X 19))),
    .op (o 7 (sMov (X 18))),
    .op (o 8 (sMov (X 20)))])
  (.seq (.seq (.reg [o 21 (sMov (X 1)),
    o 22 (sLenSl (X 21)),
    o 23 (sBin .gtr .none (X 22) (K (.int .i64 100))),
    o 24 (sMov (X 23)),
    og 24 false 25 (sMov (X 7)),
    og 24 false 26 (sLenSl (X 25)),
    og 24 false 27 (sBin .gtr .none (X 26) (K (.int .i64 40))),
    o 28 (sPick (X 24) (K (.bool true)) (X 27)),
    o 29 (sMov (X 28)),
    og 29 false 30 (sMov (X 8)),
    og 29 false 31 (sLenSl (X 30)),
    og 29 false 32 (sBin .gtr .none (X 31) (K (.int .i64 40))),
    o 33 (sPick (X 29) (K (.bool true)) (X 32))])
  (.ite (X 33)
  (.seq (.reg [o 34 (sCall E 6 []),
    o 6 (sMov (X 34))])
  (.ret))
  (.skip)))
  (.seq (.reg [o 35 (sMov (X 0)),
    o 36 (sConv (.int .i64) (X 35)),
    o 37 (sBin .add .none (K (.int .i64 1)) (X 36)),
    o 9 (sMov (X 37))])
  (.seq (.reg [o 38 (sMov (X 9)),
    o 39 (sCall E 20 [(X 38)]),
    o 10 (sMov (X 39))])
  (.seq (.seq (.reg [o 11 (sMov (K (.int .i64 0)))])
  (.block 0 (.loop (l4x0 E))))
  (.seq (.seq (.reg [o 55 (sMov (X 10)),
    o 56 (sMov (X 9)),
    o 57 (sCall E 18 [(X 55), (X 56)]),
    o 58 (sUn .not (X 57)),
    o 59 (sMov (X 58)),
    og 59 false 60 (sMov (X 10)),
    og 59 false 61 (sCall E 14 [(X 60)]),
    og 59 false 62 (sMov (X 10)),
    og 59 false 63 (sCall E 17 [(X 62)]),
    og 59 false 64 (sLenSl (X 63)),
    og 59 false 65 (sBin .neq .none (X 61) (X 64)),
    o 66 (sPick (X 59) (K (.bool true)) (X 65))])
  (.ite (X 66)
  (.seq (.reg [o 6 (sMov (K (.bool false)))])
  (.ret))
  (.skip)))
  (.seq (.seq (.reg [o 12 (sMov (K (.int .i64 0)))])
  (.block 2 (.loop (l4x2 E))))
  (.seq (.reg [o 95 (sMov (X 7)),
    o 96 (sMov (X 8)),
    o 97 (sCall E 12 [(X 95), (X 96)]),
    o 15 (sMov (X 97))])
  (.seq (.seq (.reg [o 16 (sMov (K (.int .i64 0)))])
  (.block 6 (.loop (l4x3 E))))
  (.seq (.reg [o 120 (sMov (X 15)),
    o 121 (sCall E 14 [(X 120)]),
    o 122 (sMov (X 7)),
    o 123 (sCall E 14 [(X 122)]),
    o 124 (sMov (X 8)),
    o 125 (sCall E 14 [(X 124)]),
    o 126 (sBin .add .none (X 123) (X 125)),
    o 127 (sBin .leq .none (X 121) (X 126)),
    o 128 (sMov (X 127)),
    og 128 true 129 (sCall E 6 []),
    o 130 (sPick (X 128) (X 129) (K (.bool false))),
    o 6 (sMov (X 130))])
  (.ret)))))))))))
theorem c4 (args : T) (h : AHeap) : (envL prog).call 4 args h = trim h (fin [.tmp 6] (runC (envL prog) (b4 (envL prog)) (args ++ List.replicate (131 - args.length) .undef) h)) :=
  call_tr (fn := Go.Proofs.Try.f4) tab4 (by kernel_rfl) (by rfl) (by kernel_rfl) (fun t h => by kernel_rfl) rfl args h
theorem d4 (E : Env) (args : T) (h : AHeap) : callBody prog E 4 args h = trim h (fin [.tmp 6] (runC E (b4 E) (args ++ List.replicate (131 - args.length) .undef) h)) :=
  body_tr (fn := Go.Proofs.Try.f4) tab4 (by kernel_rfl) (by rfl) (by kernel_rfl) (fun t h => by kernel_rfl) rfl args h
/-! f5: revetment/revetmentlaw09.BitsLaws -/
def tab5 : Nat → Cert := fun i => bif Nat.beq i 10 then ⟨34, 98, 244704244628784306246423805413402028252279277233408141931976927335390998802559713008149736342924012521204650359004312556484263669168858441654763778444902630513945974749540099081166899689948049024316735531812208341856554759193658089762285442843265648750202539295451583654218309315878693937533531576527021662829089755547182214152879085017132972376064, 489378619900048178621462846561295099310221284145774990184780120458253742546652427723559663779365946060724396466765978817000404824555459153643318953598593209185656162900105989633062571033778060863883732802352955511370851872174893519498482867825663204171081021072120782815949937109286444298205233893745143058587497849729012455835717193275936757252096, 5381979796725816935432974183616613250494107674918920515611501132660564282984190754611533548531004167710186064277394571492855905719511430917676939085528064902572614631004239942538856904249452346315409734523197988357280468925328603242397094824129178589085181869621151856512003567223065936343116906307364638204637358392065786358471031223188145706540267440701016167795485177164888977132262594512875018105958066785267416081898962151937661047425178010463167729120247339595894336697537974584603820329088781476359628729173134990507830910436385820517678802233760978472074152286355317660954083013760077710961613437614092997770021147264322323021395179150013807262135860841992724122920700104056868926572061199952429369439645000696213859448953088083131739069832083128967281334756044799843513777140766833493202222511052358748749626270775410714925389258940459401864966589747019017182714336822135252682292239603996567944050819498097551293363148002817949791114142449638376222336075239800308613221575675979644373705949312, 3362336475094326987960933420158397872883638906663706057691939559139509031880210900146279954828261489340936952863474902823100904616927944234484984491709671240574263581450542245753818542792472642945276161771791385297447670372061811136645970743764720749280559985032803159939703685783280033916027847275861517406755496782790922357727993366624780225033823405042508883803519699702581472078876978526297688245439032818562272647161739680106557448020929736550507897499030118602950850534123930942529676157889141038508531543812381610179581987297775532160693692414186798958408547349432139479774183151320740461970757583116807372014698071726032772478916623952062420351291632142312890726337639077643157475566552304602659908985875714806967430397740242933024861665903251194782186624828357634305242451355360126088056005249793706198541005864088271773735602124155904362567760079142304718979571695068485239478304520301618066511166775013029597606112156090256354284842596587325034213989960583271678018⟩ else ⟨0, 0, 0, 0, 0, 0⟩
noncomputable def l5x0 (E : Env) : CT :=
  .seq (.seq (.reg [o 59 (sMov (X 10)),
    o 60 (sMov (X 9)),
    o 61 (sLenSl (X 60)),
    o 62 (sBin .lss .none (X 59) (X 61))])
  (.ite (X 62)
  (.skip)
  (.exit 0)))
  (.seq (.block 1 (.seq (.drw [.op (o 65 (sMov (X 7))),
    .op (o 66 (sMov (X 9))),
    .op (o 67 (sMov (X 10))),
    .op (o 68 (sIdxAddrS 1 (X 66) (X 67))),
    .op (o 69 (sLoad 1 false (X 68))),
    .hv 31 (o 70 (sCall E 7 [(X 65), (X 69)])),
    .op (o 71 (sUn .not (X 70))),
    .op (o 72 (sMov (X 71))),
    .op (og 72 false 73 (sMov (X 0))),
    .op (og 72 false 74 (sMov (X 9))),
    .op (og 72 false 75 (sMov (X 10))),
    .op (og 72 false 76 (sIdxAddrS 1 (X 74) (X 75))),
    .op (og 72 false 77 (sLoad 1 false (X 76))),
    .op (og 72 false 79 (sMov (X 0))),
    .hv 8191 (og 72 false 78 (sCall E 10 [(X 73), (X 77)])),
    .hv 32767 (og 72 false 80 (sCall E 9 [(X 78), (X 79)])),
    .op (og 72 false 81 (sUn .not (X 80))),
    .op (o 82 (sPick (X 72) (K (.bool true)) (X 81))),
    .op (o 83 (sMov (X 82))),
    .op (og 83 false 84 (sMov (X 10))),
    .op (og 83 false 85 (sBin .gtr .none (X 84) (K (.int .i64 0)))),
    .op (og 83 false 86 (sMov (X 85))),
    .op (og 86 true 87 (sMov (X 9))),
    .op (og 86 true 88 (sMov (X 10))),
    .op (og 86 true 89 (sIdxAddrS 1 (X 87) (X 88))),
    .op (og 86 true 90 (sLoad 1 false (X 89))),
    .op (og 86 true 91 (sMov (X 9))),
    .op (og 86 true 92 (sMov (X 10))),
    .op (og 86 true 93 (sBin .sub .none (X 92) (K (.int .i64 1)))),
    .op (og 86 true 94 (sIdxAddrS 1 (X 91) (X 93))),
    .op (og 86 true 95 (sLoad 1 false (X 94))),
    .op (og 86 true 96 (sBin .leq .none (X 90) (X 95))),
    .op (og 83 false 97 (sPick (X 86) (X 96) (K (.bool false)))),
    .op (o 98 (sPick (X 83) (K (.bool true)) (X 97)))])
  (.ite (X 98)
  (.seq (.reg [o 6 (sMov (K (.bool false)))])
  (.ret))
  (.skip))))
  (.reg [o 63 (sMov (X 10)),
    o 64 (sBin .add .none (X 63) (K (.int .i64 1))),
    o 10 (sMov (X 64))]))
noncomputable def b5 (E : Env) : CT :=
  .seq (.reg [o 6 (sMov (K (.bool false)))])
  (.seq (.seq (.reg [o 11 (sMov (X 0)),
    o 12 (sLenSl (X 11)),
    o 13 (sBin .gtr .none (X 12) (K (.int .i64 40))),
    o 14 (sMov (X 13)),
    og 14 false 15 (sMov (X 1)),
    og 14 false 16 (sLenSl (X 15)),
    og 14 false 17 (sBin .gtr .none (X 16) (K (.int .i64 40))),
    o 18 (sPick (X 14) (K (.bool true)) (X 17)),
    o 19 (sMov (X 18)),
    og 19 false 20 (sMov (X 2)),
    og 19 false 21 (sLenSl (X 20)),
    og 19 false 22 (sBin .gtr .none (X 21) (K (.int .i64 40))),
    o 23 (sPick (X 19) (K (.bool true)) (X 22))])
  (.ite (X 23)
  (.seq (.reg [o 24 (sCall E 6 []),
    o 6 (sMov (X 24))])
  (.ret))
  (.skip)))
  (.seq (.reg [o 25 (sMov (X 0)),
    o 26 (sMov (X 1)),
    o 27 (sMov (X 2)),
    o 28 (sCall E 12 [(X 26), (X 27)]),
    o 29 (sCall E 12 [(X 25), (X 28)]),
    o 30 (sMov (X 0)),
    o 31 (sMov (X 1)),
    o 32 (sCall E 12 [(X 30), (X 31)]),
    o 33 (sMov (X 2)),
    o 34 (sCall E 12 [(X 32), (X 33)]),
    o 7 (sMov (X 29)),
    o 8 (sMov (X 34))])
  (.seq (.seq (.reg [o 35 (sMov (X 7)),
    o 36 (sMov (X 8)),
    o 37 (sCall E 9 [(X 35), (X 36)]),
    o 38 (sUn .not (X 37)),
    o 39 (sMov (X 38)),
    og 39 false 40 (sMov (X 0)),
    og 39 false 41 (sMov (X 1)),
    og 39 false 42 (sCall E 12 [(X 40), (X 41)]),
    og 39 false 43 (sMov (X 1)),
    og 39 false 44 (sMov (X 0)),
    og 39 false 45 (sCall E 12 [(X 43), (X 44)]),
    og 39 false 46 (sCall E 9 [(X 42), (X 45)]),
    og 39 false 47 (sUn .not (X 46)),
    o 48 (sPick (X 39) (K (.bool true)) (X 47)),
    o 49 (sMov (X 48)),
    og 49 false 50 (sMov (X 0)),
    og 49 false 51 (sMov (X 0)),
    og 49 false 52 (sCall E 12 [(X 50), (X 51)]),
    og 49 false 53 (sMov (X 0)),
    og 49 false 54 (sCall E 9 [(X 52), (X 53)]),
    og 49 false 55 (sUn .not (X 54)),
    o 56 (sPick (X 49) (K (.bool true)) (X 55))])
  (.ite (X 56)
  (.seq (.reg [o 6 (sMov (K (.bool false)))])
  (.ret))
  (.skip)))
  (.seq (.reg [o 57 (sMov (X 0)),
    o 58 (sCall E 17 [(X 57)]),
    o 9 (sMov (X 58))])
  (.seq (.seq (.reg [o 10 (sMov (K (.int .i64 0)))])
  (.block 0 (.loop (l5x0 E))))
  (.seq (.reg [o 99 (sMov (X 7)),
    o 100 (sCall E 14 [(X 99)]),
    o 101 (sMov (X 0)),
    o 102 (sCall E 14 [(X 101)]),
    o 103 (sBin .geq .none (X 100) (X 102)),
    o 104 (sMov (X 103)),
    og 104 true 105 (sMov (X 0)),
    og 104 true 106 (sCall E 14 [(X 105)]),
    og 104 true 107 (sMov (X 9)),
    og 104 true 108 (sLenSl (X 107)),
    og 104 true 109 (sBin .eql .none (X 106) (X 108)),
    o 110 (sPick (X 104) (X 109) (K (.bool false))),
    o 111 (sMov (X 110)),
    og 111 true 112 (sCall E 6 []),
    o 113 (sPick (X 111) (X 112) (K (.bool false))),
    o 6 (sMov (X 113))])
  (.ret)))))))
theorem c5 (args : T) (h : AHeap) : (envL prog).call 5 args h = trim h (fin [.tmp 6] (runC (envL prog) (b5 (envL prog)) (args ++ List.replicate (114 - args.length) .undef) h)) :=
  call_tr (fn := Go.Proofs.Try.f5) tab5 (by kernel_rfl) (by rfl) (by kernel_rfl) (fun t h => by kernel_rfl) rfl args h
theorem d5 (E : Env) (args : T) (h : AHeap) : callBody prog E 5 args h = trim h (fin [.tmp 6] (runC E (b5 E) (args ++ List.replicate (114 - args.length) .undef) h)) :=
  body_tr (fn := Go.Proofs.Try.f5) tab5 (by kernel_rfl) (by rfl) (by kernel_rfl) (fun t h => by kernel_rfl) rfl args h
/-! f7: revetment/bits.Has -/
def tab7 : Nat → Cert := fun i => ⟨0, 0, 0, 0, 0, 0⟩
noncomputable def b7 (E : Env) : CT :=
  .seq (.reg [o 4 (sMov (K (.bool false)))])
  (.seq (.reg [o 5 (sMov (X 1)),
    o 6 (sBin .geq .none (X 5) (K (.int .i64 0))),
    o 7 (sMov (X 6)),
    og 7 true 8 (sMov (X 1)),
    og 7 true 9 (sBin .quo .none (X 8) (K (.int .i64 8))),
    og 7 true 10 (sMov (X 0)),
    og 7 true 11 (sLenSl (X 10)),
    og 7 true 12 (sBin .lss .none (X 9) (X 11)),
    o 13 (sPick (X 7) (X 12) (K (.bool false))),
    o 14 (sMov (X 13)),
    og 14 true 15 (sMov (X 0)),
    og 14 true 16 (sMov (X 1)),
    og 14 true 17 (sBin .quo .none (X 16) (K (.int .i64 8))),
    og 14 true 18 (sIdxAddrS 1 (X 15) (X 17)),
    og 14 true 19 (sLoad 1 false (X 18)),
    og 14 true 20 (sMov (X 1)),
    og 14 true 21 (sBin .rem .none (X 20) (K (.int .i64 8))),
    og 14 true 22 (sBin .shr .none (X 19) (X 21)),
    og 14 true 23 (sBin .and .none (X 22) (K (.int .u8 1))),
    og 14 true 24 (sBin .eql .none (X 23) (K (.int .u8 1))),
    o 25 (sPick (X 14) (X 24) (K (.bool false))),
    o 4 (sMov (X 25))])
  (.ret))
theorem c7 (args : T) (h : AHeap) : (envL prog).call 7 args h = trim h (fin [.tmp 4] (runC (envL prog) (b7 (envL prog)) (args ++ List.replicate (26 - args.length) .undef) h)) :=
  call_tr (fn := Go.Proofs.Try.f7) tab7 (by kernel_rfl) (by rfl) (by kernel_rfl) (fun t h => by kernel_rfl) rfl args h
/-! f8: revetment/revetmentref09.Has -/
def tab8 : Nat → Cert := fun i => ⟨0, 0, 0, 0, 0, 0⟩
noncomputable def b8 (E : Env) : CT :=
  .seq (.reg [o 4 (sMov (K (.bool false)))])
  (.seq (.reg [o 5 (sMov (X 1)),
    o 6 (sBin .geq .none (X 5) (K (.int .i64 0))),
    o 7 (sMov (X 6)),
    og 7 true 8 (sMov (X 1)),
    og 7 true 9 (sBin .quo .none (X 8) (K (.int .i64 8))),
    og 7 true 10 (sMov (X 0)),
    og 7 true 11 (sLenSl (X 10)),
    og 7 true 12 (sBin .lss .none (X 9) (X 11)),
    o 13 (sPick (X 7) (X 12) (K (.bool false))),
    o 14 (sMov (X 13)),
    og 14 true 15 (sMov (X 0)),
    og 14 true 16 (sMov (X 1)),
    og 14 true 17 (sBin .quo .none (X 16) (K (.int .i64 8))),
    og 14 true 18 (sIdxAddrS 1 (X 15) (X 17)),
    og 14 true 19 (sLoad 1 false (X 18)),
    og 14 true 20 (sMov (X 1)),
    og 14 true 21 (sBin .rem .none (X 20) (K (.int .i64 8))),
    og 14 true 22 (sConv (.int .u64) (X 21)),
    og 14 true 23 (sBin .shr .none (X 19) (X 22)),
    og 14 true 24 (sBin .and .none (X 23) (K (.int .u8 1))),
    og 14 true 25 (sBin .eql .none (X 24) (K (.int .u8 1))),
    o 26 (sPick (X 14) (X 25) (K (.bool false))),
    o 4 (sMov (X 26))])
  (.ret))
theorem c8 (args : T) (h : AHeap) : (envL prog).call 8 args h = trim h (fin [.tmp 4] (runC (envL prog) (b8 (envL prog)) (args ++ List.replicate (27 - args.length) .undef) h)) :=
  call_tr (fn := Go.Proofs.Try.f8) tab8 (by kernel_rfl) (by rfl) (by kernel_rfl) (fun t h => by kernel_rfl) rfl args h
/-! f9: revetment/revetmentkeep.Bytes -/
def tab9 : Nat → Cert := fun i => ⟨0, 0, 0, 0, 0, 0⟩
noncomputable def b9 (E : Env) : CT :=
  .seq (.reg [o 4 (sMov (K (.bool false)))])
  (.seq (.reg [o 5 (sMov (X 0)),
    o 6 (sConv .bytesStr (X 5)),
    o 7 (sMov (X 1)),
    o 8 (sConv .bytesStr (X 7)),
    o 9 (sBin .eql .none (X 6) (X 8)),
    o 4 (sMov (X 9))])
  (.ret))
theorem c9 (args : T) (h : AHeap) : (envL prog).call 9 args h = trim h (fin [.tmp 4] (runC (envL prog) (b9 (envL prog)) (args ++ List.replicate (10 - args.length) .undef) h)) :=
  call_tr (fn := Go.Proofs.Try.f9) tab9 (by kernel_rfl) (by rfl) (by kernel_rfl) (fun t h => by kernel_rfl) rfl args h
/-! f10: revetment/bits.With -/
def tab10 : Nat → Cert := fun i => bif Nat.beq i 3 then ⟨11, 26, 1328253850874155660622745988902158336, 1328253885231827454070630296533860352, 93248106835881256258031845075696420860476460516599896587251817961211673134750893080577, 717781630350622264270326397179332048461330486666954110230571578113916945⟩ else ⟨0, 0, 0, 0, 0, 0⟩
noncomputable def b10 (E : Env) : CT :=
  .seq (.reg [o 4 (sMov (K (.nilSl)))])
  (.seq (.reg [o 5 (sMov (X 0)),
    o 6 (sCall E 22 [(X 5)]),
    o 0 (sMov (X 6))])
  (.seq (.seq (.reg [o 7 (sMov (X 1)),
    o 8 (sBin .geq .none (X 7) (K (.int .i64 0))),
    o 9 (sMov (X 8)),
    og 9 true 10 (sMov (X 1)),
    og 9 true 11 (sBin .quo .none (X 10) (K (.int .i64 8))),
    og 9 true 12 (sMov (X 0)),
    og 9 true 13 (sLenSl (X 12)),
    og 9 true 14 (sBin .lss .none (X 11) (X 13)),
    o 15 (sPick (X 9) (X 14) (K (.bool false)))])
  (.ite (X 15)
  (.drw [.op (o 16 (sMov (X 0))),
    .op (o 17 (sMov (X 1))),
    .op (o 18 (sBin .quo .none (X 17) (K (.int .i64 8)))),
    .op (o 19 (sIdxAddrS 1 (X 16) (X 18))),
    .op (o 20 (sLoad 1 false (X 19))),
    .op (o 21 (sMov (X 1))),
    .op (o 22 (sBin .rem .none (X 21) (K (.int .i64 8)))),
    .op (o 23 (sBin .shl .none (K (.int .u8 1)) (X 22))),
    .op (o 24 (sBin .or .none (X 20) (X 23))),
    .op (o 25 (sIdxAddrS 1 (X 16) (X 18))),
    .hv 1023 (u (sStore 1 (X 25) (X 24)))])
  (.skip)))
  (.seq (.reg [o 26 (sMov (X 0)),
    o 4 (sMov (X 26))])
  (.ret))))
theorem c10 (args : T) (h : AHeap) : (envL prog).call 10 args h = trim h (fin [.tmp 4] (runC (envL prog) (b10 (envL prog)) (args ++ List.replicate (27 - args.length) .undef) h)) :=
  call_tr (fn := Go.Proofs.Try.f10) tab10 (by kernel_rfl) (by rfl) (by kernel_rfl) (fun t h => by kernel_rfl) rfl args h
/-! f11: revetment/revetmentref09.With -/
def tab11 : Nat → Cert := fun i => ⟨0, 0, 0, 0, 0, 0⟩
noncomputable def b11 (E : Env) : CT :=
  .seq (.reg [o 4 (sMov (K (.nilSl)))])
  (.seq (.reg [o 6 (sBuildSl 1 0 [.int .u8 0] []),
    o 7 (sMov (X 0)),
    o 8 (sApp (ty 1 false 1 [.int .u8 0]) (X 6) (X 7)),
    o 5 (sMov (X 8))])
  (.seq (.seq (.reg [o 9 (sMov (X 1)),
    o 10 (sBin .geq .none (X 9) (K (.int .i64 0))),
    o 11 (sMov (X 10)),
    og 11 true 12 (sMov (X 1)),
    og 11 true 13 (sBin .quo .none (X 12) (K (.int .i64 8))),
    og 11 true 14 (sMov (X 0)),
    og 11 true 15 (sLenSl (X 14)),
    og 11 true 16 (sBin .lss .none (X 13) (X 15)),
    o 17 (sPick (X 11) (X 16) (K (.bool false)))])
  (.ite (X 17)
  (.reg [o 18 (sMov (X 5)),
    o 19 (sMov (X 1)),
    o 20 (sBin .quo .none (X 19) (K (.int .i64 8))),
    o 21 (sIdxAddrS 1 (X 18) (X 20)),
    o 22 (sLoad 1 false (X 21)),
    o 23 (sMov (X 1)),
    o 24 (sBin .rem .none (X 23) (K (.int .i64 8))),
    o 25 (sConv (.int .u64) (X 24)),
    o 26 (sBin .shl .none (K (.int .u8 1)) (X 25)),
    o 27 (sBin .or .none (X 22) (X 26)),
    o 28 (sIdxAddrS 1 (X 18) (X 20)),
    u (sStore 1 (X 28) (X 27))])
  (.skip)))
  (.seq (.reg [o 29 (sMov (X 5)),
    o 4 (sMov (X 29))])
  (.ret))))
theorem c11 (args : T) (h : AHeap) : (envL prog).call 11 args h = trim h (fin [.tmp 4] (runC (envL prog) (b11 (envL prog)) (args ++ List.replicate (30 - args.length) .undef) h)) :=
  call_tr (fn := Go.Proofs.Try.f11) tab11 (by kernel_rfl) (by rfl) (by kernel_rfl) (fun t h => by kernel_rfl) rfl args h
/-! f12: revetment/bits.Or -/
def tab12 : Nat → Cert := fun i => ⟨0, 0, 0, 0, 0, 0⟩
noncomputable def l12x0 (E : Env) : CT :=
  .seq (.reg [o 20 (sBin .lss .none (X 19) (X 18))])
  (.seq (.ite (X 20)
  (.skip)
  (.exit 0))
  (.seq (.block 1 (.seq (.reg [o 21 (sMov (X 19)),
    o 22 (sIdxAddrS 1 (X 17) (X 19)),
    o 23 (sLoad 1 false (X 22)),
    o 6 (sMov (X 21)),
    o 7 (sMov (X 23))])
  (.reg [o 24 (sMov (X 5)),
    o 25 (sMov (X 6)),
    o 26 (sIdxAddrS 1 (X 24) (X 25)),
    o 27 (sLoad 1 false (X 26)),
    o 28 (sMov (X 7)),
    o 29 (sBin .or .none (X 27) (X 28)),
    o 30 (sIdxAddrS 1 (X 24) (X 25)),
    u (sStore 1 (X 30) (X 29))])))
  (.reg [o 31 (sBin .add .none (X 19) (K (.int .i64 1))),
    o 19 (sMov (X 31))])))
noncomputable def b12 (E : Env) : CT :=
  .seq (.reg [o 4 (sMov (K (.nilSl)))])
  (.seq (.seq (.reg [o 8 (sMov (X 0)),
    o 9 (sLenSl (X 8)),
    o 10 (sMov (X 1)),
    o 11 (sLenSl (X 10)),
    o 12 (sBin .lss .none (X 9) (X 11))])
  (.ite (X 12)
  (.reg [o 13 (sMov (X 1)),
    o 14 (sMov (X 0)),
    o 0 (sMov (X 13)),
    o 1 (sMov (X 14))])
  (.skip)))
  (.seq (.reg [o 15 (sMov (X 0)),
    o 16 (sCall E 22 [(X 15)]),
    o 5 (sMov (X 16))])
  (.seq (.seq (.reg [o 17 (sMov (X 1)),
    o 18 (sLenSl (X 17)),
    o 19 (sMov (K (.int .i64 0)))])
  (.block 0 (.loop (l12x0 E))))
  (.seq (.reg [o 32 (sMov (X 5)),
    o 4 (sMov (X 32))])
  (.ret)))))
theorem c12 (args : T) (h : AHeap) : (envL prog).call 12 args h = trim h (fin [.tmp 4] (runC (envL prog) (b12 (envL prog)) (args ++ List.replicate (33 - args.length) .undef) h)) :=
  call_tr (fn := Go.Proofs.Try.f12) tab12 (by kernel_rfl) (by rfl) (by kernel_rfl) (fun t h => by kernel_rfl) rfl args h
/-! f13: revetment/revetmentref09.Or -/
def tab13 : Nat → Cert := fun i => bif Nat.beq i 7 then ⟨11, 33, 1328253848398276762643465410441117696, 1328253885234246486301216389508104192, 14091255496649407328478464291060925394467128761474491194539546969726753957315631493263235123535223698745196576, 8402773403328323900996409805985884197567015881457428882869048476025114205799652566344138776⟩ else ⟨0, 0, 0, 0, 0, 0⟩
noncomputable def l13x0 (E : Env) : CT :=
  .seq (.seq (.reg [o 17 (sMov (X 6)),
    o 18 (sMov (X 1)),
    o 19 (sLenSl (X 18)),
    o 20 (sBin .lss .none (X 17) (X 19))])
  (.ite (X 20)
  (.skip)
  (.exit 0)))
  (.seq (.block 1 (.drw [.op (o 23 (sMov (X 5))),
    .op (o 24 (sMov (X 6))),
    .op (o 25 (sIdxAddrS 1 (X 23) (X 24))),
    .op (o 26 (sLoad 1 false (X 25))),
    .op (o 27 (sMov (X 1))),
    .op (o 28 (sMov (X 6))),
    .op (o 29 (sIdxAddrS 1 (X 27) (X 28))),
    .op (o 30 (sLoad 1 false (X 29))),
    .op (o 31 (sBin .or .none (X 26) (X 30))),
    .op (o 32 (sIdxAddrS 1 (X 23) (X 24))),
    .hv 1023 (u (sStore 1 (X 32) (X 31)))]))
  (.reg [o 21 (sMov (X 6)),
    o 22 (sBin .add .none (X 21) (K (.int .i64 1))),
    o 6 (sMov (X 22))]))
noncomputable def b13 (E : Env) : CT :=
  .seq (.reg [o 4 (sMov (K (.nilSl)))])
  (.seq (.seq (.reg [o 7 (sMov (X 0)),
    o 8 (sLenSl (X 7)),
    o 9 (sMov (X 1)),
    o 10 (sLenSl (X 9)),
    o 11 (sBin .lss .none (X 8) (X 10))])
  (.ite (X 11)
  (.reg [o 12 (sMov (X 1)),
    o 13 (sMov (X 0)),
    o 0 (sMov (X 12)),
    o 1 (sMov (X 13))])
  (.skip)))
  (.seq (.reg [o 14 (sBuildSl 1 0 [.int .u8 0] []),
    o 15 (sMov (X 0)),
    o 16 (sApp (ty 1 false 1 [.int .u8 0]) (X 14) (X 15)),
    o 5 (sMov (X 16))])
  (.seq (.seq (.reg [o 6 (sMov (K (.int .i64 0)))])
  (.block 0 (.loop (l13x0 E))))
  (.seq (.reg [o 33 (sMov (X 5)),
    o 4 (sMov (X 33))])
  (.ret)))))
theorem c13 (args : T) (h : AHeap) : (envL prog).call 13 args h = trim h (fin [.tmp 4] (runC (envL prog) (b13 (envL prog)) (args ++ List.replicate (34 - args.length) .undef) h)) :=
  call_tr (fn := Go.Proofs.Try.f13) tab13 (by kernel_rfl) (by rfl) (by kernel_rfl) (fun t h => by kernel_rfl) rfl args h
/-! f14: revetment/bits.Count -/
def tab14 : Nat → Cert := fun i => ⟨0, 0, 0, 0, 0, 0⟩
noncomputable def l14x0 (E : Env) : CT :=
  .seq (.reg [o 9 (sBin .lss .none (X 8) (X 7))])
  (.seq (.ite (X 9)
  (.skip)
  (.exit 0))
  (.seq (.block 1 (.seq (.reg [o 10 (sIdxAddrS 1 (X 6) (X 8)),
    o 11 (sLoad 1 false (X 10)),
    o 5 (sMov (X 11))])
  (.reg [o 12 (sMov (X 3)),
    o 13 (sMov (X 5)),
    o 14 (sCall E 23 [(X 13)]),
    o 15 (sBin .add .none (X 12) (X 14)),
    o 3 (sMov (X 15))])))
  (.reg [o 16 (sBin .add .none (X 8) (K (.int .i64 1))),
    o 8 (sMov (X 16))])))
noncomputable def b14 (E : Env) : CT :=
  .seq (.reg [o 2 (sMov (K (.int .i64 0)))])
  (.seq (.reg [o 3 (sMov (K (.int .i64 0)))])
  (.seq (.seq (.reg [o 6 (sMov (X 0)),
    o 7 (sLenSl (X 6)),
    o 8 (sMov (K (.int .i64 0)))])
  (.block 0 (.loop (l14x0 E))))
  (.seq (.reg [o 17 (sMov (X 3)),
    o 2 (sMov (X 17))])
  (.ret))))
theorem c14 (args : T) (h : AHeap) : (envL prog).call 14 args h = trim h (fin [.tmp 2] (runC (envL prog) (b14 (envL prog)) (args ++ List.replicate (18 - args.length) .undef) h)) :=
  call_tr (fn := Go.Proofs.Try.f14) tab14 (by kernel_rfl) (by rfl) (by kernel_rfl) (fun t h => by kernel_rfl) rfl args h
/-! f15: revetment/revetmentref09.All -/
def tab15 : Nat → Cert := fun i => ⟨0, 0, 0, 0, 0, 0⟩
noncomputable def l15x0 (E : Env) : CT :=
  .seq (.seq (.reg [o 5 (sMov (X 4)),
    o 6 (sMov (X 0)),
    o 7 (sLenSl (X 6)),
    o 8 (sBin .mul .none (K (.int .i64 8)) (X 7)),
    o 9 (sBin .lss .none (X 5) (X 8))])
  (.ite (X 9)
  (.skip)
  (.exit 0)))
  (.seq (.block 1 (.seq (.reg [o 12 (sMov (X 0)),
    o 13 (sMov (X 4)),
    o 14 (sCall E 8 [(X 12), (X 13)])])
  (.ite (X 14)
  (.reg [o 15 (sMov (X 3)),
    o 16 (sMov (X 4)),
    o 17 (sBuildSl 1 1 [.int .i64 0] [(0, 1, (X 16))]),
    o 18 (sApp (ty 1 false 8 [.int .i64 0]) (X 15) (X 17)),
    o 3 (sMov (X 18))])
  (.skip))))
  (.reg [o 10 (sMov (X 4)),
    o 11 (sBin .add .none (X 10) (K (.int .i64 1))),
    o 4 (sMov (X 11))]))
noncomputable def b15 (E : Env) : CT :=
  .seq (.reg [o 2 (sMov (K (.nilSl)))])
  (.seq (.reg [o 3 (sMov (K (.nilSl)))])
  (.seq (.seq (.reg [o 4 (sMov (K (.int .i64 0)))])
  (.block 0 (.loop (l15x0 E))))
  (.seq (.reg [o 19 (sMov (X 3)),
    o 2 (sMov (X 19))])
  (.ret))))
theorem c15 (args : T) (h : AHeap) : (envL prog).call 15 args h = trim h (fin [.tmp 2] (runC (envL prog) (b15 (envL prog)) (args ++ List.replicate (20 - args.length) .undef) h)) :=
  call_tr (fn := Go.Proofs.Try.f15) tab15 (by kernel_rfl) (by rfl) (by kernel_rfl) (fun t h => by kernel_rfl) rfl args h
/-! f16: revetment/revetmentkeep.Ints -/
def tab16 : Nat → Cert := fun i => bif Nat.beq i 6 then ⟨9, 25, 642833002171759447506944, 1205237335491016659828736, 28644943735582074826047332177877539589708590883724224647809306984449, 41780390347995922719512288248198774037700430168845219084107794⟩ else ⟨0, 0, 0, 0, 0, 0⟩
noncomputable def l16x0 (E : Env) : CT :=
  .seq (.seq (.reg [o 11 (sMov (X 5)),
    o 12 (sMov (X 0)),
    o 13 (sLenSl (X 12)),
    o 14 (sBin .lss .none (X 11) (X 13))])
  (.ite (X 14)
  (.skip)
  (.exit 0)))
  (.seq (.block 1 (.seq (.drw [.op (o 17 (sMov (X 0))),
    .op (o 18 (sMov (X 5))),
    .op (o 19 (sIdxAddrS 1 (X 17) (X 18))),
    .op (o 20 (sLoad 1 false (X 19))),
    .op (o 21 (sMov (X 1))),
    .op (o 22 (sMov (X 5))),
    .op (o 23 (sIdxAddrS 1 (X 21) (X 22))),
    .op (o 24 (sLoad 1 false (X 23))),
    .op (o 25 (sBin .neq .none (X 20) (X 24)))])
  (.ite (X 25)
  (.seq (.reg [o 4 (sMov (K (.bool false)))])
  (.ret))
  (.skip))))
  (.reg [o 15 (sMov (X 5)),
    o 16 (sBin .add .none (X 15) (K (.int .i64 1))),
    o 5 (sMov (X 16))]))
noncomputable def b16 (E : Env) : CT :=
  .seq (.reg [o 4 (sMov (K (.bool false)))])
  (.seq (.seq (.reg [o 6 (sMov (X 0)),
    o 7 (sLenSl (X 6)),
    o 8 (sMov (X 1)),
    o 9 (sLenSl (X 8)),
    o 10 (sBin .neq .none (X 7) (X 9))])
  (.ite (X 10)
  (.seq (.reg [o 4 (sMov (K (.bool false)))])
  (.ret))
  (.skip)))
  (.seq (.seq (.reg [o 5 (sMov (K (.int .i64 0)))])
  (.block 0 (.loop (l16x0 E))))
  (.seq (.reg [o 4 (sMov (K (.bool true)))])
  (.ret))))
theorem c16 (args : T) (h : AHeap) : (envL prog).call 16 args h = trim h (fin [.tmp 4] (runC (envL prog) (b16 (envL prog)) (args ++ List.replicate (26 - args.length) .undef) h)) :=
  call_tr (fn := Go.Proofs.Try.f16) tab16 (by kernel_rfl) (by rfl) (by kernel_rfl) (fun t h => by kernel_rfl) rfl args h
/-! f17: revetment/bits.All -/
def tab17 : Nat → Cert := fun i => ⟨0, 0, 0, 0, 0, 0⟩
noncomputable def b17 (E : Env) : CT :=
  .seq (.reg [o 2 (sMov (K (.nilSl)))])
  (.seq (.reg [o 3 (sMov (X 0)),
    o 4 (sCall E 25 [(X 3)]),
    o 5 (sCall E 24 [(X 4)]),
    o 2 (sMov (X 5))])
  (.ret))
theorem c17 (args : T) (h : AHeap) : (envL prog).call 17 args h = trim h (fin [.tmp 2] (runC (envL prog) (b17 (envL prog)) (args ++ List.replicate (6 - args.length) .undef) h)) :=
  call_tr (fn := Go.Proofs.Try.f17) tab17 (by kernel_rfl) (by rfl) (by kernel_rfl) (fun t h => by kernel_rfl) rfl args h
/-! f18: revetment/bits.Good -/
def tab18 : Nat → Cert := fun i => ⟨0, 0, 0, 0, 0, 0⟩
noncomputable def aq18x0 (E : Env) : CT :=
  .reg [o 5 (sMov (X 14))]
noncomputable def bq18x0 (E : Env) : CT :=
  .block 1 (.seq (.reg [o 15 (sMov (X 5)),
    o 16 (sLoad 1 false (X 3)),
    o 17 (sBin .geq .none (X 15) (X 16))])
  (.ite (X 17)
  (.seq (.reg [u (sStore 1 (X 4) (K (.bool false)))])
  (.ret))
  (.skip)))
noncomputable def kaq18x0 : Code := (nthRange Go.Proofs.Try.f18 0).1
noncomputable def kbq18x0 : Code := (nthRange Go.Proofs.Try.f18 0).2
theorem eaq18x0 (E : Env) (t : T) (h : AHeap) : evalCode prog E kaq18x0 t h = runC E (aq18x0 E) t h := code_tr tab18 (by kernel_rfl) t h
theorem ebq18x0 (E : Env) (t : T) (h : AHeap) : evalCode prog E kbq18x0 t h = runC E (bq18x0 E) t h := code_tr tab18 (by kernel_rfl) t h
noncomputable def b18 (E : Env) : CT :=
  .seq (.reg [o 3 (sBox (X 1)),
    o 4 (sAlloc [.bool false])])
  (.seq (.seq (.reg [o 6 (sMov (X 0)),
    o 7 (sLenSl (X 6)),
    o 8 (sLoad 1 false (X 3)),
    o 9 (sCall E 20 [(X 8)]),
    o 10 (sLenSl (X 9)),
    o 11 (sBin .neq .none (X 7) (X 10))])
  (.ite (X 11)
  (.seq (.reg [u (sStore 1 (X 4) (K (.bool false)))])
  (.ret))
  (.skip)))
  (.seq (.seq (.reg [o 12 (sMov (X 0)),
    o 13 (sCall E 25 [(X 12)])])
  (.block 0 (.range (X 13) [14] kaq18x0 kbq18x0)))
  (.seq (.reg [u (sStore 1 (X 4) (K (.bool true)))])
  (.ret))))
theorem c18 (args : T) (h : AHeap) : (envL prog).call 18 args h = trim h (fin [.cell 4 1 false] (runC (envL prog) (b18 (envL prog)) (args ++ List.replicate (18 - args.length) .undef) h)) :=
  call_tr (fn := Go.Proofs.Try.f18) tab18 (by kernel_rfl) (by rfl) (by kernel_rfl) (fun t h => by kernel_rfl) rfl args h
/-! f19: revetment/revetmentref09.Good -/
def tab19 : Nat → Cert := fun i => ⟨0, 0, 0, 0, 0, 0⟩
noncomputable def l19x0 (E : Env) : CT :=
  .seq (.seq (.reg [o 14 (sMov (X 5)),
    o 15 (sMov (X 0)),
    o 16 (sLenSl (X 15)),
    o 17 (sBin .mul .none (K (.int .i64 8)) (X 16)),
    o 18 (sBin .lss .none (X 14) (X 17))])
  (.ite (X 18)
  (.skip)
  (.exit 0)))
  (.seq (.block 1 (.seq (.reg [o 21 (sMov (X 0)),
    o 22 (sMov (X 5)),
    o 23 (sCall E 8 [(X 21), (X 22)])])
  (.ite (X 23)
  (.seq (.reg [o 4 (sMov (K (.bool false)))])
  (.ret))
  (.skip))))
  (.reg [o 19 (sMov (X 5)),
    o 20 (sBin .add .none (X 19) (K (.int .i64 1))),
    o 5 (sMov (X 20))]))
noncomputable def b19 (E : Env) : CT :=
  .seq (.reg [o 4 (sMov (K (.bool false)))])
  (.seq (.seq (.reg [o 6 (sMov (X 0)),
    o 7 (sLenSl (X 6)),
    o 8 (sMov (X 1)),
    o 9 (sCall E 21 [(X 8)]),
    o 10 (sLenSl (X 9)),
    o 11 (sBin .neq .none (X 7) (X 10))])
  (.ite (X 11)
  (.seq (.reg [o 4 (sMov (K (.bool false)))])
  (.ret))
  (.skip)))
  (.seq (.seq (.reg [o 12 (sMov (X 1)),
    o 13 (sMax [(K (.int .i64 0)), (X 12)]),
    o 5 (sMov (X 13))])
  (.block 0 (.loop (l19x0 E))))
  (.seq (.reg [o 4 (sMov (K (.bool true)))])
  (.ret))))
theorem c19 (args : T) (h : AHeap) : (envL prog).call 19 args h = trim h (fin [.tmp 4] (runC (envL prog) (b19 (envL prog)) (args ++ List.replicate (24 - args.length) .undef) h)) :=
  call_tr (fn := Go.Proofs.Try.f19) tab19 (by kernel_rfl) (by rfl) (by kernel_rfl) (fun t h => by kernel_rfl) rfl args h
/-! f20: revetment/bits.New -/
def tab20 : Nat → Cert := fun i => ⟨0, 0, 0, 0, 0, 0⟩
noncomputable def b20 (E : Env) : CT :=
  .seq (.reg [o 2 (sMov (K (.nilSl)))])
  (.seq (.seq (.reg [o 3 (sMov (X 0)),
    o 4 (sBin .lss .none (X 3) (K (.int .i64 1))),
    o 5 (sMov (X 4)),
    og 5 false 6 (sMov (X 0)),
    og 5 false 7 (sBin .gtr .none (X 6) (K (.int .i64 4096))),
    o 8 (sPick (X 5) (K (.bool true)) (X 7))])
  (.ite (X 8)
  (.seq (.reg [o 2 (sMov (K (.nilSl)))])
  (.ret))
  (.skip)))
  (.seq (.reg [o 9 (sMov (X 0)),
    o 10 (sBin .add .none (X 9) (K (.int .i64 8))),
    o 11 (sBin .sub .none (X 10) (K (.int .i64 1))),
    o 12 (sBin .quo .none (X 11) (K (.int .i64 8))),
    o 13 (sMake (ty 1 false 1 [.int .u8 0]) (X 12) (X 12)),
    o 2 (sMov (X 13))])
  (.ret)))
theorem c20 (args : T) (h : AHeap) : (envL prog).call 20 args h = trim h (fin [.tmp 2] (runC (envL prog) (b20 (envL prog)) (args ++ List.replicate (14 - args.length) .undef) h)) :=
  call_tr (fn := Go.Proofs.Try.f20) tab20 (by kernel_rfl) (by rfl) (by kernel_rfl) (fun t h => by kernel_rfl) rfl args h
/-! f21: revetment/revetmentref09.New -/
def tab21 : Nat → Cert := fun i => ⟨0, 0, 0, 0, 0, 0⟩
noncomputable def b21 (E : Env) : CT :=
  .seq (.reg [o 2 (sMov (K (.nilSl)))])
  (.seq (.seq (.reg [o 3 (sMov (X 0)),
    o 4 (sBin .lss .none (X 3) (K (.int .i64 1))),
    o 5 (sMov (X 4)),
    og 5 false 6 (sMov (X 0)),
    og 5 false 7 (sBin .gtr .none (X 6) (K (.int .i64 4096))),
    o 8 (sPick (X 5) (K (.bool true)) (X 7))])
  (.ite (X 8)
  (.seq (.reg [o 2 (sMov (K (.nilSl)))])
  (.ret))
  (.skip)))
  (.seq (.reg [o 9 (sMov (X 0)),
    o 10 (sBin .add .none (X 9) (K (.int .i64 7))),
    o 11 (sBin .quo .none (X 10) (K (.int .i64 8))),
    o 12 (sMake (ty 1 false 1 [.int .u8 0]) (X 11) (X 11)),
    o 2 (sMov (X 12))])
  (.ret)))
theorem c21 (args : T) (h : AHeap) : (envL prog).call 21 args h = trim h (fin [.tmp 2] (runC (envL prog) (b21 (envL prog)) (args ++ List.replicate (13 - args.length) .undef) h)) :=
  call_tr (fn := Go.Proofs.Try.f21) tab21 (by kernel_rfl) (by rfl) (by kernel_rfl) (fun t h => by kernel_rfl) rfl args h
/-! f22: slices.Clone[[]byte,byte] -/
def tab22 : Nat → Cert := fun i => ⟨0, 0, 0, 0, 0, 0⟩
noncomputable def b22 (E : Env) : CT :=
  .seq (.reg [o 2 (sMov (K (.nilSl)))])
  (.seq (.seq (.reg [o 3 (sMov (X 0)),
    o 4 (sBin .eql .slice (X 3) (K (.nilSl)))])
  (.ite (X 4)
  (.seq (.reg [o 2 (sMov (K (.nilSl)))])
  (.ret))
  (.skip)))
  (.seq (.reg [o 5 (sBuildSl 1 0 [.int .u8 0] []),
    o 6 (sMov (X 0)),
    o 7 (sApp (ty 1 false 1 [.int .u8 0]) (X 5) (X 6)),
    o 2 (sMov (X 7))])
  (.ret)))
theorem c22 (args : T) (h : AHeap) : (envL prog).call 22 args h = trim h (fin [.tmp 2] (runC (envL prog) (b22 (envL prog)) (args ++ List.replicate (8 - args.length) .undef) h)) :=
  call_tr (fn := Go.Proofs.Try.f22) tab22 (by kernel_rfl) (by rfl) (by kernel_rfl) (fun t h => by kernel_rfl) rfl args h
/-! f23: math/bits.OnesCount8 -/
def tab23 : Nat → Cert := fun i => ⟨0, 0, 0, 0, 0, 0⟩
def tabstr23x0 : List UInt8 := [0, 1, 1, 2, 1, 2, 2, 3, 1, 2, 2, 3, 2, 3, 3, 4, 1, 2, 2, 3, 2, 3, 3, 4, 2, 3, 3, 4, 3, 4, 4, 5, 1, 2, 2, 3, 2, 3, 3, 4, 2, 3, 3, 4, 3, 4, 4, 5, 2, 3, 3, 4, 3, 4, 4, 5, 3, 4, 4, 5, 4, 5, 5, 6, 1, 2, 2, 3, 2, 3, 3, 4, 2, 3, 3, 4, 3, 4, 4, 5, 2, 3, 3, 4, 3, 4, 4, 5, 3, 4, 4, 5, 4, 5, 5, 6, 2, 3, 3, 4, 3, 4, 4, 5, 3, 4, 4, 5, 4, 5, 5, 6, 3, 4, 4, 5, 4, 5, 5, 6, 4, 5, 5, 6, 5, 6, 6, 7, 1, 2, 2, 3, 2, 3, 3, 4, 2, 3, 3, 4, 3, 4, 4, 5, 2, 3, 3, 4, 3, 4, 4, 5, 3, 4, 4, 5, 4, 5, 5, 6, 2, 3, 3, 4, 3, 4, 4, 5, 3, 4, 4, 5, 4, 5, 5, 6, 3, 4, 4, 5, 4, 5, 5, 6, 4, 5, 5, 6, 5, 6, 6, 7, 2, 3, 3, 4, 3, 4, 4, 5, 3, 4, 4, 5, 4, 5, 5, 6, 3, 4, 4, 5, 4, 5, 5, 6, 4, 5, 5, 6, 5, 6, 6, 7, 3, 4, 4, 5, 4, 5, 5, 6, 4, 5, 5, 6, 5, 6, 6, 7, 4, 5, 5, 6, 5, 6, 6, 7, 5, 6, 6, 7, 6, 7, 7, 8]
def str23x0 : ByteArray := ⟨tabstr23x0.toArray⟩
noncomputable def b23 (E : Env) : CT :=
  .seq (.reg [o 2 (sMov (K (.int .i64 0)))])
  (.seq (.reg [o 3 (sMov (X 0)),
    o 4 (sIdxStr (K (.str str23x0)) (X 3)),
    o 5 (sConv (.int .i64) (X 4)),
    o 2 (sMov (X 5))])
  (.ret))
theorem c23 (args : T) (h : AHeap) : (envL prog).call 23 args h = trim h (fin [.tmp 2] (runC (envL prog) (b23 (envL prog)) (args ++ List.replicate (6 - args.length) .undef) h)) :=
  call_tr (fn := Go.Proofs.Try.f23) tab23 (by kernel_rfl) (by rfl) (by kernel_rfl) (fun t h => by kernel_rfl) rfl args h
/-! f24: slices.Collect[int] -/
def tab24 : Nat → Cert := fun i => ⟨0, 0, 0, 0, 0, 0⟩
noncomputable def b24 (E : Env) : CT :=
  .seq (.reg [o 2 (sMov (K (.nilSl)))])
  (.seq (.reg [o 3 (sMov (X 0)),
    o 4 (sCall E 26 [(K (.nilSl)), (X 3)]),
    o 2 (sMov (X 4))])
  (.ret))
theorem c24 (args : T) (h : AHeap) : (envL prog).call 24 args h = trim h (fin [.tmp 2] (runC (envL prog) (b24 (envL prog)) (args ++ List.replicate (5 - args.length) .undef) h)) :=
  call_tr (fn := Go.Proofs.Try.f24) tab24 (by kernel_rfl) (by rfl) (by kernel_rfl) (fun t h => by kernel_rfl) rfl args h
/-! f25: revetment/bits.each -/
def tab25 : Nat → Cert := fun i => ⟨0, 0, 0, 0, 0, 0⟩
noncomputable def b25 (E : Env) : CT :=
  .seq (.reg [o 1 (sBox (X 0)),
    o 2 (sMov (K (.nilFn)))])
  (.seq (.reg [o 3 (sFun 27 [(X 1)]),
    o 2 (sMov (X 3))])
  (.ret))
theorem c25 (args : T) (h : AHeap) : (envL prog).call 25 args h = trim h (fin [.tmp 2] (runC (envL prog) (b25 (envL prog)) (args ++ List.replicate (4 - args.length) .undef) h)) :=
  call_tr (fn := Go.Proofs.Try.f25) tab25 (by kernel_rfl) (by rfl) (by kernel_rfl) (fun t h => by kernel_rfl) rfl args h
/-! f26: slices.AppendSeq[[]int,int] -/
def tab26 : Nat → Cert := fun i => ⟨0, 0, 0, 0, 0, 0⟩
noncomputable def aq26x0 (E : Env) : CT :=
  .reg [o 5 (sMov (X 7))]
noncomputable def bq26x0 (E : Env) : CT :=
  .block 1 (.reg [o 8 (sLoad 1 false (X 2)),
    o 9 (sMov (X 5)),
    o 10 (sBuildSl 1 1 [.int .i64 0] [(0, 1, (X 9))]),
    o 11 (sApp (ty 1 false 8 [.int .i64 0]) (X 8) (X 10)),
    u (sStore 1 (X 2) (X 11))])
noncomputable def kaq26x0 : Code := (nthRange Go.Proofs.Try.f26 0).1
noncomputable def kbq26x0 : Code := (nthRange Go.Proofs.Try.f26 0).2
theorem eaq26x0 (E : Env) (t : T) (h : AHeap) : evalCode prog E kaq26x0 t h = runC E (aq26x0 E) t h := code_tr tab26 (by kernel_rfl) t h
theorem ebq26x0 (E : Env) (t : T) (h : AHeap) : evalCode prog E kbq26x0 t h = runC E (bq26x0 E) t h := code_tr tab26 (by kernel_rfl) t h
noncomputable def b26 (E : Env) : CT :=
  .seq (.reg [o 2 (sBox (X 0)),
    o 4 (sMov (K (.nilSl)))])
  (.seq (.seq (.reg [o 6 (sMov (X 1))])
  (.block 0 (.range (X 6) [7] kaq26x0 kbq26x0)))
  (.seq (.reg [o 12 (sLoad 1 false (X 2)),
    o 4 (sMov (X 12))])
  (.ret)))
theorem c26 (args : T) (h : AHeap) : (envL prog).call 26 args h = trim h (fin [.tmp 4] (runC (envL prog) (b26 (envL prog)) (args ++ List.replicate (13 - args.length) .undef) h)) :=
  call_tr (fn := Go.Proofs.Try.f26) tab26 (by kernel_rfl) (by rfl) (by kernel_rfl) (fun t h => by kernel_rfl) rfl args h
/-! f27: revetment/bits.each$1 -/
def tab27 : Nat → Cert := fun i => ⟨0, 0, 0, 0, 0, 0⟩
noncomputable def l27x0 (E : Env) : CT :=
  .seq (.reg [o 8 (sBin .lss .none (X 7) (X 6))])
  (.seq (.ite (X 8)
  (.skip)
  (.exit 0))
  (.seq (.block 1 (.seq (.reg [o 9 (sMov (X 7)),
    o 3 (sMov (X 9))])
  (.seq (.reg [o 10 (sLoad 1 false (X 1)),
    o 11 (sMov (X 3)),
    o 12 (sCall E 7 [(X 10), (X 11)]),
    o 13 (sMov (X 12)),
    og 13 true 14 (sMov (X 0)),
    og 13 true 15 (sMov (X 3)),
    og 13 true 16 (sCallV E (X 14) [(X 15)]),
    og 13 true 17 (sUn .not (X 16)),
    o 18 (sPick (X 13) (X 17) (K (.bool false)))])
  (.ite (X 18)
  (.ret)
  (.skip)))))
  (.reg [o 19 (sBin .add .none (X 7) (K (.int .i64 1))),
    o 7 (sMov (X 19))])))
noncomputable def b27 (E : Env) : CT :=
  .seq (.reg [o 4 (sLoad 1 false (X 1)),
    o 5 (sLenSl (X 4)),
    o 6 (sBin .mul .none (K (.int .i64 8)) (X 5)),
    o 7 (sMov (K (.int .i64 0)))])
  (.block 0 (.loop (l27x0 E)))
theorem c27 (args : T) (h : AHeap) : (envL prog).call 27 args h = trim h (fin [] (runC (envL prog) (b27 (envL prog)) (args ++ List.replicate (20 - args.length) .undef) h)) :=
  call_tr (fn := Go.Proofs.Try.f27) tab27 (by kernel_rfl) (by rfl) (by kernel_rfl) (fun t h => by kernel_rfl) rfl args h
end Go.Proofs.Ytgggepohkdmjeaa.G09

