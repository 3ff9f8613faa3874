/- What the functions that TableTells reaches answer, for every argument. No condition but those in each statement. -/
import Derived.Test.YtekceggcbpeoeaaE5
import Derived.Test.YtekceggcbpeoeaaProg
set_option maxRecDepth 100000
set_option linter.unusedVariables false
namespace Go.Proofs.Ytekceggcbpeoeaa.G10
open Go Go.Proofs.Ytekceggcbpeoeaa.Eng
noncomputable abbrev prog : Program := Go.Proofs.Try.prog
def tab3 : Nat → Cert := fun i => bif Nat.beq i 10 then ⟨54, 127, 31800749842360046146496919413988956869195354101838429445276020324301313364021092242457757955633496140002961935197554306455281445899237684716853535837408441548733385705720090649059516493048780839092341220117015861629819729364597539369748855569176235392741731774204047786258907078347977846994928744956361036960835176689464092727166827706275782887894770464956083274421550361361096537548073230121647080053837670615227664758545142451940855344964598857537364733290938300771323396522415546039924930518048978416984488313849718986554320796477218058207951053510353154342402533282076675388680662420310430237654041646058600968785498866778848832891260343094139715881488472724729314194371686308771616692036229371346068444900905202743568900987866564875168182710613248727315262855749226562723885574389081160584074309677366155977151612751726993037273138674694278973384805748532670815725491847168, 31800749842360046367158948634819671060292259139584294465517202491099724197264190281592613547762918591353458811123388491286605981416660930926283865614632377196530603260606480438459321759383205486139626262909440845467024880522369055365191695581335611696767808760536429040725411980483527954592678308161709797675787373985977374178399240159843521442503279849260436859850463437848740041948497792287986450991944635140556534584936965755624672603951085262756269521476416173457008946442290462733849428472722009082657817348676995554568826774807523570857805616337723728036032799786575172115716048171661404136341110143286599505223238607365158704584395300991294277228238058634873004380871458806112641116006107498402201935823925023140845179115565561939206293728487330952471876971503492259008929156774123752823038183031399103072857776521019876590807010514509989501290071722187704196443244855296, 1454387950918388347293527533951166688468247234307794066267022693099905697257333936495255373312156656564545697243314450244644811761653481457780807049507239328987352086941841100282043229265139168193474991295401928957092901583588609906334782613472518686001089566686502601645801904345441452524399856003774249025895983719868770007763640308978858409475493916904479081389401926132110809847489019666942836759995080467997761003581076002385895475972768553859948559680911195851819771590700886269833978584410815149403101962513450051078094769298464131516474899934977595974938801511049360381113161579819429755793927430428860038167208124664574632457708781575412468621124453999716754393488594070551030196387281568456085438668907592927646161478982117952981421017778507023092637225689455640036839061412434083208442942542826654247542820446431522623303448783503283451047727993749731708765991835404568050458733988971600179031294032322508822820937688501631381186899470916425057814494971272221852730415162723115765021750729916632032506368333382140031312784571598447380977727033418949868836845720085836406559009077375019109505080745377992185110518562821141013530064371687682354147438247706629507534734284140585553368292428317315989665914127125405984871450087322342328124700649323399144987430222317368414587579249678477944907826742830432941854624088122970034281505444759911007996421345361499468214437963807512366901455605201877601101474827892049965293822233839181005295092275841024861639663436091773529017302045279895231357063328171647015428738414567634544246974469335629297995869535431250284183970719598458400473173624375459874052297152027870834186012071466335642734400809915335429393024763870574698226182380224902328929983430768397307761926155462685061684330873648118357376167005358207587484491245240643991488915603754254761350513767514755196591832979883526921300866015235354445175148804349241766355032290883014598959075525413203651099434452187415346524632268081036903728390257112975187421630761980217888236116865804992934193931999422467030866786816197289980539034746259787175009168916608, 119673737414599749999087264874331805325318570079687723240895672201917748683491664338087719937952778152220486620342792519763062220858117936311931394950628749213280393542270773382901386744482148822370207964137952398643549113203333858807969217941948864512109729891072118125705281534400897658547910958660637309738260304921837436530174600204108236983363770671738526707842465325039203681412330378017980741579253881349742679253864689473091110686118871968724667832142067131446935947271743993026367204809781755062613074194454731358651898690451516544545535740504980247722258864803230933022316359342341926885385514043004690900976085436469645587378771375600845607124124871736498887555187512037393687653074806441969793242705396213903241374324343382435076053750804713133207930803949891763847726110098309628530731588385398700210990927458712711320477835726220578989941891008745387295859870458651262390455856105928233212622999293034424297009190900499267777686352826928580109267977623369064235100041216491643249504511651630981913460401683173907583937760184259255357115106616318871498668428796546774700777916571212515663208815429079163485816589937352484487056338345468595657822011299779650849263483326234589829480003513670298936779306140399605805274026568322530965486537403980689126630131082583164913833937749062417922070104475232587085642919787978761164375446817250097384353009004649554009357116004115376950052954214563371452057008637686667872982250421923170454193106631539659446747275209496010777835278734992910057828375250551068755367506591751398440777117694950954878207679684866968992091674900244528697924398488968789048554917357333909677550705915366600678306007156618371003139809420884508837855152160568190633816922442968678399025593811933287138121352743084567095981520884300393822162178402191363754829797393174561783878555030593339532967126504608750011193541970751938126000635957448062983914384659090324677781351591052745679839673646395187500195713581286754746957681608599779102064945309071125860704762504436473848994186163795494552945557579⟩ else ⟨0, 0, 0, 0, 0, 0⟩
noncomputable def b3 (E : Env) : CT :=
 .seq (.reg [o 5 (sBox (X 2)),
  o 6 (sMov (K (.bool false)))])
 (.seq (.seq (.reg [o 15 (sMov (X 0)),
  o 16 (sLenSl (X 15)),
  o 17 (sBin .gtr .none (X 16) (K (.int .i64 80))),
  o 18 (sMov (X 17)),
  og 18 false 19 (sMov (X 1)),
  og 18 false 20 (sLenSl (X 19)),
  og 18 false 21 (sBin .gtr .none (X 20) (K (.int .i64 80))),
  o 22 (sPick (X 18) (K (.bool true)) (X 21))])
 (.ite (X 22)
 (.seq (.reg [o 23 (sCall E 7 []),
  o 6 (sMov (X 23))])
 (.ret))
 (.skip)))
 (.seq (.reg [o 24 (sBuildSl 2 0 [.int .i64 0, .int .i64 0] []),
  o 25 (sMov (X 0)),
  o 26 (sApp (ty 2 true 16 [.int .i64 0, .int .i64 0]) (X 24) (X 25)),
  o 27 (sBuildSl 2 0 [.int .i64 0, .int .i64 0] []),
  o 28 (sMov (X 1)),
  o 29 (sApp (ty 2 true 16 [.int .i64 0, .int .i64 0]) (X 27) (X 28)),
  o 7 (sMov (X 26)),
  o 8 (sMov (X 29))])
 (.seq (.reg [o 31 (sMov (X 7)),
  o 32 (sIdxAddrA 2 1 (X 5) (K (.int .i64 0))),
  o 33 (sLoad 1 false (X 32)),
  o 34 (sCall E 8 [(X 31), (X 33)]),
  o 30 (sMov (X 34)),
  o 35 (sExtract (X 30) 0),
  o 36 (sExtract (X 30) 1),
  o 9 (sMov (X 35)),
  o 10 (sMov (X 36))])
 (.seq (.reg [o 37 (sMov (X 0)),
  o 38 (sIdxAddrA 2 1 (X 5) (K (.int .i64 0))),
  o 39 (sLoad 1 false (X 38)),
  o 40 (sCall E 9 [(X 37), (X 39)]),
  o 11 (sMov (X 40))])
 (.seq (.seq (.reg [o 41 (sMov (X 10)),
  o 42 (sMov (X 11)),
  o 43 (sBin .geq .none (X 42) (K (.int .i64 0))),
  o 44 (sBin .neq .bool (X 41) (X 43)),
  o 45 (sMov (X 44)),
  og 45 false 46 (sMov (X 10)),
  og 45 false 47 (sMov (X 46)),
  og 47 true 48 (sMov (X 9)),
  og 47 true 49 (sMov (X 0)),
  og 47 true 50 (sMov (X 11)),
  og 47 true 51 (sIdxAddrS 2 (X 49) (X 50)),
  og 47 true 52 (sFieldAddr 1 (X 51)),
  og 47 true 53 (sLoad 1 false (X 52)),
  og 47 true 54 (sBin .neq .none (X 48) (X 53)),
  og 45 false 55 (sPick (X 47) (X 54) (K (.bool false))),
  o 56 (sPick (X 45) (K (.bool true)) (X 55)),
  o 57 (sMov (X 56)),
  og 57 false 58 (sMov (X 10)),
  og 57 false 59 (sUn .not (X 58)),
  og 57 false 60 (sMov (X 59)),
  og 60 true 61 (sMov (X 9)),
  og 60 true 62 (sBin .neq .none (X 61) (K (.int .i64 0))),
  og 57 false 63 (sPick (X 60) (X 62) (K (.bool false))),
  o 64 (sPick (X 57) (K (.bool true)) (X 63))])
 (.ite (X 64)
 (.seq (.reg [o 6 (sMov (K (.bool false)))])
 (.ret))
 (.skip)))
 (.seq (.reg [o 66 (sMov (X 7)),
  o 67 (sMov (X 8)),
  o 68 (sCall E 10 [(X 66), (X 67)]),
  o 65 (sMov (X 68)),
  o 69 (sExtract (X 65) 0),
  o 70 (sExtract (X 65) 1),
  o 12 (sMov (X 69)),
  o 13 (sMov (X 70))])
 (.seq (.reg [o 71 (sMov (X 0)),
  o 72 (sMov (X 1)),
  o 73 (sCall E 11 [(X 71), (X 72)]),
  o 14 (sAlloc [.nilSl, .nilSl]),
  u (sStore 2 (X 14) (X 73))])
 (.seq (.drw [.op (o 74 (sMov (X 7))),
  .op (o 75 (sIdxAddrA 2 1 (X 5) (K (.int .i64 0)))),
  .op (o 76 (sLoad 1 false (X 75))),
  .op (o 77 (sIdxAddrA 2 1 (X 5) (K (.int .i64 1)))),
  .op (o 78 (sLoad 1 false (X 77))),
  .op (o 80 (sMov (X 0))),
  .op (o 81 (sIdxAddrA 2 1 (X 5) (K (.int .i64 0)))),
  .rd 8 (o 82 (sLoad 1 false (X 81))),
  .op (o 83 (sIdxAddrA 2 1 (X 5) (K (.int .i64 1)))),
  .rd 10 (o 84 (sLoad 1 false (X 83))),
  .hv 31 (o 79 (sCall E 12 [(X 74), (X 76), (X 78)])),
  .hv 2047 (o 85 (sCall E 13 [(X 80), (X 82), (X 84)])),
  .op (o 86 (sBin .eql .bool (X 79) (X 85))),
  .op (o 87 (sMov (X 86))),
  .op (og 87 true 88 (sMov (X 7))),
  .op (og 87 true 89 (sIdxAddrA 2 1 (X 5) (K (.int .i64 0)))),
  .op (og 87 true 90 (sLoad 1 false (X 89))),
  .op (og 87 true 91 (sIdxAddrA 2 1 (X 5) (K (.int .i64 1)))),
  .op (og 87 true 92 (sLoad 1 false (X 91))),
  .op (og 87 true 94 (sMov (X 0))),
  .op (og 87 true 95 (sIdxAddrA 2 1 (X 5) (K (.int .i64 0)))),
  .rd 22 (og 87 true 96 (sLoad 1 false (X 95))),
  .op (og 87 true 97 (sIdxAddrA 2 1 (X 5) (K (.int .i64 1)))),
  .rd 24 (og 87 true 98 (sLoad 1 false (X 97))),
  .hv 524287 (og 87 true 93 (sCall E 15 [(X 88), (X 90), (X 92)])),
  .hv 33554431 (og 87 true 99 (sCall E 16 [(X 94), (X 96), (X 98)])),
  .hv 67108863 (og 87 true 100 (sCall E 14 [(X 93), (X 99)])),
  .op (o 101 (sPick (X 87) (X 100) (K (.bool false)))),
  .op (o 102 (sMov (X 101))),
  .op (og 102 true 103 (sMov (X 12))),
  .op (og 102 true 104 (sFieldAddr 0 (X 14))),
  .op (og 102 true 105 (sLoad 1 false (X 104))),
  .hv 4294967295 (og 102 true 106 (sCall E 14 [(X 103), (X 105)])),
  .op (o 107 (sPick (X 102) (X 106) (K (.bool false)))),
  .op (o 108 (sMov (X 107))),
  .op (og 108 true 109 (sMov (X 13))),
  .op (og 108 true 110 (sFieldAddr 1 (X 14))),
  .op (og 108 true 111 (sLoad 1 false (X 110))),
  .hv 274877906943 (og 108 true 112 (sCall E 17 [(X 109), (X 111)])),
  .op (o 113 (sPick (X 108) (X 112) (K (.bool false)))),
  .op (o 114 (sMov (X 113))),
  .op (og 114 true 115 (sMov (X 7))),
  .op (og 114 true 116 (sMov (X 0))),
  .hv 8796093022207 (og 114 true 117 (sCall E 14 [(X 115), (X 116)])),
  .op (o 118 (sPick (X 114) (X 117) (K (.bool false)))),
  .op (o 119 (sMov (X 118))),
  .op (og 119 true 120 (sMov (X 8))),
  .op (og 119 true 121 (sMov (X 1))),
  .hv 281474976710655 (og 119 true 122 (sCall E 14 [(X 120), (X 121)])),
  .op (o 123 (sPick (X 119) (X 122) (K (.bool false)))),
  .op (o 124 (sMov (X 123))),
  .hv 2251799813685247 (og 124 true 125 (sCall E 7 [])),
  .op (o 126 (sPick (X 124) (X 125) (K (.bool false)))),
  .op (o 6 (sMov (X 126)))])
 (.ret)))))))))
theorem c3 (args : T) (h : AHeap) : (envL prog).call 3 args h = trim h (fin [.tmp 6] (runC (envL prog) (b3 (envL prog)) (args ++ List.replicate (127 - args.length) .undef) h)) :=
 call_tr (fn := Go.Proofs.Try.f3) tab3 (by kernel_rfl) (by rfl) (by kernel_rfl) (fun t h => by kernel_rfl) rfl args h
theorem d3 (E : Env) (args : T) (h : AHeap) : callBody prog E 3 args h = trim h (fin [.tmp 6] (runC E (b3 E) (args ++ List.replicate (127 - args.length) .undef) h)) :=
 body_tr (fn := Go.Proofs.Try.f3) tab3 (by kernel_rfl) (by rfl) (by kernel_rfl) (fun t h => by kernel_rfl) rfl args h
def tab7 : Nat → Cert := fun i => ⟨0, 0, 0, 0, 0, 0⟩
noncomputable def b7 (E : Env) : CT :=
 .seq (.reg [o 0 (sMov (K (.bool false)))])
 (.seq (.reg [o 6 (sBuild [.int .i64 0, .int .i64 0] [(0, 1, (K (.int .i64 1))), (1, 1, (K (.int .i64 4)))]),
  o 7 (sBuild [.int .i64 0, .int .i64 0] [(0, 1, (K (.int .i64 5))), (1, 1, (K (.int .i64 2)))]),
  o 8 (sBuildSl 2 2 [.int .i64 0, .int .i64 0] [(0, 2, (X 6)), (2, 2, (X 7))]),
  o 9 (sCall E 15 [(X 8), (K (.int .i64 3)), (K (.int .i64 7))]),
  o 1 (sMov (X 9))])
 (.seq (.reg [o 11 (sMov (X 1)),
  o 12 (sBuild [.int .i64 0, .int .i64 0] [(0, 1, (K (.int .i64 3))), (1, 1, (K (.int .i64 9)))]),
  o 13 (sBuild [.int .i64 0, .int .i64 0] [(0, 1, (K (.int .i64 4))), (1, 1, (K (.int .i64 8)))]),
  o 14 (sBuildSl 2 2 [.int .i64 0, .int .i64 0] [(0, 2, (X 12)), (2, 2, (X 13))]),
  o 15 (sCall E 10 [(X 11), (X 14)]),
  o 10 (sMov (X 15)),
  o 16 (sExtract (X 10) 0),
  o 17 (sExtract (X 10) 1),
  o 2 (sMov (X 16)),
  o 3 (sMov (X 17))])
 (.seq (.reg [o 19 (sMov (X 1)),
  o 20 (sCall E 8 [(X 19), (K (.int .i64 3))]),
  o 18 (sMov (X 20)),
  o 21 (sExtract (X 18) 0),
  o 22 (sExtract (X 18) 1),
  o 4 (sMov (X 21)),
  o 5 (sMov (X 22))])
 (.seq (.reg [o 23 (sMov (X 1)),
  o 24 (sLenSl (X 23)),
  o 25 (sBin .eql .none (X 24) (K (.int .i64 3))),
  o 26 (sMov (X 25)),
  og 26 true 27 (sMov (X 1)),
  og 26 true 28 (sIdxAddrS 2 (X 27) (K (.int .i64 1))),
  og 26 true 29 (sFieldAddr 0 (X 28)),
  og 26 true 30 (sLoad 1 false (X 29)),
  og 26 true 31 (sBin .eql .none (X 30) (K (.int .i64 3))),
  o 32 (sPick (X 26) (X 31) (K (.bool false))),
  o 33 (sMov (X 32)),
  og 33 true 34 (sMov (X 5)),
  o 35 (sPick (X 33) (X 34) (K (.bool false))),
  o 36 (sMov (X 35)),
  og 36 true 37 (sMov (X 4)),
  og 36 true 38 (sBin .eql .none (X 37) (K (.int .i64 7))),
  o 39 (sPick (X 36) (X 38) (K (.bool false))),
  o 40 (sMov (X 39)),
  og 40 true 41 (sMov (X 2)),
  og 40 true 42 (sLenSl (X 41)),
  og 40 true 43 (sBin .eql .none (X 42) (K (.int .i64 4))),
  o 44 (sPick (X 40) (X 43) (K (.bool false))),
  o 45 (sMov (X 44)),
  og 45 true 46 (sMov (X 2)),
  og 45 true 47 (sIdxAddrS 2 (X 46) (K (.int .i64 2))),
  og 45 true 48 (sFieldAddr 0 (X 47)),
  og 45 true 49 (sLoad 1 false (X 48)),
  og 45 true 50 (sBin .eql .none (X 49) (K (.int .i64 4))),
  o 51 (sPick (X 45) (X 50) (K (.bool false))),
  o 52 (sMov (X 51)),
  og 52 true 53 (sMov (X 3)),
  og 52 true 54 (sBuildSl 1 1 [.int .i64 0] [(0, 1, (K (.int .i64 9)))]),
  og 52 true 55 (sCall E 17 [(X 53), (X 54)]),
  o 56 (sPick (X 52) (X 55) (K (.bool false))),
  o 57 (sMov (X 56)),
  og 57 true 58 (sMov (X 2)),
  og 57 true 59 (sCall E 12 [(X 58), (K (.int .i64 6)), (K (.int .i64 9))]),
  o 60 (sPick (X 57) (X 59) (K (.bool false))),
  o 61 (sMov (X 60)),
  og 61 true 62 (sMov (X 2)),
  og 61 true 63 (sCall E 12 [(X 62), (K (.int .i64 5)), (K (.int .i64 9))]),
  og 61 true 64 (sUn .not (X 63)),
  o 65 (sPick (X 61) (X 64) (K (.bool false))),
  o 0 (sMov (X 65))])
 (.ret)))))
theorem c7 (args : T) (h : AHeap) : (envL prog).call 7 args h = trim h (fin [.tmp 0] (runC (envL prog) (b7 (envL prog)) (args ++ List.replicate (66 - args.length) .undef) h)) :=
 call_tr (fn := Go.Proofs.Try.f7) tab7 (by kernel_rfl) (by rfl) (by kernel_rfl) (fun t h => by kernel_rfl) rfl args h
theorem d7 (E : Env) (args : T) (h : AHeap) : callBody prog E 7 args h = trim h (fin [.tmp 0] (runC E (b7 E) (args ++ List.replicate (66 - args.length) .undef) h)) :=
 body_tr (fn := Go.Proofs.Try.f7) tab7 (by kernel_rfl) (by rfl) (by kernel_rfl) (fun t h => by kernel_rfl) rfl args h
def tab8 : Nat → Cert := fun i => ⟨0, 0, 0, 0, 0, 0⟩
noncomputable def b8 (E : Env) : CT :=
 .seq (.reg [o 4 (sMov (K (.int .i64 0))),
  o 5 (sMov (K (.bool false)))])
 (.seq (.reg [o 7 (sMov (X 0)),
  o 8 (sMov (X 1)),
  o 9 (sCall E 18 [(X 7), (X 8)]),
  o 6 (sMov (X 9))])
 (.seq (.seq (.reg [o 10 (sMov (X 6)),
  o 11 (sBin .lss .none (X 10) (K (.int .i64 0)))])
 (.ite (X 11)
 (.seq (.reg [o 4 (sMov (K (.int .i64 0))),
  o 5 (sMov (K (.bool false)))])
 (.ret))
 (.skip)))
 (.seq (.reg [o 12 (sMov (X 0)),
  o 13 (sMov (X 6)),
  o 14 (sIdxAddrS 2 (X 12) (X 13)),
  o 15 (sFieldAddr 1 (X 14)),
  o 16 (sLoad 1 false (X 15)),
  o 4 (sMov (X 16)),
  o 5 (sMov (K (.bool true)))])
 (.ret))))
theorem c8 (args : T) (h : AHeap) : (envL prog).call 8 args h = trim h (fin [.tmp 4, .tmp 5] (runC (envL prog) (b8 (envL prog)) (args ++ List.replicate (17 - args.length) .undef) h)) :=
 call_tr (fn := Go.Proofs.Try.f8) tab8 (by kernel_rfl) (by rfl) (by kernel_rfl) (fun t h => by kernel_rfl) rfl args h
def tab9 : Nat → Cert := fun i => ⟨0, 0, 0, 0, 0, 0⟩
noncomputable def l9x0 (E : Env) : CT :=
 .seq (.seq (.reg [o 6 (sMov (X 5)),
  o 7 (sMov (X 0)),
  o 8 (sLenSl (X 7)),
  o 9 (sBin .lss .none (X 6) (X 8))])
 (.ite (X 9)
 (.skip)
 (.exit 0)))
 (.seq (.block 1 (.seq (.reg [o 12 (sMov (X 0)),
  o 13 (sMov (X 5)),
  o 14 (sIdxAddrS 2 (X 12) (X 13)),
  o 15 (sFieldAddr 0 (X 14)),
  o 16 (sLoad 1 false (X 15)),
  o 17 (sMov (X 1)),
  o 18 (sBin .eql .none (X 16) (X 17))])
 (.ite (X 18)
 (.seq (.reg [o 19 (sMov (X 5)),
  o 4 (sMov (X 19))])
 (.ret))
 (.skip))))
 (.reg [o 10 (sMov (X 5)),
  o 11 (sBin .add .none (X 10) (K (.int .i64 1))),
  o 5 (sMov (X 11))]))
noncomputable def b9 (E : Env) : CT :=
 .seq (.reg [o 4 (sMov (K (.int .i64 0)))])
 (.seq (.seq (.reg [o 5 (sMov (K (.int .i64 0)))])
 (.block 0 (.loop (l9x0 E))))
 (.seq (.reg [o 4 (sMov (K (.int .i64 (-1))))])
 (.ret)))
theorem c9 (args : T) (h : AHeap) : (envL prog).call 9 args h = trim h (fin [.tmp 4] (runC (envL prog) (b9 (envL prog)) (args ++ List.replicate (20 - args.length) .undef) h)) :=
 call_tr (fn := Go.Proofs.Try.f9) tab9 (by kernel_rfl) (by rfl) (by kernel_rfl) (fun t h => by kernel_rfl) rfl args h
def tab10 : Nat → Cert := fun i => ⟨0, 0, 0, 0, 0, 0⟩
noncomputable def l10x0 (E : Env) : CT :=
 .seq (.reg [o 21 (sBin .lss .none (X 20) (X 19))])
 (.seq (.ite (X 21)
 (.skip)
 (.exit 2))
 (.seq (.block 3 (.seq (.reg [o 22 (sIdxAddrS 2 (X 18) (X 20)),
  o 23 (sLoad 2 true (X 22)),
  o 9 (sAlloc [.int .i64 0, .int .i64 0]),
  u (sStore 2 (X 9) (X 23))])
 (.seq (.reg [o 24 (sFieldAddr 0 (X 9)),
  o 25 (sLoad 1 false (X 24)),
  o 26 (sFieldAddr 0 (X 7)),
  o 27 (sLoad 1 false (X 26)),
  o 28 (sBin .eql .none (X 25) (X 27))])
 (.ite (X 28)
 (.seq (.reg [o 29 (sMov (X 5)),
  o 30 (sFieldAddr 1 (X 7)),
  o 31 (sLoad 1 false (X 30)),
  o 32 (sBuildSl 1 1 [.int .i64 0] [(0, 1, (X 31))]),
  o 33 (sApp (ty 1 false 8 [.int .i64 0]) (X 29) (X 32)),
  o 5 (sMov (X 33))])
 (.exit 1))
 (.skip)))))
 (.reg [o 34 (sBin .add .none (X 20) (K (.int .i64 1))),
  o 20 (sMov (X 34))])))
noncomputable def l10x1 (E : Env) : CT :=
 .seq (.reg [o 15 (sBin .lss .none (X 14) (X 13))])
 (.seq (.ite (X 15)
 (.skip)
 (.exit 0))
 (.seq (.block 1 (.seq (.reg [o 16 (sIdxAddrS 2 (X 12) (X 14)),
  o 17 (sLoad 2 true (X 16)),
  o 7 (sAlloc [.int .i64 0, .int .i64 0]),
  u (sStore 2 (X 7) (X 17))])
 (.seq (.seq (.reg [o 18 (sMov (X 0)),
  o 19 (sLenSl (X 18)),
  o 20 (sMov (K (.int .i64 0)))])
 (.block 2 (.loop (l10x0 E))))
 (.reg [o 35 (sMov (X 4)),
  o 36 (sFieldAddr 0 (X 7)),
  o 37 (sLoad 1 false (X 36)),
  o 38 (sFieldAddr 1 (X 7)),
  o 39 (sLoad 1 false (X 38)),
  o 40 (sCall E 15 [(X 35), (X 37), (X 39)]),
  o 4 (sMov (X 40))]))))
 (.reg [o 41 (sBin .add .none (X 14) (K (.int .i64 1))),
  o 14 (sMov (X 41))])))
noncomputable def b10 (E : Env) : CT :=
 .seq (.reg [o 4 (sMov (K (.nilSl))),
  o 5 (sMov (K (.nilSl)))])
 (.seq (.reg [o 10 (sMov (X 0)),
  o 11 (sCall E 19 [(X 10)]),
  o 4 (sMov (X 11))])
 (.seq (.skip)
 (.seq (.seq (.reg [o 12 (sMov (X 1)),
  o 13 (sLenSl (X 12)),
  o 14 (sMov (K (.int .i64 0)))])
 (.block 0 (.loop (l10x1 E))))
 (.seq (.reg [o 42 (sMov (X 4)),
  o 43 (sMov (X 5)),
  o 4 (sMov (X 42)),
  o 5 (sMov (X 43))])
 (.ret)))))
theorem d10 (E : Env) (args : T) (h : AHeap) : callBody prog E 10 args h = trim h (fin [.tmp 4, .tmp 5] (runC E (b10 E) (args ++ List.replicate (44 - args.length) .undef) h)) :=
 body_tr (fn := Go.Proofs.Try.f10) tab10 (by kernel_rfl) (by rfl) (by kernel_rfl) (fun t h => by kernel_rfl) rfl args h
def tab11 : Nat → Cert := fun i => bif Nat.beq i 6 then ⟨11, 35, 1328253846541365523700446104844765184, 1328253885236060761483371233950042112, 59103009294591718820563021255798003668939273220845502400139633499177112652747920656061873493597673025555404679020576, 2336235820604546144957095570034667960176583439512619536267633943559355247457521879827942276595738⟩ else bif Nat.beq i 7 then ⟨15, 49, 26958712491755578471648861399267116945946241357035229360653263208448, 26958712494791494042827195893322561737143572077766470272150942023680, 135552670017994439853557224444145485417530933323854520267336847079386156118978095891078414139585654630048298962335025041869302375818528039401728168675190872499248784220861237904886041847049706735358835663550705554002280480, 27944948782935994341312748909135096511588089476735849839931088318374998616005145947818009642105555200692386930941963328759665885946675885013980392168205450359141483239241528363428735509229207588⟩ else ⟨0, 0, 0, 0, 0, 0⟩
noncomputable def l11x0 (E : Env) : CT :=
 .seq (.seq (.reg [o 11 (sMov (X 6)),
  o 12 (sMov (X 1)),
  o 13 (sLenSl (X 12)),
  o 14 (sBin .lss .none (X 11) (X 13))])
 (.ite (X 14)
 (.skip)
 (.exit 0)))
 (.seq (.block 1 (.seq (.reg [o 17 (sMov (X 0)),
  o 18 (sMov (X 1)),
  o 19 (sMov (X 6)),
  o 20 (sIdxAddrS 2 (X 18) (X 19)),
  o 21 (sFieldAddr 0 (X 20)),
  o 22 (sLoad 1 false (X 21)),
  o 23 (sCall E 9 [(X 17), (X 22)]),
  o 24 (sBin .geq .none (X 23) (K (.int .i64 0)))])
 (.ite (X 24)
 (.drw [.op (o 25 (sFieldAddr 1 (X 5))),
  .op (o 26 (sLoad 1 false (X 25))),
  .op (o 27 (sMov (X 1))),
  .op (o 28 (sMov (X 6))),
  .op (o 29 (sIdxAddrS 2 (X 27) (X 28))),
  .op (o 30 (sFieldAddr 1 (X 29))),
  .op (o 31 (sLoad 1 false (X 30))),
  .op (o 32 (sBuildSl 1 1 [.int .i64 0] [(0, 1, (X 31))])),
  .hv 255 (o 33 (sApp (ty 1 false 8 [.int .i64 0]) (X 26) (X 32))),
  .op (o 34 (sFieldAddr 1 (X 5))),
  .hv 1023 (u (sStore 1 (X 34) (X 33)))])
 (.drw [.op (o 35 (sFieldAddr 0 (X 5))),
  .op (o 36 (sLoad 1 false (X 35))),
  .op (o 37 (sMov (X 1))),
  .op (o 38 (sMov (X 6))),
  .op (o 39 (sIdxAddrS 2 (X 37) (X 38))),
  .op (o 40 (sFieldAddr 0 (X 39))),
  .op (o 41 (sLoad 1 false (X 40))),
  .op (o 42 (sMov (X 1))),
  .op (o 43 (sMov (X 6))),
  .op (o 44 (sIdxAddrS 2 (X 42) (X 43))),
  .op (o 45 (sFieldAddr 1 (X 44))),
  .op (o 46 (sLoad 1 false (X 45))),
  .hv 4095 (o 47 (sCall E 16 [(X 36), (X 41), (X 46)])),
  .op (o 48 (sFieldAddr 0 (X 5))),
  .hv 16383 (u (sStore 1 (X 48) (X 47)))]))))
 (.reg [o 15 (sMov (X 6)),
  o 16 (sBin .add .none (X 15) (K (.int .i64 1))),
  o 6 (sMov (X 16))]))
noncomputable def b11 (E : Env) : CT :=
 .seq (.reg [o 4 (sAlloc [.nilSl, .nilSl])])
 (.seq (.reg [o 7 (sBuildSl 2 0 [.int .i64 0, .int .i64 0] []),
  o 8 (sMov (X 0)),
  o 9 (sApp (ty 2 true 16 [.int .i64 0, .int .i64 0]) (X 7) (X 8)),
  o 10 (sBuild [.nilSl, .nilSl] [(0, 1, (X 9))]),
  o 5 (sAlloc [.nilSl, .nilSl]),
  u (sStore 2 (X 5) (X 10))])
 (.seq (.seq (.reg [o 6 (sMov (K (.int .i64 0)))])
 (.block 0 (.loop (l11x0 E))))
 (.seq (.reg [o 49 (sLoad 2 true (X 5)),
  u (sStore 2 (X 4) (X 49))])
 (.ret))))
theorem c11 (args : T) (h : AHeap) : (envL prog).call 11 args h = trim h (fin [.cell 4 2 true] (runC (envL prog) (b11 (envL prog)) (args ++ List.replicate (50 - args.length) .undef) h)) :=
 call_tr (fn := Go.Proofs.Try.f11) tab11 (by kernel_rfl) (by rfl) (by kernel_rfl) (fun t h => by kernel_rfl) rfl args h
def tab12 : Nat → Cert := fun i => bif Nat.beq i 5 then ⟨41, 57, 26879162388085686345656385837946460297081111765991358483411092623524562867393236087858947211754487900278667630048474670165221809929094740941537574563361666218765001032592564931023107322345194080303715981926938210602600346656767983418991688141802375025040548192474784240783283883202430920548006654075037319199750127703493283824697213002270560521233650991654447954531025128449073776965913681696732989010772948529193785362207988009264032230767642724346795815439611787246991962457420833781179711687368221130752, 53751763281581245769098257181553740227902341713442860261185979190566584631939466203010977254012202452891594087060655633673237001706172005052225770795609916594280664111702919604417040237926851915474295482555110717244818282300520335210541435686476107285527492029883492695096121060986429424223501537829431065531557693692808084189960426783272017832448429890643969591990896319634368968683866869596824838713834702798491480433311209233594992497895712112118543312167222278396606756499668884471598549431227372273664, 16073959964283633306425242473010085694415356138226962267612230887089026203214208082567549824253529171160902891500653194517770074317860918219032037904828555340671594567059931429168809268703220408050465022880834301345506911697107661274305987611512079651259301965444768395131365200197128985935411443533031466952731862423019020435236663786859002017326077335505216010262802653475299697151908679160190545273893221078963738786856691690752937248555197931556586460531110730883461226725175283874323201214264207847454465395151147818976648891094086500888676787666149750985480609072176677840375146262753129128512966821127190382306697123645646827026076895005057279818876121845076667843000893818624036419254839284859392, 12936539158328994545780995073471535576603230798522526350283096213857896509703633645707268407732763702005244231959175247554070321082328751389309412587398988989485184775401389748718564241700094235778643365979387810231052079390546080414431718479758776794355459043469701343096348882299661265725052056111728323505450178855011641873863601196029739824972813803859223864590343100298408971965697913419824058979634559935637826911972951644287572478292722620911485755766255101927999707847651627756968646316440989845250226204669337278852551634747404077782431765578558208720926945333664205355415439009824804076068866543217105912083085763536580422659105539017315844496974199187566342931395417691631124498⟩ else ⟨0, 0, 0, 0, 0, 0⟩
noncomputable def l12x0 (E : Env) : CT :=
 .seq (.reg [o 13 (sBin .lss .none (X 12) (X 11))])
 (.seq (.ite (X 13)
 (.skip)
 (.exit 0))
 (.seq (.block 1 (.seq (.reg [o 14 (sMov (X 12)),
  o 15 (sIdxAddrS 2 (X 10) (X 12)),
  o 16 (sLoad 2 true (X 15)),
  o 9 (sAlloc [.int .i64 0, .int .i64 0]),
  o 8 (sMov (X 14)),
  u (sStore 2 (X 9) (X 16))])
 (.seq (.seq (.drw [.op (o 17 (sFieldAddr 0 (X 9))),
  .op (o 18 (sLoad 1 false (X 17))),
  .op (o 19 (sBin .lss .none (X 18) (K (.int .i64 0)))),
  .op (o 20 (sMov (X 19))),
  .op (og 20 false 21 (sFieldAddr 0 (X 9))),
  .op (og 20 false 22 (sLoad 1 false (X 21))),
  .op (og 20 false 23 (sMov (X 1))),
  .op (og 20 false 24 (sBin .geq .none (X 22) (X 23))),
  .op (o 25 (sPick (X 20) (K (.bool true)) (X 24))),
  .op (o 26 (sMov (X 25))),
  .op (og 26 false 27 (sFieldAddr 1 (X 9))),
  .op (og 26 false 28 (sLoad 1 false (X 27))),
  .op (og 26 false 29 (sBin .lss .none (X 28) (K (.int .i64 0)))),
  .op (o 30 (sPick (X 26) (K (.bool true)) (X 29))),
  .op (o 31 (sMov (X 30))),
  .op (og 31 false 32 (sFieldAddr 1 (X 9))),
  .op (og 31 false 33 (sLoad 1 false (X 32))),
  .op (og 31 false 34 (sMov (X 2))),
  .op (og 31 false 35 (sBin .geq .none (X 33) (X 34))),
  .op (o 36 (sPick (X 31) (K (.bool true)) (X 35))),
  .op (o 37 (sMov (X 36))),
  .op (og 37 false 38 (sMov (X 7))),
  .op (og 37 false 39 (sFieldAddr 1 (X 9))),
  .op (og 37 false 40 (sLoad 1 false (X 39))),
  .hv 16777215 (og 37 false 41 (sCall E 20 [(X 38), (X 40)])),
  .op (o 42 (sPick (X 37) (K (.bool true)) (X 41))),
  .op (o 43 (sMov (X 42))),
  .op (og 43 false 44 (sMov (X 8))),
  .op (og 43 false 45 (sBin .gtr .none (X 44) (K (.int .i64 0)))),
  .op (og 43 false 46 (sMov (X 45))),
  .op (og 46 true 47 (sFieldAddr 0 (X 9))),
  .op (og 46 true 48 (sLoad 1 false (X 47))),
  .op (og 46 true 49 (sMov (X 0))),
  .op (og 46 true 50 (sMov (X 8))),
  .op (og 46 true 51 (sBin .sub .none (X 50) (K (.int .i64 1)))),
  .op (og 46 true 52 (sIdxAddrS 2 (X 49) (X 51))),
  .op (og 46 true 53 (sFieldAddr 0 (X 52))),
  .op (og 46 true 54 (sLoad 1 false (X 53))),
  .op (og 46 true 55 (sBin .leq .none (X 48) (X 54))),
  .op (og 43 false 56 (sPick (X 46) (X 55) (K (.bool false)))),
  .op (o 57 (sPick (X 43) (K (.bool true)) (X 56)))])
 (.ite (X 57)
 (.seq (.reg [o 6 (sMov (K (.bool false)))])
 (.ret))
 (.skip)))
 (.reg [o 58 (sMov (X 7)),
  o 59 (sFieldAddr 1 (X 9)),
  o 60 (sLoad 1 false (X 59)),
  o 61 (sBuildSl 1 1 [.int .i64 0] [(0, 1, (X 60))]),
  o 62 (sApp (ty 1 false 8 [.int .i64 0]) (X 58) (X 61)),
  o 7 (sMov (X 62))]))))
 (.reg [o 63 (sBin .add .none (X 12) (K (.int .i64 1))),
  o 12 (sMov (X 63))])))
noncomputable def b12 (E : Env) : CT :=
 .seq (.reg [o 6 (sMov (K (.bool false)))])
 (.seq (.reg [o 7 (sMov (K (.nilSl)))])
 (.seq (.seq (.reg [o 10 (sMov (X 0)),
  o 11 (sLenSl (X 10)),
  o 12 (sMov (K (.int .i64 0)))])
 (.block 0 (.loop (l12x0 E))))
 (.seq (.reg [o 6 (sMov (K (.bool true)))])
 (.ret))))
theorem c12 (args : T) (h : AHeap) : (envL prog).call 12 args h = trim h (fin [.tmp 6] (runC (envL prog) (b12 (envL prog)) (args ++ List.replicate (64 - args.length) .undef) h)) :=
 call_tr (fn := Go.Proofs.Try.f12) tab12 (by kernel_rfl) (by rfl) (by kernel_rfl) (fun t h => by kernel_rfl) rfl args h
def tab13 : Nat → Cert := fun i => bif Nat.beq i 5 then ⟨35, 54, 144456706240742981253486938374969308533123264002620000681016550140940253929527120781808113596246415559588982351890878079397792769697254485239022099675621311049157380824964577029222200946777355783001768362621860261725534632731675630217324692389378082841641421990937063765867598618010837991518763239128842681689613669332762054546092433501921137109431498623997324088573952, 288878149018735126432926659676826792261178797128031392956774616214939589884509551620059743572313814691738715893108607009114062911916276416050642609584127244776172830745860665777805220586891026465120651774165449405011584273751568869088427802074488460214714729002607837296636654041261806413249880688608159492937650675323939145843618222543003598383311026073218442034413568, 44229784206561672429893437339037386784259271102677553716410146472340358793404465046211112429062104804855459834226842340084834730867527084048169953153570209926118649392904435171806503065386605183252795305392843925373863132967669290950875946589306724190766513360090643108065373644313703892443249180625752623817025758509668122690431020009228199314515124033100959664669467755330992796113518279749835441885390973083179205000717835264721305985134416389164002101468444099248431043838641692619142884421431437327240219340308676758246626537488613854785205993669184242475622990080, 270044122031432679258317848931287541416898229210046106854921639519170262810144933030667189034706973094997009217778226633370741766206342450924657117750348353810997371095044221710537780679457271360367266048042120846891015005410406138289934477152860353207474720418934662215896122987230146314759783031126939802661263544856925968416176318219332204197448288403620125725748185725313099957565849473268454870011931895413926657804287554967318000385964693181317512182115186281732562948772194447407702125857087376297235727201432422653246956914802164093057366881206293⟩ else bif Nat.beq i 10 then ⟨8, 67, 5773614756716019712, 9160321706613735424, 140591056079474886963210401186270428235110358827524880905723735898270829006881166179088429663677163340969020795534910783594490040318026827612183437665589725757441, 103651807334710679558284138487803516497591328517300419146875112630728913876326142734175096983865593647941495051041647169322716650609505487290429⟩ else ⟨0, 0, 0, 0, 0, 0⟩
noncomputable def l13x0 (E : Env) : CT :=
 .seq (.seq (.reg [o 55 (sMov (X 9)),
  o 56 (sMov (X 7)),
  o 57 (sBin .lss .none (X 55) (X 56))])
 (.ite (X 57)
 (.skip)
 (.exit 2)))
 (.seq (.block 3 (.seq (.drw [.op (o 60 (sMov (X 0))),
  .op (o 61 (sMov (X 9))),
  .op (o 62 (sIdxAddrS 2 (X 60) (X 61))),
  .op (o 63 (sFieldAddr 1 (X 62))),
  .op (o 64 (sLoad 1 false (X 63))),
  .op (o 65 (sFieldAddr 1 (X 8))),
  .op (o 66 (sLoad 1 false (X 65))),
  .op (o 67 (sBin .eql .none (X 64) (X 66)))])
 (.ite (X 67)
 (.seq (.reg [o 6 (sMov (K (.bool false)))])
 (.ret))
 (.skip))))
 (.reg [o 58 (sMov (X 9)),
  o 59 (sBin .add .none (X 58) (K (.int .i64 1))),
  o 9 (sMov (X 59))]))
noncomputable def l13x1 (E : Env) : CT :=
 .seq (.seq (.reg [o 10 (sMov (X 7)),
  o 11 (sMov (X 0)),
  o 12 (sLenSl (X 11)),
  o 13 (sBin .lss .none (X 10) (X 12))])
 (.ite (X 13)
 (.skip)
 (.exit 0)))
 (.seq (.block 1 (.seq (.reg [o 16 (sMov (X 0)),
  o 17 (sMov (X 7)),
  o 18 (sIdxAddrS 2 (X 16) (X 17)),
  o 19 (sLoad 2 true (X 18)),
  o 8 (sAlloc [.int .i64 0, .int .i64 0]),
  u (sStore 2 (X 8) (X 19))])
 (.seq (.seq (.drw [.op (o 20 (sFieldAddr 0 (X 8))),
  .op (o 21 (sLoad 1 false (X 20))),
  .op (o 22 (sBin .lss .none (X 21) (K (.int .i64 0)))),
  .op (o 23 (sMov (X 22))),
  .op (og 23 false 24 (sFieldAddr 0 (X 8))),
  .op (og 23 false 25 (sLoad 1 false (X 24))),
  .op (og 23 false 26 (sMov (X 1))),
  .op (og 23 false 27 (sBin .geq .none (X 25) (X 26))),
  .op (o 28 (sPick (X 23) (K (.bool true)) (X 27))),
  .op (o 29 (sMov (X 28))),
  .op (og 29 false 30 (sFieldAddr 1 (X 8))),
  .op (og 29 false 31 (sLoad 1 false (X 30))),
  .op (og 29 false 32 (sBin .lss .none (X 31) (K (.int .i64 0)))),
  .op (o 33 (sPick (X 29) (K (.bool true)) (X 32))),
  .op (o 34 (sMov (X 33))),
  .op (og 34 false 35 (sFieldAddr 1 (X 8))),
  .op (og 34 false 36 (sLoad 1 false (X 35))),
  .op (og 34 false 37 (sMov (X 2))),
  .op (og 34 false 38 (sBin .geq .none (X 36) (X 37))),
  .op (o 39 (sPick (X 34) (K (.bool true)) (X 38))),
  .op (o 40 (sMov (X 39))),
  .op (og 40 false 41 (sMov (X 7))),
  .op (og 40 false 42 (sBin .gtr .none (X 41) (K (.int .i64 0)))),
  .op (og 40 false 43 (sMov (X 42))),
  .op (og 43 true 44 (sFieldAddr 0 (X 8))),
  .op (og 43 true 45 (sLoad 1 false (X 44))),
  .op (og 43 true 46 (sMov (X 0))),
  .op (og 43 true 47 (sMov (X 7))),
  .op (og 43 true 48 (sBin .sub .none (X 47) (K (.int .i64 1)))),
  .op (og 43 true 49 (sIdxAddrS 2 (X 46) (X 48))),
  .op (og 43 true 50 (sFieldAddr 0 (X 49))),
  .op (og 43 true 51 (sLoad 1 false (X 50))),
  .op (og 43 true 52 (sBin .leq .none (X 45) (X 51))),
  .op (og 40 false 53 (sPick (X 43) (X 52) (K (.bool false)))),
  .op (o 54 (sPick (X 40) (K (.bool true)) (X 53)))])
 (.ite (X 54)
 (.seq (.reg [o 6 (sMov (K (.bool false)))])
 (.ret))
 (.skip)))
 (.seq (.reg [o 9 (sMov (K (.int .i64 0)))])
 (.block 2 (.loop (l13x0 E)))))))
 (.reg [o 14 (sMov (X 7)),
  o 15 (sBin .add .none (X 14) (K (.int .i64 1))),
  o 7 (sMov (X 15))]))
noncomputable def b13 (E : Env) : CT :=
 .seq (.reg [o 6 (sMov (K (.bool false)))])
 (.seq (.seq (.reg [o 7 (sMov (K (.int .i64 0)))])
 (.block 0 (.loop (l13x1 E))))
 (.seq (.reg [o 6 (sMov (K (.bool true)))])
 (.ret)))
theorem c13 (args : T) (h : AHeap) : (envL prog).call 13 args h = trim h (fin [.tmp 6] (runC (envL prog) (b13 (envL prog)) (args ++ List.replicate (68 - args.length) .undef) h)) :=
 call_tr (fn := Go.Proofs.Try.f13) tab13 (by kernel_rfl) (by rfl) (by kernel_rfl) (fun t h => by kernel_rfl) rfl args h
def tab14 : Nat → Cert := fun i => bif Nat.beq i 6 then ⟨9, 25, 642833002171759447506944, 1205237335491016659828736, 28644943735582074826047332177877539589708590883724224647809306984449, 41780390347995922719512288248198774037700430168845219084107794⟩ else ⟨0, 0, 0, 0, 0, 0⟩
noncomputable def l14x0 (E : Env) : CT :=
 .seq (.seq (.reg [o 11 (sMov (X 5)),
  o 12 (sMov (X 0)),
  o 13 (sLenSl (X 12)),
  o 14 (sBin .lss .none (X 11) (X 13))])
 (.ite (X 14)
 (.skip)
 (.exit 0)))
 (.seq (.block 1 (.seq (.drw [.op (o 17 (sMov (X 0))),
  .op (o 18 (sMov (X 5))),
  .op (o 19 (sIdxAddrS 2 (X 17) (X 18))),
  .op (o 20 (sLoad 2 true (X 19))),
  .op (o 21 (sMov (X 1))),
  .op (o 22 (sMov (X 5))),
  .op (o 23 (sIdxAddrS 2 (X 21) (X 22))),
  .op (o 24 (sLoad 2 true (X 23))),
  .op (o 25 (sBin .neq (.flat 2) (X 20) (X 24)))])
 (.ite (X 25)
 (.seq (.reg [o 4 (sMov (K (.bool false)))])
 (.ret))
 (.skip))))
 (.reg [o 15 (sMov (X 5)),
  o 16 (sBin .add .none (X 15) (K (.int .i64 1))),
  o 5 (sMov (X 16))]))
noncomputable def b14 (E : Env) : CT :=
 .seq (.reg [o 4 (sMov (K (.bool false)))])
 (.seq (.seq (.reg [o 6 (sMov (X 0)),
  o 7 (sLenSl (X 6)),
  o 8 (sMov (X 1)),
  o 9 (sLenSl (X 8)),
  o 10 (sBin .neq .none (X 7) (X 9))])
 (.ite (X 10)
 (.seq (.reg [o 4 (sMov (K (.bool false)))])
 (.ret))
 (.skip)))
 (.seq (.seq (.reg [o 5 (sMov (K (.int .i64 0)))])
 (.block 0 (.loop (l14x0 E))))
 (.seq (.reg [o 4 (sMov (K (.bool true)))])
 (.ret))))
theorem c14 (args : T) (h : AHeap) : (envL prog).call 14 args h = trim h (fin [.tmp 4] (runC (envL prog) (b14 (envL prog)) (args ++ List.replicate (26 - args.length) .undef) h)) :=
 call_tr (fn := Go.Proofs.Try.f14) tab14 (by kernel_rfl) (by rfl) (by kernel_rfl) (fun t h => by kernel_rfl) rfl args h
def tab15 : Nat → Cert := fun i => ⟨0, 0, 0, 0, 0, 0⟩
noncomputable def l15x0 (E : Env) : CT :=
 .seq (.reg [o 29 (sBin .lss .none (X 28) (X 27))])
 (.seq (.ite (X 29)
 (.skip)
 (.exit 0))
 (.seq (.block 1 (.seq (.reg [o 30 (sMov (X 28)),
  o 31 (sIdxAddrS 2 (X 26) (X 28)),
  o 32 (sLoad 2 true (X 31)),
  o 10 (sAlloc [.int .i64 0, .int .i64 0]),
  o 9 (sMov (X 30)),
  u (sStore 2 (X 10) (X 32))])
 (.seq (.reg [o 33 (sFieldAddr 0 (X 10)),
  o 34 (sLoad 1 false (X 33)),
  o 35 (sMov (X 1)),
  o 36 (sBin .gtr .none (X 34) (X 35))])
 (.ite (X 36)
 (.seq (.reg [o 37 (sMov (X 0)),
  o 38 (sMov (X 9)),
  o 39 (sLoad 2 true (X 7)),
  o 40 (sBuildSl 2 1 [.int .i64 0, .int .i64 0] [(0, 2, (X 39))]),
  o 41 (sCall E 21 [(X 37), (X 38), (X 40)]),
  o 6 (sMov (X 41))])
 (.ret))
 (.skip)))))
 (.reg [o 42 (sBin .add .none (X 28) (K (.int .i64 1))),
  o 28 (sMov (X 42))])))
noncomputable def b15 (E : Env) : CT :=
 .seq (.reg [o 6 (sMov (K (.nilSl)))])
 (.seq (.reg [o 11 (sMov (X 1)),
  o 12 (sMov (X 2)),
  o 13 (sBuild [.int .i64 0, .int .i64 0] [(0, 1, (X 11)), (1, 1, (X 12))]),
  o 7 (sAlloc [.int .i64 0, .int .i64 0]),
  u (sStore 2 (X 7) (X 13))])
 (.seq (.reg [o 14 (sMov (X 0)),
  o 15 (sCall E 19 [(X 14)]),
  o 0 (sMov (X 15))])
 (.seq (.seq (.reg [o 16 (sMov (X 0)),
  o 17 (sMov (X 1)),
  o 18 (sCall E 18 [(X 16), (X 17)]),
  o 8 (sMov (X 18))])
 (.seq (.reg [o 19 (sMov (X 8)),
  o 20 (sBin .geq .none (X 19) (K (.int .i64 0)))])
 (.ite (X 20)
 (.seq (.reg [o 21 (sMov (X 0)),
  o 22 (sMov (X 8)),
  o 23 (sLoad 2 true (X 7)),
  o 24 (sIdxAddrS 2 (X 21) (X 22)),
  u (sStore 2 (X 24) (X 23))])
 (.seq (.reg [o 25 (sMov (X 0)),
  o 6 (sMov (X 25))])
 (.ret)))
 (.skip))))
 (.seq (.seq (.reg [o 26 (sMov (X 0)),
  o 27 (sLenSl (X 26)),
  o 28 (sMov (K (.int .i64 0)))])
 (.block 0 (.loop (l15x0 E))))
 (.seq (.reg [o 43 (sMov (X 0)),
  o 44 (sLoad 2 true (X 7)),
  o 45 (sBuildSl 2 1 [.int .i64 0, .int .i64 0] [(0, 2, (X 44))]),
  o 46 (sApp (ty 2 true 16 [.int .i64 0, .int .i64 0]) (X 43) (X 45)),
  o 6 (sMov (X 46))])
 (.ret))))))
theorem d15 (E : Env) (args : T) (h : AHeap) : callBody prog E 15 args h = trim h (fin [.tmp 6] (runC E (b15 E) (args ++ List.replicate (47 - args.length) .undef) h)) :=
 body_tr (fn := Go.Proofs.Try.f15) tab15 (by kernel_rfl) (by rfl) (by kernel_rfl) (fun t h => by kernel_rfl) rfl args h
def tab16 : Nat → Cert := fun i => bif Nat.beq i 9 then ⟨15, 53, 26958532566379518184764560580696244315029331769695927757434446151680, 26958712493223661308581985579810045872524309122974061433987402825728, 104187725513747729539025845093753247630958592085039583889196816810672572606310456447300816022082273201779113495033379782914725786302662111575671552141532351097974402333362130059185257340372745376065735296821485192201525693432095715899736064, 161940256448164160271613555876984842001300647110621741958828365748683635964124535960229412504793759710705901898932666503845319003743228583991825013025618496985217149474048001521973631500106578875723378121113582598695187120168⟩ else ⟨0, 0, 0, 0, 0, 0⟩
noncomputable def l16x0 (E : Env) : CT :=
 .seq (.seq (.reg [o 24 (sMov (X 9)),
  o 25 (sMov (X 0)),
  o 26 (sLenSl (X 25)),
  o 27 (sBin .lss .none (X 24) (X 26)),
  o 28 (sMov (X 27)),
  og 28 true 29 (sMov (X 0)),
  og 28 true 30 (sMov (X 9)),
  og 28 true 31 (sIdxAddrS 2 (X 29) (X 30)),
  og 28 true 32 (sFieldAddr 0 (X 31)),
  og 28 true 33 (sLoad 1 false (X 32)),
  og 28 true 34 (sMov (X 1)),
  og 28 true 35 (sBin .leq .none (X 33) (X 34)),
  o 36 (sPick (X 28) (X 35) (K (.bool false)))])
 (.ite (X 36)
 (.skip)
 (.exit 0)))
 (.block 1 (.reg [o 37 (sMov (X 9)),
  o 38 (sBin .add .none (X 37) (K (.int .i64 1))),
  o 9 (sMov (X 38))]))
noncomputable def b16 (E : Env) : CT :=
 .seq (.reg [o 6 (sMov (K (.nilSl)))])
 (.seq (.reg [o 10 (sBuildSl 2 0 [.int .i64 0, .int .i64 0] []),
  o 11 (sMov (X 0)),
  o 12 (sApp (ty 2 true 16 [.int .i64 0, .int .i64 0]) (X 10) (X 11)),
  o 7 (sMov (X 12))])
 (.seq (.seq (.reg [o 13 (sMov (X 0)),
  o 14 (sMov (X 1)),
  o 15 (sCall E 9 [(X 13), (X 14)]),
  o 8 (sMov (X 15))])
 (.seq (.reg [o 16 (sMov (X 8)),
  o 17 (sBin .geq .none (X 16) (K (.int .i64 0)))])
 (.ite (X 17)
 (.seq (.reg [o 18 (sMov (X 7)),
  o 19 (sMov (X 8)),
  o 20 (sMov (X 2)),
  o 21 (sIdxAddrS 2 (X 18) (X 19)),
  o 22 (sFieldAddr 1 (X 21)),
  u (sStore 1 (X 22) (X 20))])
 (.seq (.reg [o 23 (sMov (X 7)),
  o 6 (sMov (X 23))])
 (.ret)))
 (.skip))))
 (.seq (.reg [o 9 (sMov (K (.int .i64 0)))])
 (.seq (.block 0 (.loop (l16x0 E)))
 (.seq (.drw [.op (o 39 (sBuildSl 2 0 [.int .i64 0, .int .i64 0] [])),
  .op (o 40 (sMov (X 0))),
  .op (o 41 (sMov (X 9))),
  .op (o 42 (sSliceS 2 (X 40) none (some (X 41)) none)),
  .op (o 44 (sMov (X 1))),
  .op (o 45 (sMov (X 2))),
  .op (o 46 (sBuild [.int .i64 0, .int .i64 0] [(0, 1, (X 44)), (1, 1, (X 45))])),
  .op (o 47 (sBuildSl 2 1 [.int .i64 0, .int .i64 0] [(0, 2, (X 46))])),
  .op (o 49 (sMov (X 0))),
  .op (o 50 (sMov (X 9))),
  .rd 12 (o 51 (sSliceS 2 (X 49) (some (X 50)) none none)),
  .hv 15 (o 43 (sApp (ty 2 true 16 [.int .i64 0, .int .i64 0]) (X 39) (X 42))),
  .hv 511 (o 48 (sApp (ty 2 true 16 [.int .i64 0, .int .i64 0]) (X 43) (X 47))),
  .hv 8191 (o 52 (sApp (ty 2 true 16 [.int .i64 0, .int .i64 0]) (X 48) (X 51))),
  .op (o 6 (sMov (X 52)))])
 (.ret))))))
theorem c16 (args : T) (h : AHeap) : (envL prog).call 16 args h = trim h (fin [.tmp 6] (runC (envL prog) (b16 (envL prog)) (args ++ List.replicate (53 - args.length) .undef) h)) :=
 call_tr (fn := Go.Proofs.Try.f16) tab16 (by kernel_rfl) (by rfl) (by kernel_rfl) (fun t h => by kernel_rfl) rfl args h
def tab17 : Nat → Cert := fun i => bif Nat.beq i 6 then ⟨9, 25, 642833002171759447506944, 1205237335491016659828736, 28644943735582074826047332177877539589708590883724224647809306984449, 41780390347995922719512288248198774037700430168845219084107794⟩ else ⟨0, 0, 0, 0, 0, 0⟩
noncomputable def l17x0 (E : Env) : CT :=
 .seq (.seq (.reg [o 11 (sMov (X 5)),
  o 12 (sMov (X 0)),
  o 13 (sLenSl (X 12)),
  o 14 (sBin .lss .none (X 11) (X 13))])
 (.ite (X 14)
 (.skip)
 (.exit 0)))
 (.seq (.block 1 (.seq (.drw [.op (o 17 (sMov (X 0))),
  .op (o 18 (sMov (X 5))),
  .op (o 19 (sIdxAddrS 1 (X 17) (X 18))),
  .op (o 20 (sLoad 1 false (X 19))),
  .op (o 21 (sMov (X 1))),
  .op (o 22 (sMov (X 5))),
  .op (o 23 (sIdxAddrS 1 (X 21) (X 22))),
  .op (o 24 (sLoad 1 false (X 23))),
  .op (o 25 (sBin .neq .none (X 20) (X 24)))])
 (.ite (X 25)
 (.seq (.reg [o 4 (sMov (K (.bool false)))])
 (.ret))
 (.skip))))
 (.reg [o 15 (sMov (X 5)),
  o 16 (sBin .add .none (X 15) (K (.int .i64 1))),
  o 5 (sMov (X 16))]))
noncomputable def b17 (E : Env) : CT :=
 .seq (.reg [o 4 (sMov (K (.bool false)))])
 (.seq (.seq (.reg [o 6 (sMov (X 0)),
  o 7 (sLenSl (X 6)),
  o 8 (sMov (X 1)),
  o 9 (sLenSl (X 8)),
  o 10 (sBin .neq .none (X 7) (X 9))])
 (.ite (X 10)
 (.seq (.reg [o 4 (sMov (K (.bool false)))])
 (.ret))
 (.skip)))
 (.seq (.seq (.reg [o 5 (sMov (K (.int .i64 0)))])
 (.block 0 (.loop (l17x0 E))))
 (.seq (.reg [o 4 (sMov (K (.bool true)))])
 (.ret))))
theorem c17 (args : T) (h : AHeap) : (envL prog).call 17 args h = trim h (fin [.tmp 4] (runC (envL prog) (b17 (envL prog)) (args ++ List.replicate (26 - args.length) .undef) h)) :=
 call_tr (fn := Go.Proofs.Try.f17) tab17 (by kernel_rfl) (by rfl) (by kernel_rfl) (fun t h => by kernel_rfl) rfl args h
def tab18 : Nat → Cert := fun i => ⟨0, 0, 0, 0, 0, 0⟩
noncomputable def b18 (E : Env) : CT :=
 .seq (.reg [o 3 (sBox (X 1)),
  o 4 (sMov (K (.int .i64 0)))])
 (.seq (.reg [o 5 (sMov (X 0)),
  o 6 (sFun 23 [(X 3)]),
  o 7 (sCall E 22 [(X 5), (X 6)]),
  o 4 (sMov (X 7))])
 (.ret))
theorem c18 (args : T) (h : AHeap) : (envL prog).call 18 args h = trim h (fin [.tmp 4] (runC (envL prog) (b18 (envL prog)) (args ++ List.replicate (8 - args.length) .undef) h)) :=
 call_tr (fn := Go.Proofs.Try.f18) tab18 (by kernel_rfl) (by rfl) (by kernel_rfl) (fun t h => by kernel_rfl) rfl args h
def tab19 : Nat → Cert := fun i => ⟨0, 0, 0, 0, 0, 0⟩
noncomputable def b19 (E : Env) : CT :=
 .seq (.reg [o 2 (sMov (K (.nilSl)))])
 (.seq (.seq (.reg [o 3 (sMov (X 0)),
  o 4 (sBin .eql .slice (X 3) (K (.nilSl)))])
 (.ite (X 4)
 (.seq (.reg [o 2 (sMov (K (.nilSl)))])
 (.ret))
 (.skip)))
 (.seq (.reg [o 5 (sBuildSl 2 0 [.int .i64 0, .int .i64 0] []),
  o 6 (sMov (X 0)),
  o 7 (sApp (ty 2 true 16 [.int .i64 0, .int .i64 0]) (X 5) (X 6)),
  o 2 (sMov (X 7))])
 (.ret)))
theorem c19 (args : T) (h : AHeap) : (envL prog).call 19 args h = trim h (fin [.tmp 2] (runC (envL prog) (b19 (envL prog)) (args ++ List.replicate (8 - args.length) .undef) h)) :=
 call_tr (fn := Go.Proofs.Try.f19) tab19 (by kernel_rfl) (by rfl) (by kernel_rfl) (fun t h => by kernel_rfl) rfl args h
def tab20 : Nat → Cert := fun i => ⟨0, 0, 0, 0, 0, 0⟩
noncomputable def b20 (E : Env) : CT :=
 .seq (.reg [o 4 (sMov (K (.bool false)))])
 (.seq (.reg [o 5 (sMov (X 0)),
  o 6 (sMov (X 1)),
  o 7 (sCall E 24 [(X 5), (X 6)]),
  o 8 (sBin .geq .none (X 7) (K (.int .i64 0))),
  o 4 (sMov (X 8))])
 (.ret))
theorem c20 (args : T) (h : AHeap) : (envL prog).call 20 args h = trim h (fin [.tmp 4] (runC (envL prog) (b20 (envL prog)) (args ++ List.replicate (9 - args.length) .undef) h)) :=
 call_tr (fn := Go.Proofs.Try.f20) tab20 (by kernel_rfl) (by rfl) (by kernel_rfl) (fun t h => by kernel_rfl) rfl args h
def tab21 : Nat → Cert := fun i => bif Nat.beq i 11 then ⟨9, 54, 680906217249386249846784, 1205088896848329185427456, 112382947811375724488742041453776276374570809350632868170734732734838719881293241590782288705168714390777596721837144699999507108449320042638606848, 609987332706579302352693848719322061433462702010702316706625686780384052692097453976043110735309001855013995224369916608979312574511⟩ else bif Nat.beq i 15 then ⟨9, 77, 680906217249386249846784, 1205088896848329185427456, 23115831598601250764242733299745186244064715112560933823724752031692391757118915468275322643558725747272738064420965321799759590965544320155833376631231322711835302609810875268349228821309506037028511729844225, 21211526881130410853267533183424259031483221315037831563207555260244335392337441166579316541022363516950468447371577672569443599734093801526701739672898498476400484063534686101840588701766⟩ else ⟨0, 0, 0, 0, 0, 0⟩
noncomputable def b21 (E : Env) : CT :=
 .seq (.reg [o 6 (sMov (K (.nilSl)))])
 (.seq (.reg [o 10 (sMov (X 0)),
  o 11 (sMov (X 1)),
  o 12 (sSliceS 2 (X 10) (some (X 11)) none none)])
 (.seq (.reg [o 13 (sMov (X 2)),
  o 14 (sLenSl (X 13)),
  o 7 (sMov (X 14))])
 (.seq (.seq (.reg [o 15 (sMov (X 7)),
  o 16 (sBin .eql .none (X 15) (K (.int .i64 0)))])
 (.ite (X 16)
 (.seq (.reg [o 17 (sMov (X 0)),
  o 6 (sMov (X 17))])
 (.ret))
 (.skip)))
 (.seq (.reg [o 18 (sMov (X 0)),
  o 19 (sLenSl (X 18)),
  o 8 (sMov (X 19))])
 (.seq (.seq (.reg [o 20 (sMov (X 1)),
  o 21 (sMov (X 8)),
  o 22 (sBin .eql .none (X 20) (X 21))])
 (.ite (X 22)
 (.seq (.reg [o 23 (sMov (X 0)),
  o 24 (sMov (X 2)),
  o 25 (sApp (ty 2 true 16 [.int .i64 0, .int .i64 0]) (X 23) (X 24)),
  o 6 (sMov (X 25))])
 (.ret))
 (.skip)))
 (.seq (.seq (.reg [o 26 (sMov (X 8)),
  o 27 (sMov (X 7)),
  o 28 (sBin .add .none (X 26) (X 27)),
  o 29 (sMov (X 0)),
  o 30 (sCapSl (X 29)),
  o 31 (sBin .gtr .none (X 28) (X 30))])
 (.ite (X 31)
 (.seq (.reg [o 32 (sMov (X 0)),
  o 33 (sMov (X 1)),
  o 34 (sSliceS 2 (X 32) none (some (X 33)) none),
  o 35 (sMov (X 8)),
  o 36 (sMov (X 7)),
  o 37 (sBin .add .none (X 35) (X 36)),
  o 38 (sMov (X 1)),
  o 39 (sBin .sub .none (X 37) (X 38)),
  o 40 (sAppN (ty 2 true 16 [.int .i64 0, .int .i64 0]) (X 34) (X 39)),
  o 9 (sMov (X 40))])
 (.seq (.reg [o 41 (sMov (X 9)),
  o 42 (sMov (X 1)),
  o 43 (sSliceS 2 (X 41) (some (X 42)) none none),
  o 44 (sMov (X 2)),
  o 45 (sCopy (ty 2 true 16 [.int .i64 0, .int .i64 0]) (X 43) (X 44))])
 (.seq (.drw [.op (o 46 (sMov (X 9))),
  .op (o 47 (sMov (X 1))),
  .op (o 48 (sMov (X 7))),
  .op (o 49 (sBin .add .none (X 47) (X 48))),
  .op (o 50 (sSliceS 2 (X 46) (some (X 49)) none none)),
  .op (o 51 (sMov (X 0))),
  .op (o 52 (sMov (X 1))),
  .op (o 53 (sSliceS 2 (X 51) (some (X 52)) none none)),
  .hv 255 (o 54 (sCopy (ty 2 true 16 [.int .i64 0, .int .i64 0]) (X 50) (X 53)))])
 (.seq (.reg [o 55 (sMov (X 9)),
  o 6 (sMov (X 55))])
 (.ret)))))
 (.skip)))
 (.seq (.reg [o 56 (sMov (X 0)),
  o 57 (sMov (X 8)),
  o 58 (sMov (X 7)),
  o 59 (sBin .add .none (X 57) (X 58)),
  o 60 (sSliceS 2 (X 56) none (some (X 59)) none),
  o 0 (sMov (X 60))])
 (.seq (.seq (.reg [o 61 (sMov (X 2)),
  o 62 (sMov (X 0)),
  o 63 (sMov (X 1)),
  o 64 (sMov (X 7)),
  o 65 (sBin .add .none (X 63) (X 64)),
  o 66 (sSliceS 2 (X 62) (some (X 65)) none none),
  o 67 (sCall E 25 [(X 61), (X 66)]),
  o 68 (sUn .not (X 67))])
 (.ite (X 68)
 (.seq (.drw [.op (o 69 (sMov (X 0))),
  .op (o 70 (sMov (X 1))),
  .op (o 71 (sMov (X 7))),
  .op (o 72 (sBin .add .none (X 70) (X 71))),
  .op (o 73 (sSliceS 2 (X 69) (some (X 72)) none none)),
  .op (o 74 (sMov (X 0))),
  .op (o 75 (sMov (X 1))),
  .op (o 76 (sSliceS 2 (X 74) (some (X 75)) none none)),
  .hv 255 (o 77 (sCopy (ty 2 true 16 [.int .i64 0, .int .i64 0]) (X 73) (X 76)))])
 (.seq (.reg [o 78 (sMov (X 0)),
  o 79 (sMov (X 1)),
  o 80 (sSliceS 2 (X 78) (some (X 79)) none none),
  o 81 (sMov (X 2)),
  o 82 (sCopy (ty 2 true 16 [.int .i64 0, .int .i64 0]) (X 80) (X 81))])
 (.seq (.reg [o 83 (sMov (X 0)),
  o 6 (sMov (X 83))])
 (.ret))))
 (.skip)))
 (.seq (.reg [o 84 (sMov (X 0)),
  o 85 (sMov (X 8)),
  o 86 (sSliceS 2 (X 84) (some (X 85)) none none),
  o 87 (sMov (X 2)),
  o 88 (sCopy (ty 2 true 16 [.int .i64 0, .int .i64 0]) (X 86) (X 87))])
 (.seq (.reg [o 89 (sMov (X 0)),
  o 90 (sMov (X 1)),
  o 91 (sSliceS 2 (X 89) (some (X 90)) none none),
  o 92 (sMov (X 7)),
  o 93 (sCall E 26 [(X 91), (X 92)])])
 (.seq (.reg [o 94 (sMov (X 0)),
  o 6 (sMov (X 94))])
 (.ret))))))))))))
theorem d21 (E : Env) (args : T) (h : AHeap) : callBody prog E 21 args h = trim h (fin [.tmp 6] (runC E (b21 E) (args ++ List.replicate (95 - args.length) .undef) h)) :=
 body_tr (fn := Go.Proofs.Try.f21) tab21 (by kernel_rfl) (by rfl) (by kernel_rfl) (fun t h => by kernel_rfl) rfl args h
def tab22 : Nat → Cert := fun i => ⟨0, 0, 0, 0, 0, 0⟩
noncomputable def l22x0 (E : Env) : CT :=
 .seq (.reg [o 9 (sBin .lss .none (X 8) (X 7))])
 (.seq (.ite (X 9)
 (.skip)
 (.exit 0))
 (.seq (.block 1 (.seq (.reg [o 10 (sMov (X 8)),
  o 5 (sMov (X 10))])
 (.seq (.reg [o 11 (sMov (X 1)),
  o 12 (sMov (X 0)),
  o 13 (sMov (X 5)),
  o 14 (sIdxAddrS 2 (X 12) (X 13)),
  o 15 (sLoad 2 true (X 14)),
  o 16 (sCallV E (X 11) [(X 15)])])
 (.ite (X 16)
 (.seq (.reg [o 17 (sMov (X 5)),
  o 4 (sMov (X 17))])
 (.ret))
 (.skip)))))
 (.reg [o 18 (sBin .add .none (X 8) (K (.int .i64 1))),
  o 8 (sMov (X 18))])))
noncomputable def b22 (E : Env) : CT :=
 .seq (.reg [o 4 (sMov (K (.int .i64 0)))])
 (.seq (.seq (.reg [o 6 (sMov (X 0)),
  o 7 (sLenSl (X 6)),
  o 8 (sMov (K (.int .i64 0)))])
 (.block 0 (.loop (l22x0 E))))
 (.seq (.reg [o 4 (sMov (K (.int .i64 (-1))))])
 (.ret)))
theorem c22 (args : T) (h : AHeap) : (envL prog).call 22 args h = trim h (fin [.tmp 4] (runC (envL prog) (b22 (envL prog)) (args ++ List.replicate (19 - args.length) .undef) h)) :=
 call_tr (fn := Go.Proofs.Try.f22) tab22 (by kernel_rfl) (by rfl) (by kernel_rfl) (fun t h => by kernel_rfl) rfl args h
def tab23 : Nat → Cert := fun i => ⟨0, 0, 0, 0, 0, 0⟩
noncomputable def b23 (E : Env) : CT :=
 .seq (.reg [o 2 (sBox (X 0)),
  o 3 (sMov (K (.bool false)))])
 (.seq (.reg [o 4 (sFieldAddr 0 (X 2)),
  o 5 (sLoad 1 false (X 4)),
  o 6 (sLoad 1 false (X 1)),
  o 7 (sBin .eql .none (X 5) (X 6)),
  o 3 (sMov (X 7))])
 (.ret))
theorem c23 (args : T) (h : AHeap) : (envL prog).call 23 args h = trim h (fin [.tmp 3] (runC (envL prog) (b23 (envL prog)) (args ++ List.replicate (8 - args.length) .undef) h)) :=
 call_tr (fn := Go.Proofs.Try.f23) tab23 (by kernel_rfl) (by rfl) (by kernel_rfl) (fun t h => by kernel_rfl) rfl args h
def tab24 : Nat → Cert := fun i => ⟨0, 0, 0, 0, 0, 0⟩
noncomputable def l24x0 (E : Env) : CT :=
 .seq (.reg [o 9 (sBin .lss .none (X 8) (X 7))])
 (.seq (.ite (X 9)
 (.skip)
 (.exit 0))
 (.seq (.block 1 (.seq (.reg [o 10 (sMov (X 8)),
  o 5 (sMov (X 10))])
 (.seq (.reg [o 11 (sMov (X 1)),
  o 12 (sMov (X 0)),
  o 13 (sMov (X 5)),
  o 14 (sIdxAddrS 1 (X 12) (X 13)),
  o 15 (sLoad 1 false (X 14)),
  o 16 (sBin .eql .none (X 11) (X 15))])
 (.ite (X 16)
 (.seq (.reg [o 17 (sMov (X 5)),
  o 4 (sMov (X 17))])
 (.ret))
 (.skip)))))
 (.reg [o 18 (sBin .add .none (X 8) (K (.int .i64 1))),
  o 8 (sMov (X 18))])))
noncomputable def b24 (E : Env) : CT :=
 .seq (.reg [o 4 (sMov (K (.int .i64 0)))])
 (.seq (.seq (.reg [o 6 (sMov (X 0)),
  o 7 (sLenSl (X 6)),
  o 8 (sMov (K (.int .i64 0)))])
 (.block 0 (.loop (l24x0 E))))
 (.seq (.reg [o 4 (sMov (K (.int .i64 (-1))))])
 (.ret)))
theorem c24 (args : T) (h : AHeap) : (envL prog).call 24 args h = trim h (fin [.tmp 4] (runC (envL prog) (b24 (envL prog)) (args ++ List.replicate (19 - args.length) .undef) h)) :=
 call_tr (fn := Go.Proofs.Try.f24) tab24 (by kernel_rfl) (by rfl) (by kernel_rfl) (fun t h => by kernel_rfl) rfl args h
def tab26 : Nat → Cert := fun i => ⟨0, 0, 0, 0, 0, 0⟩
noncomputable def b26 (E : Env) : CT :=
 .reg [o 4 (sMov (X 0)),
  o 5 (sMov (X 0)),
  o 6 (sLenSl (X 5)),
  o 7 (sMov (X 1)),
  o 8 (sBin .sub .none (X 6) (X 7)),
  o 9 (sCall E 27 [(X 4), (X 8)])]
def tab27 : Nat → Cert := fun i => ⟨0, 0, 0, 0, 0, 0⟩
noncomputable def b27 (E : Env) : CT :=
 .seq (.reg [o 4 (sMov (X 0)),
  o 5 (sMov (X 1)),
  o 6 (sSliceS 2 (X 4) none (some (X 5)) none),
  o 7 (sCall E 28 [(X 6)])])
 (.seq (.reg [o 8 (sMov (X 0)),
  o 9 (sMov (X 1)),
  o 10 (sSliceS 2 (X 8) (some (X 9)) none none),
  o 11 (sCall E 28 [(X 10)])])
 (.reg [o 12 (sMov (X 0)),
  o 13 (sCall E 28 [(X 12)])]))
def tab28 : Nat → Cert := fun i => bif Nat.beq i 3 then ⟨16, 28, 57894719459027041039228457592296632997839216734824893010426242787938068856832, 57894719459764238329548227498075550650561006036747800846190911987956708278272, 454274202686737477100230534695774712502513948269849389049864162533032793141819789876856597036761096566259325779089164914285804817219585, 282433580415755630773185425421385536119557289084081792138567543612662221620134092496699646472603025737139006890884202511⟩ else ⟨0, 0, 0, 0, 0, 0⟩
noncomputable def l28x0 (E : Env) : CT :=
 .seq (.seq (.reg [o 7 (sMov (X 2)),
  o 8 (sMov (X 3)),
  o 9 (sBin .lss .none (X 7) (X 8))])
 (.ite (X 9)
 (.skip)
 (.exit 0)))
 (.seq (.block 1 (.drw [.op (o 14 (sMov (X 0))),
  .op (o 15 (sMov (X 2))),
  .op (o 16 (sMov (X 0))),
  .op (o 17 (sMov (X 3))),
  .op (o 18 (sMov (X 0))),
  .op (o 19 (sMov (X 3))),
  .op (o 20 (sIdxAddrS 2 (X 18) (X 19))),
  .op (o 21 (sLoad 2 true (X 20))),
  .op (o 22 (sMov (X 0))),
  .op (o 23 (sMov (X 2))),
  .op (o 24 (sIdxAddrS 2 (X 22) (X 23))),
  .op (o 25 (sLoad 2 true (X 24))),
  .op (o 26 (sIdxAddrS 2 (X 14) (X 15))),
  .hv 8179 (u (sStore 2 (X 26) (X 21))),
  .op (o 27 (sIdxAddrS 2 (X 16) (X 17))),
  .hv 32767 (u (sStore 2 (X 27) (X 25)))]))
 (.reg [o 10 (sMov (X 2)),
  o 11 (sBin .add .none (X 10) (K (.int .i64 1))),
  o 12 (sMov (X 3)),
  o 13 (sBin .sub .none (X 12) (K (.int .i64 1))),
  o 2 (sMov (X 11)),
  o 3 (sMov (X 13))]))
noncomputable def b28 (E : Env) : CT :=
 .seq (.reg [o 4 (sMov (X 0)),
  o 5 (sLenSl (X 4)),
  o 6 (sBin .sub .none (X 5) (K (.int .i64 1))),
  o 2 (sMov (K (.int .i64 0))),
  o 3 (sMov (X 6))])
 (.block 0 (.loop (l28x0 E)))
end Go.Proofs.Ytekceggcbpeoeaa.G10
