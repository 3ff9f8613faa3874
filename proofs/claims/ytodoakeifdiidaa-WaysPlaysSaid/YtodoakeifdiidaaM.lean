/- What the functions that WaysPlays reaches answer, for every argument. No condition but those in each statement. -/
import Derived.Test.YtodoakeifdiidaaE5
import Derived.Test.YtodoakeifdiidaaProg
set_option maxRecDepth 100000
set_option linter.unusedVariables false
namespace Go.Proofs.Ytodoakeifdiidaa.G13
open Go Go.Proofs.Ytodoakeifdiidaa.Eng
noncomputable abbrev prog : Program := Go.Proofs.Try.prog

/-! f3: revetment/revetmentlaw13.WaysApart -/
def tab3 : Nat → Cert := fun i => bif Nat.beq i 1 then ⟨12, 39, 11144969370549338067194728067408234316566528, 11144969443249100609253703887904831606624256, 381072821083516806914309829888175720553057590016146669763981514938844831247777912575817379798028081339297468783610897868907035476856831737860, 9704343929437982378904044017410355656064466200617985277928947566320310415468574057217076541170947469374408840899962908715035656222⟩ else bif Nat.beq i 18 then ⟨11, 125, 669991432398292769623275228777940992, 1328253867887215760774438297526077440, 415521770675643056037074483710674109495691887872626066309247711718635864096178991346265342481024499900682015993525959612524858682598500617790648016390845363594032320764092892590056674026143827962493594887752537381455194942801935115060670469504013986379958082883298656952859376329356443520372354740443967141024833661591466615436689852626264631011527351851926335833081391206390487815622884206823930039912568514019328, 2442671836405460321013965236484771180704439444284938909497529925797986758731537738921448469414482888533379989248889748651624598338652133032241622020033706224847496190660332799049641410373069328829487664526123682348703184877708425241838271019485912941915535440303377164608979994257080047984231623913208710862577613879634894512347331713316938485730404794053630579401539583370854516⟩ else bif Nat.beq i 29 then ⟨17, 174, 250605369063941716889010512803658919660986712340003654536034679457781201536259708813312, 497317544944773875588691058423800451527460068441595850254244679364249337584511023710208, 140953842339172400088084102265551921807553352783461123007261791059244472988311917247748646517719442005779748273452192643208005337149954717086261729284711139584042506960793740078232437628311712515576525601550094748057283966450289343972649272946211863913371763998328864783403544944763779756672305301718332316156660761157434373212681596259184903118263697364279048142707011083197625773285844106362463580387137418088288861879288809573449260025863746698249682253410893160381211503433080934043943276348312381662929959121115270085254034947290124788568643201459569681072571918480601819720505403695185078240289362059423351367745176263491275504947382957833403242400199629928648254328531556656624801777367575078370034829644539168508269376357789863152417526526937374666667162929356612813147776650988869052230927146816732826741022643520385927481779268382616694563836038068533560279028351125775419711700992, 2044306347978507135599367208750889128423732879386401577972764760908742269427439830438841000116160509668052003204724345175091013494037388059060626665297946432781899969938954360305275482314645043656252464820363710316627252331574452436897326226324299076280237972801104259526211560806226368623654094354386511535684606685052138889279287604505039565669466382200644470849177751847971293467844856280431323312685121254429218888966730484319267840398201314619159735957355840319362390412821410329602686685872661328667325934101505080944293096460622040587228903539772937126637133683983015202969757580121587340266697582692129841773940696806497436228132677384066351725444452609583621828963607793143720461063527093733188361141493581948240008989593898291269314109698758620869907470806531353940020734224918758547271401637451476899931471751800041696243144982687⟩ else bif Nat.beq i 45 then ⟨10, 236, 319565149005578787294128636928, 632895753040863660646161449984, 135874985886300618537294463335952721529734289989529468205641004542126449577333208661729944922706735166363531205332512600723000446712601052148417098635734170896219520670971930565869754200219121869837665137447556351892677829315463531032594605615672628841386070447445817769822136047154101192621721754760153053762866140014801991406898378766362580141844296837268075282556562407543321146647920642564824655124117594371485016650511081027405315356949183844823454784974885954164541088836985490857036057055160281031949194577830858211227780066065549826660163094322387519316170106331970430727981975219503263980039422521806092514176352816756649960199866418629911858411774096769033650384427130226085688319091489579718041141248, 578707533961462111378119363605154311723176851447271734812423664054367227741600839723338919192385068716407165212429975985514588705525275054826318561204521239456022172250873116273259085361970981034871583241846455185425176280865520176105367493110894176192321483824396920342676337256867952334863286358410969509931404429683751462937215264972457581687161944167066793675457463594040618394432300125763166097484297201712303872442444867767161208102126353975482556579560218483877729438061813575946311424175609728396696232671756968911421622002358867659479290768907636260611804093962947945953962034612006973850704045462464961488149315229912931716323868900⟩ else ⟨0, 0, 0, 0, 0, 0⟩
noncomputable def l3x0 (E : Env) : CT :=
  .seq (.seq (.reg [o 126 (sMov (X 18)),
    o 127 (sMov (X 6)),
    o 128 (sBin .lss .none (X 126) (X 127))])
  (.ite (X 128)
  (.skip)
  (.exit 2)))
  (.seq (.block 3 (.seq (.reg [o 131 (sMov (X 11)),
    o 132 (sMov (X 10)),
    o 133 (sMov (X 5)),
    o 134 (sBin .rem .none (X 132) (X 133)),
    o 135 (sMov (X 6)),
    o 136 (sBin .mul .none (X 134) (X 135)),
    o 137 (sMov (X 18)),
    o 138 (sBin .add .none (X 136) (X 137)),
    o 139 (sIdxAddrS 1 (X 131) (X 138)),
    o 140 (sLoad 1 false (X 139)),
    o 141 (sBin .lss .none (X 140) (K (.int .i64 0)))])
  (.ite (X 141)
  (.seq (.reg [o 4 (sMov (K (.bool false)))])
  (.ret))
  (.skip))))
  (.reg [o 129 (sMov (X 18)),
    o 130 (sBin .add .none (X 129) (K (.int .i64 1))),
    o 18 (sMov (X 130))]))
noncomputable def l3x1 (E : Env) : CT :=
  .seq (.seq (.reg [o 206 (sMov (X 25)),
    o 207 (sMov (X 21)),
    o 208 (sBin .lss .none (X 206) (X 207))])
  (.ite (X 208)
  (.skip)
  (.exit 6)))
  (.seq (.block 7 (.seq (.reg [o 212 (sMov (X 7)),
    o 213 (sMov (X 25)),
    o 214 (sCall E 17 [(X 212), (X 213)]),
    o 211 (sMov (X 214)),
    o 215 (sExtract (X 211) 0),
    o 216 (sExtract (X 211) 1),
    o 217 (sExtract (X 211) 2),
    o 26 (sMov (X 215)),
    o 27 (sMov (X 216)),
    o 28 (sMov (X 217))])
  (.seq (.reg [o 218 (sMov (X 24)),
    o 219 (sMov (X 218)),
    og 219 true 220 (sMov (X 28)),
    o 221 (sPick (X 219) (X 220) (K (.bool false))),
    o 222 (sMov (X 221)),
    og 222 true 223 (sMov (X 22)),
    og 222 true 224 (sMov (X 26)),
    og 222 true 225 (sBin .eql .none (X 223) (X 224)),
    o 226 (sPick (X 222) (X 225) (K (.bool false)))])
  (.ite (X 226)
  (.seq (.reg [o 4 (sMov (K (.bool false)))])
  (.ret))
  (.skip)))))
  (.reg [o 209 (sMov (X 25)),
    o 210 (sBin .add .none (X 209) (K (.int .i64 1))),
    o 25 (sMov (X 210))]))
noncomputable def l3x2 (E : Env) : CT :=
  .seq (.seq (.reg [o 192 (sMov (X 21)),
    o 193 (sMov (X 5)),
    o 194 (sMov (X 6)),
    o 195 (sBin .mul .none (X 193) (X 194)),
    o 196 (sBin .lss .none (X 192) (X 195))])
  (.ite (X 196)
  (.skip)
  (.exit 4)))
  (.seq (.block 5 (.seq (.reg [o 200 (sMov (X 7)),
    o 201 (sMov (X 21)),
    o 202 (sCall E 17 [(X 200), (X 201)]),
    o 199 (sMov (X 202)),
    o 203 (sExtract (X 199) 0),
    o 204 (sExtract (X 199) 1),
    o 205 (sExtract (X 199) 2),
    o 22 (sMov (X 203)),
    o 23 (sMov (X 204)),
    o 24 (sMov (X 205))])
  (.seq (.seq (.reg [o 25 (sMov (K (.int .i64 0)))])
  (.block 6 (.loop (l3x1 E))))
  (.seq (.drw [.op (o 227 (sMov (X 24))),
    .op (o 228 (sMov (X 227))),
    .op (og 228 true 229 (sMov (X 22))),
    .op (og 228 true 230 (sMov (X 5))),
    .op (og 228 true 231 (sBin .rem .none (X 229) (X 230))),
    .op (og 228 true 232 (sMov (X 21))),
    .op (og 228 true 233 (sMov (X 6))),
    .op (og 228 true 234 (sBin .quo .none (X 232) (X 233))),
    .op (og 228 true 235 (sBin .neq .none (X 231) (X 234))),
    .op (o 236 (sPick (X 228) (X 235) (K (.bool false))))])
  (.ite (X 236)
  (.seq (.reg [o 4 (sMov (K (.bool false)))])
  (.ret))
  (.skip))))))
  (.reg [o 197 (sMov (X 21)),
    o 198 (sBin .add .none (X 197) (K (.int .i64 1))),
    o 21 (sMov (X 198))]))
noncomputable def l3x3 (E : Env) : CT :=
  .seq (.seq (.reg [o 65 (sMov (X 9)),
    o 66 (sMov (X 1)),
    o 67 (sLenSl (X 66)),
    o 68 (sBin .lss .none (X 65) (X 67))])
  (.ite (X 68)
  (.skip)
  (.exit 0)))
  (.seq (.block 1 (.seq (.reg [o 71 (sMov (X 1)),
    o 72 (sMov (X 9)),
    o 73 (sIdxAddrS 4 (X 71) (X 72)),
    o 74 (sFieldAddr 1 (X 73)),
    o 75 (sLoad 1 false (X 74)),
    o 76 (sCall E 10 [(X 75), (K (.int .i64 40))]),
    o 10 (sMov (X 76))])
  (.seq (.reg [o 77 (sMov (X 7)),
    o 78 (sCall E 11 [(X 77)]),
    o 11 (sMov (X 78))])
  (.seq (.seq (.reg [o 79 (sMov (X 11)),
    o 80 (sLenSl (X 79)),
    o 81 (sMov (X 5)),
    o 82 (sMov (X 6)),
    o 83 (sBin .mul .none (X 81) (X 82)),
    o 84 (sBin .neq .none (X 80) (X 83))])
  (.ite (X 84)
  (.seq (.reg [o 4 (sMov (K (.bool false)))])
  (.ret))
  (.skip)))
  (.seq (.seq (.reg [o 86 (sMov (X 7)),
    o 87 (sMov (X 10)),
    o 88 (sCall E 12 [(X 86), (X 87)]),
    o 85 (sMov (X 88)),
    o 89 (sExtract (X 85) 0),
    o 90 (sExtract (X 85) 1),
    o 12 (sMov (X 89)),
    o 13 (sMov (X 90))])
  (.seq (.reg [o 91 (sMov (X 13))])
  (.ite (X 91)
  (.reg [o 92 (sMov (X 7)),
    o 93 (sMov (X 12)),
    o 94 (sMov (X 10)),
    o 95 (sMov (X 1)),
    o 96 (sMov (X 9)),
    o 97 (sIdxAddrS 4 (X 95) (X 96)),
    o 98 (sFieldAddr 3 (X 97)),
    o 99 (sLoad 1 false (X 98)),
    o 100 (sCall E 13 [(X 92), (X 93), (X 94), (X 99)])])
  (.seq (.reg [o 102 (sMov (X 7)),
    o 103 (sMov (X 10)),
    o 104 (sCall E 14 [(X 102), (X 103)]),
    o 101 (sMov (X 104)),
    o 105 (sExtract (X 101) 0),
    o 106 (sExtract (X 101) 1),
    o 14 (sMov (X 105)),
    o 15 (sMov (X 106))])
  (.seq (.seq (.reg [o 107 (sMov (X 15)),
    o 108 (sUn .not (X 107))])
  (.ite (X 108)
  (.seq (.reg [o 110 (sMov (X 7)),
    o 111 (sMov (X 10)),
    o 112 (sCall E 15 [(X 110), (X 111)]),
    o 109 (sMov (X 112)),
    o 113 (sExtract (X 109) 0),
    o 114 (sExtract (X 109) 1),
    o 16 (sMov (X 113)),
    o 17 (sMov (X 114))])
  (.seq (.seq (.drw [.op (o 115 (sMov (X 17))),
    .op (o 116 (sUn .not (X 115))),
    .op (o 117 (sMov (X 116))),
    .op (og 117 false 118 (sMov (X 16))),
    .op (og 117 false 119 (sMov (X 6))),
    .op (og 117 false 120 (sBin .quo .none (X 118) (X 119))),
    .op (og 117 false 121 (sMov (X 10))),
    .op (og 117 false 122 (sMov (X 5))),
    .op (og 117 false 123 (sBin .rem .none (X 121) (X 122))),
    .op (og 117 false 124 (sBin .neq .none (X 120) (X 123))),
    .op (o 125 (sPick (X 117) (K (.bool true)) (X 124)))])
  (.ite (X 125)
  (.seq (.reg [o 4 (sMov (K (.bool false)))])
  (.ret))
  (.skip)))
  (.seq (.seq (.reg [o 18 (sMov (K (.int .i64 0)))])
  (.block 2 (.loop (l3x0 E))))
  (.seq (.reg [o 142 (sMov (X 7)),
    o 143 (sMov (X 16)),
    o 144 (sCall E 16 [(X 142), (X 143)])])
  (.seq (.reg [o 146 (sMov (X 7)),
    o 147 (sMov (X 10)),
    o 148 (sCall E 14 [(X 146), (X 147)]),
    o 145 (sMov (X 148)),
    o 149 (sExtract (X 145) 0),
    o 150 (sExtract (X 145) 1),
    o 14 (sMov (X 149)),
    o 15 (sMov (X 150))])
  (.seq (.reg [o 151 (sMov (X 15)),
    o 152 (sUn .not (X 151)),
    o 153 (sMov (X 152)),
    og 153 false 154 (sMov (X 14)),
    og 153 false 155 (sMov (X 16)),
    og 153 false 156 (sBin .neq .none (X 154) (X 155)),
    o 157 (sPick (X 153) (K (.bool true)) (X 156))])
  (.ite (X 157)
  (.seq (.reg [o 4 (sMov (K (.bool false)))])
  (.ret))
  (.skip))))))))
  (.skip)))
  (.seq (.seq (.drw [.op (o 158 (sMov (X 14))),
    .op (o 159 (sBin .lss .none (X 158) (K (.int .i64 0)))),
    .op (o 160 (sMov (X 159))),
    .op (og 160 false 161 (sMov (X 14))),
    .op (og 160 false 162 (sMov (X 11))),
    .op (og 160 false 163 (sLenSl (X 162))),
    .op (og 160 false 164 (sBin .geq .none (X 161) (X 163))),
    .op (o 165 (sPick (X 160) (K (.bool true)) (X 164))),
    .op (o 166 (sMov (X 165))),
    .op (og 166 false 167 (sMov (X 14))),
    .op (og 166 false 168 (sMov (X 6))),
    .op (og 166 false 169 (sBin .quo .none (X 167) (X 168))),
    .op (og 166 false 170 (sMov (X 10))),
    .op (og 166 false 171 (sMov (X 5))),
    .op (og 166 false 172 (sBin .rem .none (X 170) (X 171))),
    .op (og 166 false 173 (sBin .neq .none (X 169) (X 172))),
    .op (o 174 (sPick (X 166) (K (.bool true)) (X 173)))])
  (.ite (X 174)
  (.seq (.reg [o 4 (sMov (K (.bool false)))])
  (.ret))
  (.skip)))
  (.reg [o 175 (sMov (X 7)),
    o 176 (sMov (X 14)),
    o 177 (sMov (X 10)),
    o 178 (sMov (X 1)),
    o 179 (sMov (X 9)),
    o 180 (sIdxAddrS 4 (X 178) (X 179)),
    o 181 (sFieldAddr 3 (X 180)),
    o 182 (sLoad 1 false (X 181)),
    o 183 (sCall E 13 [(X 175), (X 176), (X 177), (X 182)])])))))))
  (.seq (.seq (.reg [o 185 (sMov (X 7)),
    o 186 (sMov (X 10)),
    o 187 (sCall E 12 [(X 185), (X 186)]),
    o 184 (sMov (X 187)),
    o 188 (sExtract (X 184) 0),
    o 189 (sExtract (X 184) 1),
    o 19 (sMov (X 188)),
    o 20 (sMov (X 189))])
  (.seq (.reg [o 190 (sMov (X 20)),
    o 191 (sUn .not (X 190))])
  (.ite (X 191)
  (.seq (.reg [o 4 (sMov (K (.bool false)))])
  (.ret))
  (.skip))))
  (.seq (.reg [o 21 (sMov (K (.int .i64 0)))])
  (.block 4 (.loop (l3x2 E))))))))))
  (.reg [o 69 (sMov (X 9)),
    o 70 (sBin .add .none (X 69) (K (.int .i64 1))),
    o 9 (sMov (X 70))]))
noncomputable def b3 (E : Env) : CT :=
  .seq (.reg [o 2 (sBox (X 0)),
    o 4 (sMov (K (.bool false)))])
  (.seq (.drw [.op (o 29 (sIdxAddrA 2 1 (X 2) (K (.int .i64 0)))),
    .op (o 30 (sLoad 1 false (X 29))),
    .op (o 31 (sConv (.int .i64) (X 30))),
    .op (o 32 (sBin .rem .none (X 31) (K (.int .i64 8)))),
    .op (o 33 (sBin .add .none (K (.int .i64 1)) (X 32))),
    .op (o 34 (sIdxAddrA 2 1 (X 2) (K (.int .i64 1)))),
    .op (o 35 (sLoad 1 false (X 34))),
    .op (o 36 (sConv (.int .i64) (X 35))),
    .op (o 37 (sBin .rem .none (X 36) (K (.int .i64 4)))),
    .op (o 38 (sBin .add .none (K (.int .i64 1)) (X 37))),
    .op (o 5 (sMov (X 33))),
    .op (o 6 (sMov (X 38)))])
  (.seq (.reg [o 40 (sMov (X 5)),
    o 41 (sMov (X 6)),
    o 42 (sCall E 8 [(X 40), (X 41)]),
    o 39 (sMov (X 42)),
    o 43 (sExtract (X 39) 0),
    o 44 (sExtract (X 39) 1),
    o 7 (sMov (X 43)),
    o 8 (sMov (X 44))])
  (.seq (.seq (.reg [o 45 (sMov (X 8)),
    o 46 (sBin .neq .none (X 45) (K (.int .i64 0))),
    o 47 (sMov (X 46)),
    og 47 false 48 (sMov (X 7)),
    og 47 false 49 (sBin .eql .ptr (X 48) (K (.nilPtr))),
    o 50 (sPick (X 47) (K (.bool true)) (X 49)),
    o 51 (sMov (X 50)),
    og 51 false 52 (sMov (X 1)),
    og 51 false 53 (sLenSl (X 52)),
    og 51 false 54 (sBin .gtr .none (X 53) (K (.int .i64 150))),
    o 55 (sPick (X 51) (K (.bool true)) (X 54))])
  (.ite (X 55)
  (.seq (.reg [o 56 (sMov (X 8)),
    o 57 (sBin .eql .none (X 56) (K (.int .i64 0))),
    o 58 (sMov (X 57)),
    og 58 true 59 (sMov (X 7)),
    og 58 true 60 (sBin .neq .ptr (X 59) (K (.nilPtr))),
    o 61 (sPick (X 58) (X 60) (K (.bool false))),
    o 62 (sMov (X 61)),
    og 62 true 63 (sCall E 9 []),
    o 64 (sPick (X 62) (X 63) (K (.bool false))),
    o 4 (sMov (X 64))])
  (.ret))
  (.skip)))
  (.seq (.seq (.reg [o 9 (sMov (K (.int .i64 0)))])
  (.block 0 (.loop (l3x3 E))))
  (.seq (.reg [o 237 (sCall E 9 []),
    o 4 (sMov (X 237))])
  (.ret))))))
theorem c3 (args : T) (h : AHeap) : (envL prog).call 3 args h = trim h (fin [.tmp 4] (runC (envL prog) (b3 (envL prog)) (args ++ List.replicate (238 - args.length) .undef) h)) :=
  call_tr (fn := Go.Proofs.Try.f3) tab3 (by kernel_rfl) (by rfl) (by kernel_rfl) (fun t h => by kernel_rfl) rfl args h
theorem d3 (E : Env) (args : T) (h : AHeap) : callBody prog E 3 args h = trim h (fin [.tmp 4] (runC E (b3 E) (args ++ List.replicate (238 - args.length) .undef) h)) :=
  body_tr (fn := Go.Proofs.Try.f3) tab3 (by kernel_rfl) (by rfl) (by kernel_rfl) (fun t h => by kernel_rfl) rfl args h
/-! f5: revetment/revetmentlaw13.WaysSets -/
def tab5 : Nat → Cert := fun i => ⟨0, 0, 0, 0, 0, 0⟩
noncomputable def l5x0 (E : Env) : CT :=
  .seq (.seq (.reg [o 58 (sMov (X 10)),
    o 59 (sMov (X 0)),
    o 60 (sLenSl (X 59)),
    o 61 (sBin .lss .none (X 58) (X 60))])
  (.ite (X 61)
  (.skip)
  (.exit 0)))
  (.seq (.block 1 (.seq (.reg [o 64 (sMov (X 0)),
    o 65 (sMov (X 10)),
    o 66 (sIdxAddrS 4 (X 64) (X 65)),
    o 67 (sFieldAddr 1 (X 66)),
    o 68 (sLoad 1 false (X 67)),
    o 69 (sCall E 10 [(X 68), (K (.int .i64 16))]),
    o 11 (sMov (X 69))])
  (.seq (.reg [o 70 (sMov (X 11)),
    o 71 (sBin .rem .none (X 70) (K (.int .i64 2))),
    o 72 (sBin .eql .none (X 71) (K (.int .i64 0)))])
  (.ite (X 72)
  (.seq (.reg [o 74 (sMov (X 6)),
    o 75 (sMov (X 11)),
    o 76 (sCall E 14 [(X 74), (X 75)]),
    o 73 (sMov (X 76)),
    o 77 (sExtract (X 73) 0),
    o 78 (sExtract (X 73) 1),
    o 12 (sMov (X 77)),
    o 13 (sMov (X 78))])
  (.seq (.reg [o 80 (sMov (X 8)),
    o 81 (sMov (X 11)),
    o 82 (sCall E 14 [(X 80), (X 81)]),
    o 79 (sMov (X 82)),
    o 83 (sExtract (X 79) 0),
    o 84 (sExtract (X 79) 1),
    o 14 (sMov (X 83)),
    o 15 (sMov (X 84))])
  (.seq (.seq (.reg [o 85 (sMov (X 13)),
    o 86 (sMov (X 15)),
    o 87 (sBin .neq .bool (X 85) (X 86)),
    o 88 (sMov (X 87)),
    og 88 false 89 (sMov (X 12)),
    og 88 false 90 (sMov (X 14)),
    og 88 false 91 (sBin .neq .none (X 89) (X 90)),
    o 92 (sPick (X 88) (K (.bool true)) (X 91))])
  (.ite (X 92)
  (.seq (.reg [o 4 (sMov (K (.bool false)))])
  (.ret))
  (.skip)))
  (.seq (.reg [o 93 (sMov (X 13))])
  (.ite (X 93)
  (.seq (.reg [o 94 (sMov (X 6)),
    o 95 (sMov (X 12)),
    o 96 (sMov (X 11)),
    o 97 (sMov (X 0)),
    o 98 (sMov (X 10)),
    o 99 (sIdxAddrS 4 (X 97) (X 98)),
    o 100 (sFieldAddr 3 (X 99)),
    o 101 (sLoad 1 false (X 100)),
    o 102 (sCall E 13 [(X 94), (X 95), (X 96), (X 101)])])
  (.reg [o 103 (sMov (X 8)),
    o 104 (sMov (X 14)),
    o 105 (sMov (X 11)),
    o 106 (sMov (X 0)),
    o 107 (sMov (X 10)),
    o 108 (sIdxAddrS 4 (X 106) (X 107)),
    o 109 (sFieldAddr 3 (X 108)),
    o 110 (sLoad 1 false (X 109)),
    o 111 (sCall E 13 [(X 103), (X 104), (X 105), (X 110)])]))
  (.seq (.reg [o 113 (sMov (X 6)),
    o 114 (sMov (X 11)),
    o 115 (sCall E 15 [(X 113), (X 114)]),
    o 112 (sMov (X 115)),
    o 116 (sExtract (X 112) 0),
    o 117 (sExtract (X 112) 1),
    o 12 (sMov (X 116)),
    o 13 (sMov (X 117))])
  (.seq (.reg [o 119 (sMov (X 8)),
    o 120 (sMov (X 11)),
    o 121 (sCall E 15 [(X 119), (X 120)]),
    o 118 (sMov (X 121)),
    o 122 (sExtract (X 118) 0),
    o 123 (sExtract (X 118) 1),
    o 14 (sMov (X 122)),
    o 15 (sMov (X 123))])
  (.seq (.seq (.reg [o 124 (sMov (X 13)),
    o 125 (sUn .not (X 124)),
    o 126 (sMov (X 125)),
    og 126 false 127 (sMov (X 15)),
    og 126 false 128 (sUn .not (X 127)),
    o 129 (sPick (X 126) (K (.bool true)) (X 128)),
    o 130 (sMov (X 129)),
    og 130 false 131 (sMov (X 12)),
    og 130 false 132 (sMov (X 14)),
    og 130 false 133 (sBin .neq .none (X 131) (X 132)),
    o 134 (sPick (X 130) (K (.bool true)) (X 133))])
  (.ite (X 134)
  (.seq (.reg [o 4 (sMov (K (.bool false)))])
  (.ret))
  (.skip)))
  (.seq (.reg [o 135 (sMov (X 6)),
    o 136 (sMov (X 12)),
    o 137 (sCall E 16 [(X 135), (X 136)])])
  (.reg [o 138 (sMov (X 8)),
    o 139 (sMov (X 14)),
    o 140 (sCall E 16 [(X 138), (X 139)])]))))))))))
  (.seq (.reg [o 142 (sMov (X 6)),
    o 143 (sMov (X 11)),
    o 144 (sCall E 14 [(X 142), (X 143)]),
    o 141 (sMov (X 144)),
    o 145 (sExtract (X 141) 0),
    o 146 (sExtract (X 141) 1),
    o 16 (sMov (X 145)),
    o 17 (sMov (X 146))])
  (.seq (.reg [o 147 (sMov (X 17))])
  (.ite (X 147)
  (.reg [o 148 (sMov (X 6)),
    o 149 (sMov (X 16)),
    o 150 (sMov (X 11)),
    o 151 (sMov (X 0)),
    o 152 (sMov (X 10)),
    o 153 (sIdxAddrS 4 (X 151) (X 152)),
    o 154 (sFieldAddr 3 (X 153)),
    o 155 (sLoad 1 false (X 154)),
    o 156 (sCall E 13 [(X 148), (X 149), (X 150), (X 155)])])
  (.skip))))))))
  (.reg [o 62 (sMov (X 10)),
    o 63 (sBin .add .none (X 62) (K (.int .i64 1))),
    o 10 (sMov (X 63))]))
noncomputable def l5x1 (E : Env) : CT :=
  .seq (.seq (.reg [o 157 (sMov (X 18)),
    o 158 (sMov (X 5)),
    o 159 (sBin .lss .none (X 157) (X 158))])
  (.ite (X 159)
  (.skip)
  (.exit 2)))
  (.seq (.block 3 (.seq (.reg [o 163 (sMov (X 6)),
    o 164 (sMov (X 18)),
    o 165 (sCall E 17 [(X 163), (X 164)]),
    o 162 (sMov (X 165)),
    o 166 (sExtract (X 162) 0),
    o 167 (sExtract (X 162) 1),
    o 168 (sExtract (X 162) 2),
    o 19 (sMov (X 166)),
    o 20 (sMov (X 167)),
    o 21 (sMov (X 168))])
  (.seq (.reg [o 170 (sMov (X 8)),
    o 171 (sMov (X 18)),
    o 172 (sCall E 17 [(X 170), (X 171)]),
    o 169 (sMov (X 172)),
    o 173 (sExtract (X 169) 0),
    o 174 (sExtract (X 169) 1),
    o 175 (sExtract (X 169) 2),
    o 22 (sMov (X 173)),
    o 23 (sMov (X 174)),
    o 24 (sMov (X 175))])
  (.seq (.reg [o 176 (sMov (X 19)),
    o 177 (sMov (X 22)),
    o 178 (sBin .neq .none (X 176) (X 177)),
    o 179 (sMov (X 178)),
    og 179 false 180 (sMov (X 20)),
    og 179 false 181 (sMov (X 23)),
    og 179 false 182 (sBin .neq .bool (X 180) (X 181)),
    o 183 (sPick (X 179) (K (.bool true)) (X 182)),
    o 184 (sMov (X 183)),
    og 184 false 185 (sMov (X 21)),
    og 184 false 186 (sMov (X 24)),
    og 184 false 187 (sBin .neq .bool (X 185) (X 186)),
    o 188 (sPick (X 184) (K (.bool true)) (X 187))])
  (.ite (X 188)
  (.seq (.reg [o 4 (sMov (K (.bool false)))])
  (.ret))
  (.skip))))))
  (.reg [o 160 (sMov (X 18)),
    o 161 (sBin .add .none (X 160) (K (.int .i64 1))),
    o 18 (sMov (X 161))]))
noncomputable def b5 (E : Env) : CT :=
  .seq (.reg [o 3 (sBox (X 1)),
    o 4 (sMov (K (.bool false)))])
  (.seq (.seq (.reg [o 25 (sMov (X 0)),
    o 26 (sLenSl (X 25)),
    o 27 (sBin .gtr .none (X 26) (K (.int .i64 100)))])
  (.ite (X 27)
  (.seq (.reg [o 28 (sCall E 9 []),
    o 4 (sMov (X 28))])
  (.ret))
  (.skip)))
  (.seq (.reg [o 29 (sIdxAddrA 2 1 (X 3) (K (.int .i64 0))),
    o 30 (sLoad 1 false (X 29)),
    o 31 (sConv (.int .i64) (X 30)),
    o 32 (sBin .rem .none (X 31) (K (.int .i64 4))),
    o 33 (sBin .add .none (K (.int .i64 1)) (X 32)),
    o 5 (sMov (X 33))])
  (.seq (.reg [o 35 (sMov (X 5)),
    o 36 (sCall E 8 [(K (.int .i64 2)), (X 35)]),
    o 34 (sMov (X 36)),
    o 37 (sExtract (X 34) 0),
    o 38 (sExtract (X 34) 1),
    o 6 (sMov (X 37)),
    o 7 (sMov (X 38))])
  (.seq (.reg [o 40 (sMov (X 5)),
    o 41 (sCall E 8 [(K (.int .i64 2)), (X 40)]),
    o 39 (sMov (X 41)),
    o 42 (sExtract (X 39) 0),
    o 43 (sExtract (X 39) 1),
    o 8 (sMov (X 42)),
    o 9 (sMov (X 43))])
  (.seq (.seq (.reg [o 44 (sMov (X 7)),
    o 45 (sBin .neq .none (X 44) (K (.int .i64 0))),
    o 46 (sMov (X 45)),
    og 46 false 47 (sMov (X 9)),
    og 46 false 48 (sBin .neq .none (X 47) (K (.int .i64 0))),
    o 49 (sPick (X 46) (K (.bool true)) (X 48)),
    o 50 (sMov (X 49)),
    og 50 false 51 (sMov (X 6)),
    og 50 false 52 (sBin .eql .ptr (X 51) (K (.nilPtr))),
    o 53 (sPick (X 50) (K (.bool true)) (X 52)),
    o 54 (sMov (X 53)),
    og 54 false 55 (sMov (X 8)),
    og 54 false 56 (sBin .eql .ptr (X 55) (K (.nilPtr))),
    o 57 (sPick (X 54) (K (.bool true)) (X 56))])
  (.ite (X 57)
  (.seq (.reg [o 4 (sMov (K (.bool false)))])
  (.ret))
  (.skip)))
  (.seq (.seq (.reg [o 10 (sMov (K (.int .i64 0)))])
  (.block 0 (.loop (l5x0 E))))
  (.seq (.seq (.reg [o 18 (sMov (K (.int .i64 0)))])
  (.block 2 (.loop (l5x1 E))))
  (.seq (.reg [o 189 (sCall E 9 []),
    o 4 (sMov (X 189))])
  (.ret)))))))))
theorem c5 (args : T) (h : AHeap) : (envL prog).call 5 args h = trim h (fin [.tmp 4] (runC (envL prog) (b5 (envL prog)) (args ++ List.replicate (190 - args.length) .undef) h)) :=
  call_tr (fn := Go.Proofs.Try.f5) tab5 (by kernel_rfl) (by rfl) (by kernel_rfl) (fun t h => by kernel_rfl) rfl args h
theorem d5 (E : Env) (args : T) (h : AHeap) : callBody prog E 5 args h = trim h (fin [.tmp 4] (runC E (b5 E) (args ++ List.replicate (190 - args.length) .undef) h)) :=
  body_tr (fn := Go.Proofs.Try.f5) tab5 (by kernel_rfl) (by rfl) (by kernel_rfl) (fun t h => by kernel_rfl) rfl args h
/-! f6: revetment/revetmentlaw13.WaysPlays -/
def tab6 : Nat → Cert := fun i => ⟨0, 0, 0, 0, 0, 0⟩
noncomputable def l6x0 (E : Env) : CT :=
  .seq (.seq (.reg [o 44 (sMov (X 9)),
    o 45 (sMov (X 1)),
    o 46 (sLenSl (X 45)),
    o 47 (sBin .lss .none (X 44) (X 46)),
    o 48 (sMov (X 47)),
    og 48 true 49 (sMov (X 7)),
    og 48 true 50 (sBin .neq .ptr (X 49) (K (.nilPtr))),
    o 51 (sPick (X 48) (X 50) (K (.bool false)))])
  (.ite (X 51)
  (.skip)
  (.exit 0)))
  (.seq (.block 1 (.seq (.reg [o 54 (sMov (X 1)),
    o 55 (sMov (X 9)),
    o 56 (sIdxAddrS 4 (X 54) (X 55)),
    o 57 (sLoad 4 true (X 56)),
    o 10 (sAlloc [.int .i64 0, .int .i64 0, .int .i64 0, .bool false]),
    u (sStore 4 (X 10) (X 57))])
  (.seq (.reg [o 11 (sMov (K (.int .i64 0))),
    o 12 (sMov (K (.int .i64 0))),
    o 13 (sMov (K (.bool false)))])
  (.seq (.seq (.reg [o 58 (sFieldAddr 0 (X 10)),
    o 59 (sLoad 1 false (X 58))])
  (.block 2 (.seq (.reg [o 61 (sBin .eql .none (X 59) (K (.int .i64 0))),
    o 60 (sMov (X 61))])
  (.ite (X 60)
  (.seq (.reg [o 63 (sMov (X 5)),
    o 64 (sFieldAddr 1 (X 10)),
    o 65 (sLoad 1 false (X 64)),
    o 66 (sCall E 14 [(X 63), (X 65)]),
    o 62 (sMov (X 66)),
    o 67 (sExtract (X 62) 0),
    o 68 (sExtract (X 62) 1),
    o 11 (sMov (X 67)),
    o 13 (sMov (X 68))])
  (.seq (.reg [o 69 (sMov (X 7)),
    o 70 (sFieldAddr 1 (X 10)),
    o 71 (sLoad 1 false (X 70)),
    o 72 (sCall E 20 [(X 69), (X 71)]),
    o 12 (sMov (X 72))])
  (.seq (.seq (.reg [o 73 (sMov (X 13))])
  (.ite (X 73)
  (.reg [o 74 (sMov (X 5)),
    o 75 (sMov (X 11)),
    o 76 (sFieldAddr 1 (X 10)),
    o 77 (sLoad 1 false (X 76)),
    o 78 (sFieldAddr 3 (X 10)),
    o 79 (sLoad 1 false (X 78)),
    o 80 (sCall E 13 [(X 74), (X 75), (X 77), (X 79)])])
  (.skip)))
  (.seq (.reg [o 81 (sMov (X 12)),
    o 82 (sBin .geq .none (X 81) (K (.int .i64 0)))])
  (.ite (X 82)
  (.reg [o 83 (sMov (X 7)),
    o 84 (sMov (X 12)),
    o 85 (sFieldAddr 1 (X 10)),
    o 86 (sLoad 1 false (X 85)),
    o 87 (sFieldAddr 3 (X 10)),
    o 88 (sLoad 1 false (X 87)),
    o 89 (sCall E 21 [(X 83), (X 84), (X 86), (X 88)])])
  (.skip))))))
  (.seq (.reg [o 91 (sBin .eql .none (X 59) (K (.int .i64 1))),
    o 90 (sMov (X 91))])
  (.ite (X 90)
  (.seq (.reg [o 93 (sMov (X 5)),
    o 94 (sFieldAddr 1 (X 10)),
    o 95 (sLoad 1 false (X 94)),
    o 96 (sCall E 12 [(X 93), (X 95)]),
    o 92 (sMov (X 96)),
    o 97 (sExtract (X 92) 0),
    o 98 (sExtract (X 92) 1),
    o 11 (sMov (X 97)),
    o 13 (sMov (X 98))])
  (.seq (.reg [o 99 (sMov (X 7)),
    o 100 (sFieldAddr 1 (X 10)),
    o 101 (sLoad 1 false (X 100)),
    o 102 (sCall E 22 [(X 99), (X 101)]),
    o 12 (sMov (X 102))])
  (.seq (.seq (.reg [o 103 (sMov (X 13))])
  (.ite (X 103)
  (.reg [o 104 (sMov (X 5)),
    o 105 (sMov (X 11)),
    o 106 (sCall E 18 [(X 104), (X 105)])])
  (.skip)))
  (.reg [o 107 (sMov (X 7)),
    o 108 (sMov (X 12)),
    o 109 (sCall E 23 [(X 107), (X 108)])]))))
  (.seq (.reg [o 111 (sBin .eql .none (X 59) (K (.int .i64 2))),
    o 110 (sMov (X 111))])
  (.ite (X 110)
  (.seq (.reg [o 113 (sMov (X 5)),
    o 114 (sFieldAddr 1 (X 10)),
    o 115 (sLoad 1 false (X 114)),
    o 116 (sCall E 15 [(X 113), (X 115)]),
    o 112 (sMov (X 116)),
    o 117 (sExtract (X 112) 0),
    o 118 (sExtract (X 112) 1),
    o 11 (sMov (X 117)),
    o 13 (sMov (X 118))])
  (.seq (.reg [o 119 (sMov (X 7)),
    o 120 (sFieldAddr 1 (X 10)),
    o 121 (sLoad 1 false (X 120)),
    o 122 (sCall E 24 [(X 119), (X 121)]),
    o 12 (sMov (X 122))])
  (.seq (.seq (.reg [o 123 (sMov (X 13))])
  (.ite (X 123)
  (.reg [o 124 (sMov (X 5)),
    o 125 (sMov (X 11)),
    o 126 (sCall E 16 [(X 124), (X 125)])])
  (.skip)))
  (.reg [o 127 (sMov (X 7)),
    o 128 (sMov (X 12)),
    o 129 (sCall E 25 [(X 127), (X 128)])]))))
  (.seq (.reg [o 131 (sBin .eql .none (X 59) (K (.int .i64 3))),
    o 130 (sMov (X 131))])
  (.ite (X 130)
  (.seq (.reg [o 132 (sMov (X 5)),
    o 133 (sFieldAddr 2 (X 10)),
    o 134 (sLoad 1 false (X 133)),
    o 135 (sCall E 16 [(X 132), (X 134)])])
  (.reg [o 136 (sMov (X 7)),
    o 137 (sFieldAddr 2 (X 10)),
    o 138 (sLoad 1 false (X 137)),
    o 139 (sCall E 25 [(X 136), (X 138)])]))
  (.seq (.reg [o 141 (sBin .eql .none (X 59) (K (.int .i64 4))),
    o 140 (sMov (X 141))])
  (.ite (X 140)
  (.seq (.reg [o 142 (sMov (X 5)),
    o 143 (sFieldAddr 2 (X 10)),
    o 144 (sLoad 1 false (X 143)),
    o 145 (sCall E 26 [(X 142), (X 144)])])
  (.reg [o 146 (sMov (X 7)),
    o 147 (sFieldAddr 2 (X 10)),
    o 148 (sLoad 1 false (X 147)),
    o 149 (sCall E 27 [(X 146), (X 148)])]))
  (.seq (.reg [o 151 (sBin .eql .none (X 59) (K (.int .i64 5))),
    o 150 (sMov (X 151))])
  (.ite (X 150)
  (.seq (.reg [o 152 (sMov (X 5)),
    o 153 (sFieldAddr 2 (X 10)),
    o 154 (sLoad 1 false (X 153)),
    o 155 (sFieldAddr 1 (X 10)),
    o 156 (sLoad 1 false (X 155)),
    o 157 (sFieldAddr 3 (X 10)),
    o 158 (sLoad 1 false (X 157)),
    o 159 (sCall E 13 [(X 152), (X 154), (X 156), (X 158)])])
  (.reg [o 160 (sMov (X 7)),
    o 161 (sFieldAddr 2 (X 10)),
    o 162 (sLoad 1 false (X 161)),
    o 163 (sFieldAddr 1 (X 10)),
    o 164 (sLoad 1 false (X 163)),
    o 165 (sFieldAddr 3 (X 10)),
    o 166 (sLoad 1 false (X 165)),
    o 167 (sCall E 21 [(X 160), (X 162), (X 164), (X 166)])]))
  (.seq (.reg [o 169 (sBin .eql .none (X 59) (K (.int .i64 6))),
    o 168 (sMov (X 169))])
  (.ite (X 168)
  (.seq (.reg [o 170 (sMov (X 5)),
    o 171 (sFieldAddr 2 (X 10)),
    o 172 (sLoad 1 false (X 171)),
    o 173 (sCall E 18 [(X 170), (X 172)])])
  (.reg [o 174 (sMov (X 7)),
    o 175 (sFieldAddr 2 (X 10)),
    o 176 (sLoad 1 false (X 175)),
    o 177 (sCall E 23 [(X 174), (X 176)])]))
  (.skip)))))))))))))))))
  (.seq (.seq (.reg [o 178 (sFieldAddr 0 (X 10)),
    o 179 (sLoad 1 false (X 178)),
    o 180 (sBin .geq .none (X 179) (K (.int .i64 0))),
    o 181 (sMov (X 180)),
    og 181 true 182 (sFieldAddr 0 (X 10)),
    og 181 true 183 (sLoad 1 false (X 182)),
    og 181 true 184 (sBin .leq .none (X 183) (K (.int .i64 2))),
    o 185 (sPick (X 181) (X 184) (K (.bool false))),
    o 186 (sMov (X 185)),
    og 186 true 187 (sMov (X 13)),
    og 186 true 188 (sMov (X 12)),
    og 186 true 189 (sBin .geq .none (X 188) (K (.int .i64 0))),
    og 186 true 190 (sBin .neq .bool (X 187) (X 189)),
    og 186 true 191 (sMov (X 190)),
    og 191 false 192 (sMov (X 13)),
    og 191 false 193 (sMov (X 192)),
    og 193 true 194 (sMov (X 11)),
    og 193 true 195 (sMov (X 12)),
    og 193 true 196 (sBin .neq .none (X 194) (X 195)),
    og 191 false 197 (sPick (X 193) (X 196) (K (.bool false))),
    og 186 true 198 (sPick (X 191) (K (.bool true)) (X 197)),
    og 186 true 199 (sMov (X 198)),
    og 199 false 200 (sMov (X 13)),
    og 199 false 201 (sUn .not (X 200)),
    og 199 false 202 (sMov (X 201)),
    og 202 true 203 (sMov (X 11)),
    og 202 true 204 (sBin .neq .none (X 203) (K (.int .i64 0))),
    og 199 false 205 (sPick (X 202) (X 204) (K (.bool false))),
    og 186 true 206 (sPick (X 199) (K (.bool true)) (X 205)),
    o 207 (sPick (X 186) (X 206) (K (.bool false)))])
  (.ite (X 207)
  (.seq (.reg [o 4 (sMov (K (.bool false)))])
  (.ret))
  (.skip)))
  (.seq (.reg [o 208 (sMov (X 5)),
    o 209 (sMov (X 7)),
    o 210 (sCall E 28 [(X 208), (X 209)]),
    o 211 (sUn .not (X 210))])
  (.ite (X 211)
  (.seq (.reg [o 4 (sMov (K (.bool false)))])
  (.ret))
  (.skip))))))))
  (.reg [o 52 (sMov (X 9)),
    o 53 (sBin .add .none (X 52) (K (.int .i64 1))),
    o 9 (sMov (X 53))]))
noncomputable def b6 (E : Env) : CT :=
  .seq (.reg [o 2 (sBox (X 0)),
    o 4 (sMov (K (.bool false)))])
  (.seq (.seq (.reg [o 14 (sMov (X 1)),
    o 15 (sLenSl (X 14)),
    o 16 (sBin .gtr .none (X 15) (K (.int .i64 200)))])
  (.ite (X 16)
  (.seq (.reg [o 17 (sCall E 9 []),
    o 4 (sMov (X 17))])
  (.ret))
  (.skip)))
  (.seq (.reg [o 19 (sIdxAddrA 2 1 (X 2) (K (.int .i64 0))),
    o 20 (sLoad 1 false (X 19)),
    o 21 (sIdxAddrA 2 1 (X 2) (K (.int .i64 1))),
    o 22 (sLoad 1 false (X 21)),
    o 23 (sCall E 8 [(X 20), (X 22)]),
    o 18 (sMov (X 23)),
    o 24 (sExtract (X 18) 0),
    o 25 (sExtract (X 18) 1),
    o 5 (sMov (X 24)),
    o 6 (sMov (X 25))])
  (.seq (.reg [o 27 (sIdxAddrA 2 1 (X 2) (K (.int .i64 0))),
    o 28 (sLoad 1 false (X 27)),
    o 29 (sIdxAddrA 2 1 (X 2) (K (.int .i64 1))),
    o 30 (sLoad 1 false (X 29)),
    o 31 (sCall E 19 [(X 28), (X 30)]),
    o 26 (sMov (X 31)),
    o 32 (sExtract (X 26) 0),
    o 33 (sExtract (X 26) 1),
    o 7 (sMov (X 32)),
    o 8 (sMov (X 33))])
  (.seq (.seq (.reg [o 34 (sMov (X 6)),
    o 35 (sMov (X 8)),
    o 36 (sBin .neq .none (X 34) (X 35)),
    o 37 (sMov (X 36)),
    og 37 false 38 (sMov (X 5)),
    og 37 false 39 (sBin .eql .ptr (X 38) (K (.nilPtr))),
    og 37 false 40 (sMov (X 7)),
    og 37 false 41 (sBin .eql .ptr (X 40) (K (.nilPtr))),
    og 37 false 42 (sBin .neq .bool (X 39) (X 41)),
    o 43 (sPick (X 37) (K (.bool true)) (X 42))])
  (.ite (X 43)
  (.seq (.reg [o 4 (sMov (K (.bool false)))])
  (.ret))
  (.skip)))
  (.seq (.seq (.reg [o 9 (sMov (K (.int .i64 0)))])
  (.block 0 (.loop (l6x0 E))))
  (.seq (.reg [o 212 (sCall E 9 []),
    o 4 (sMov (X 212))])
  (.ret)))))))
theorem c6 (args : T) (h : AHeap) : (envL prog).call 6 args h = trim h (fin [.tmp 4] (runC (envL prog) (b6 (envL prog)) (args ++ List.replicate (213 - args.length) .undef) h)) :=
  call_tr (fn := Go.Proofs.Try.f6) tab6 (by kernel_rfl) (by rfl) (by kernel_rfl) (fun t h => by kernel_rfl) rfl args h
theorem d6 (E : Env) (args : T) (h : AHeap) : callBody prog E 6 args h = trim h (fin [.tmp 4] (runC E (b6 E) (args ++ List.replicate (213 - args.length) .undef) h)) :=
  body_tr (fn := Go.Proofs.Try.f6) tab6 (by kernel_rfl) (by rfl) (by kernel_rfl) (fun t h => by kernel_rfl) rfl args h
/-! f8: revetment/ways.New -/
def tab8 : Nat → Cert := fun i => bif Nat.beq i 3 then ⟨11, 32, 1328092231302839387372901108281245696, 1328253885226989390617683824847355904, 4586997232514139782281033068568364773352818341910645141523081168815893408816814880495058016457788477145089, 14951909267360714145467879259324697201244454219187637599212067456586007931067357421460076766429207⟩ else ⟨0, 0, 0, 0, 0, 0⟩
noncomputable def l8x0 (E : Env) : CT :=
  .seq (.reg [o 38 (sBin .lss .none (X 37) (X 36))])
  (.seq (.ite (X 38)
  (.skip)
  (.exit 0))
  (.seq (.block 1 (.seq (.reg [o 39 (sMov (X 37)),
    o 7 (sMov (X 39))])
  (.reg [o 40 (sMov (X 6)),
    o 41 (sNil (X 40)),
    o 42 (sFieldAddr 2 (X 41)),
    o 43 (sLoad 1 false (X 42)),
    o 44 (sMov (X 7)),
    o 45 (sIdxAddrS 3 (X 43) (X 44)),
    o 46 (sFieldAddr 0 (X 45)),
    u (sStore 1 (X 46) (K (.int .i64 (-1))))])))
  (.reg [o 47 (sBin .add .none (X 37) (K (.int .i64 1))),
    o 37 (sMov (X 47))])))
noncomputable def b8 (E : Env) : CT :=
  .seq (.reg [o 4 (sMov (K (.nilPtr))),
    o 5 (sMov (K (.int .i64 0)))])
  (.seq (.seq (.reg [o 8 (sMov (X 0)),
    o 9 (sBin .lss .none (X 8) (K (.int .i64 1))),
    o 10 (sMov (X 9)),
    og 10 false 11 (sMov (X 0)),
    og 10 false 12 (sBin .gtr .none (X 11) (K (.int .i64 8))),
    o 13 (sPick (X 10) (K (.bool true)) (X 12)),
    o 14 (sMov (X 13)),
    og 14 false 15 (sMov (X 1)),
    og 14 false 16 (sBin .lss .none (X 15) (K (.int .i64 1))),
    o 17 (sPick (X 14) (K (.bool true)) (X 16)),
    o 18 (sMov (X 17)),
    og 18 false 19 (sMov (X 1)),
    og 18 false 20 (sBin .gtr .none (X 19) (K (.int .i64 4))),
    o 21 (sPick (X 18) (K (.bool true)) (X 20))])
  (.ite (X 21)
  (.seq (.reg [o 4 (sMov (K (.nilPtr))),
    o 5 (sMov (K (.int .i64 1)))])
  (.ret))
  (.skip)))
  (.seq (.drw [.op (o 22 (sMov (X 0))),
    .op (o 23 (sMov (X 1))),
    .op (o 24 (sMov (X 0))),
    .op (o 25 (sMov (X 1))),
    .op (o 26 (sBin .mul .none (X 24) (X 25))),
    .op (o 27 (sMake (ty 3 true 16 [.int .i64 0, .bool false, .bool false]) (X 26) (X 26))),
    .op (o 28 (sMov (X 0))),
    .op (o 29 (sMake (ty 1 false 8 [.int .i64 0]) (X 28) (X 28))),
    .op (o 30 (sBuild [.int .i64 0, .int .i64 0, .nilSl, .nilSl] [(0, 1, (X 22)), (1, 1, (X 23)), (2, 1, (X 27)), (3, 1, (X 29))])),
    .op (o 31 (sBox (X 30))),
    .op (o 6 (sMov (X 31)))])
  (.seq (.seq (.reg [o 32 (sMov (X 6)),
    o 33 (sNil (X 32)),
    o 34 (sFieldAddr 2 (X 33)),
    o 35 (sLoad 1 false (X 34)),
    o 36 (sLenSl (X 35)),
    o 37 (sMov (K (.int .i64 0)))])
  (.block 0 (.loop (l8x0 E))))
  (.seq (.reg [o 48 (sMov (X 6)),
    o 4 (sMov (X 48)),
    o 5 (sMov (K (.int .i64 0)))])
  (.ret)))))
theorem c8 (args : T) (h : AHeap) : (envL prog).call 8 args h = trim h (fin [.tmp 4, .tmp 5] (runC (envL prog) (b8 (envL prog)) (args ++ List.replicate (49 - args.length) .undef) h)) :=
  call_tr (fn := Go.Proofs.Try.f8) tab8 (by kernel_rfl) (by rfl) (by kernel_rfl) (fun t h => by kernel_rfl) rfl args h
/-! f10: revetment/revetmentkeep.Mod -/
def tab10 : Nat → Cert := fun i => ⟨0, 0, 0, 0, 0, 0⟩
noncomputable def b10 (E : Env) : CT :=
  .seq (.reg [o 4 (sMov (K (.int .i64 0)))])
  (.seq (.seq (.reg [o 5 (sMov (X 1)),
    o 6 (sBin .lss .none (X 5) (K (.int .i64 1)))])
  (.ite (X 6)
  (.seq (.reg [o 4 (sMov (K (.int .i64 0)))])
  (.ret))
  (.skip)))
  (.seq (.reg [o 7 (sMov (X 0)),
    o 8 (sMov (X 1)),
    o 9 (sBin .rem .none (X 7) (X 8)),
    o 10 (sMov (X 1)),
    o 11 (sBin .add .none (X 9) (X 10)),
    o 12 (sMov (X 1)),
    o 13 (sBin .rem .none (X 11) (X 12)),
    o 4 (sMov (X 13))])
  (.ret)))
theorem c10 (args : T) (h : AHeap) : (envL prog).call 10 args h = trim h (fin [.tmp 4] (runC (envL prog) (b10 (envL prog)) (args ++ List.replicate (14 - args.length) .undef) h)) :=
  call_tr (fn := Go.Proofs.Try.f10) tab10 (by kernel_rfl) (by rfl) (by kernel_rfl) (fun t h => by kernel_rfl) rfl args h
/-! f11: (*revetment/ways.Map).Dirty -/
def tab11 : Nat → Cert := fun i => ⟨0, 0, 0, 0, 0, 0⟩
noncomputable def l11x0 (E : Env) : CT :=
  .seq (.reg [o 14 (sBin .lss .none (X 13) (X 12))])
  (.seq (.ite (X 14)
  (.skip)
  (.exit 0))
  (.seq (.block 1 (.seq (.reg [o 15 (sIdxAddrS 3 (X 11) (X 13)),
    o 16 (sLoad 3 true (X 15)),
    o 5 (sAlloc [.int .i64 0, .bool false, .bool false]),
    u (sStore 3 (X 5) (X 16))])
  (.seq (.reg [o 17 (sFieldAddr 1 (X 5)),
    o 18 (sLoad 1 false (X 17))])
  (.ite (X 18)
  (.reg [o 19 (sMov (X 3)),
    o 20 (sFieldAddr 0 (X 5)),
    o 21 (sLoad 1 false (X 20)),
    o 22 (sBuildSl 1 1 [.int .i64 0] [(0, 1, (X 21))]),
    o 23 (sApp (ty 1 false 8 [.int .i64 0]) (X 19) (X 22)),
    o 3 (sMov (X 23))])
  (.reg [o 24 (sMov (X 3)),
    o 25 (sBuildSl 1 1 [.int .i64 0] [(0, 1, (K (.int .i64 (-1))))]),
    o 26 (sApp (ty 1 false 8 [.int .i64 0]) (X 24) (X 25)),
    o 3 (sMov (X 26))])))))
  (.reg [o 27 (sBin .add .none (X 13) (K (.int .i64 1))),
    o 13 (sMov (X 27))])))
noncomputable def b11 (E : Env) : CT :=
  .seq (.reg [o 2 (sMov (K (.nilSl)))])
  (.seq (.seq (.reg [o 6 (sMov (X 0)),
    o 7 (sBin .eql .ptr (X 6) (K (.nilPtr)))])
  (.ite (X 7)
  (.seq (.reg [o 2 (sMov (K (.nilSl)))])
  (.ret))
  (.skip)))
  (.seq (.reg [o 3 (sMov (K (.nilSl)))])
  (.seq (.seq (.reg [o 8 (sMov (X 0)),
    o 9 (sNil (X 8)),
    o 10 (sFieldAddr 2 (X 9)),
    o 11 (sLoad 1 false (X 10)),
    o 12 (sLenSl (X 11)),
    o 13 (sMov (K (.int .i64 0)))])
  (.block 0 (.loop (l11x0 E))))
  (.seq (.reg [o 28 (sMov (X 3)),
    o 2 (sMov (X 28))])
  (.ret)))))
theorem c11 (args : T) (h : AHeap) : (envL prog).call 11 args h = trim h (fin [.tmp 2] (runC (envL prog) (b11 (envL prog)) (args ++ List.replicate (29 - args.length) .undef) h)) :=
  call_tr (fn := Go.Proofs.Try.f11) tab11 (by kernel_rfl) (by rfl) (by kernel_rfl) (fun t h => by kernel_rfl) rfl args h
/-! f12: (*revetment/ways.Map).Find -/
def tab12 : Nat → Cert := fun i => ⟨0, 0, 0, 0, 0, 0⟩
noncomputable def l12x0 (E : Env) : CT :=
  .seq (.reg [o 23 (sBin .lss .none (X 22) (X 21))])
  (.seq (.ite (X 23)
  (.skip)
  (.exit 0))
  (.seq (.block 1 (.seq (.reg [o 24 (sMov (X 22)),
    o 8 (sMov (X 24))])
  (.seq (.reg [o 25 (sMov (X 6)),
    o 26 (sMov (X 0)),
    o 27 (sNil (X 26)),
    o 28 (sFieldAddr 1 (X 27)),
    o 29 (sLoad 1 false (X 28)),
    o 30 (sBin .mul .none (X 25) (X 29)),
    o 31 (sMov (X 8)),
    o 32 (sBin .add .none (X 30) (X 31)),
    o 9 (sMov (X 32))])
  (.seq (.reg [o 33 (sMov (X 0)),
    o 34 (sNil (X 33)),
    o 35 (sFieldAddr 2 (X 34)),
    o 36 (sLoad 1 false (X 35)),
    o 37 (sMov (X 9)),
    o 38 (sIdxAddrS 3 (X 36) (X 37)),
    o 39 (sFieldAddr 0 (X 38)),
    o 40 (sLoad 1 false (X 39)),
    o 41 (sMov (X 1)),
    o 42 (sBin .eql .none (X 40) (X 41))])
  (.ite (X 42)
  (.seq (.reg [o 43 (sMov (X 9)),
    o 4 (sMov (X 43)),
    o 5 (sMov (K (.bool true)))])
  (.ret))
  (.skip))))))
  (.reg [o 44 (sBin .add .none (X 22) (K (.int .i64 1))),
    o 22 (sMov (X 44))])))
noncomputable def b12 (E : Env) : CT :=
  .seq (.reg [o 4 (sMov (K (.int .i64 0))),
    o 5 (sMov (K (.bool false)))])
  (.seq (.reg [o 11 (sMov (X 0)),
    o 12 (sMov (X 1)),
    o 13 (sCall E 30 [(X 11), (X 12)]),
    o 10 (sMov (X 13)),
    o 14 (sExtract (X 10) 0),
    o 15 (sExtract (X 10) 1),
    o 6 (sMov (X 14)),
    o 7 (sMov (X 15))])
  (.seq (.seq (.reg [o 16 (sMov (X 7)),
    o 17 (sUn .not (X 16))])
  (.ite (X 17)
  (.seq (.reg [o 4 (sMov (K (.int .i64 0))),
    o 5 (sMov (K (.bool false)))])
  (.ret))
  (.skip)))
  (.seq (.seq (.reg [o 18 (sMov (X 0)),
    o 19 (sNil (X 18)),
    o 20 (sFieldAddr 1 (X 19)),
    o 21 (sLoad 1 false (X 20)),
    o 22 (sMov (K (.int .i64 0)))])
  (.block 0 (.loop (l12x0 E))))
  (.seq (.reg [o 4 (sMov (K (.int .i64 0))),
    o 5 (sMov (K (.bool false)))])
  (.ret)))))
theorem c12 (args : T) (h : AHeap) : (envL prog).call 12 args h = trim h (fin [.tmp 4, .tmp 5] (runC (envL prog) (b12 (envL prog)) (args ++ List.replicate (45 - args.length) .undef) h)) :=
  call_tr (fn := Go.Proofs.Try.f12) tab12 (by kernel_rfl) (by rfl) (by kernel_rfl) (fun t h => by kernel_rfl) rfl args h
/-! f13: (*revetment/ways.Map).Put -/
def tab13 : Nat → Cert := fun i => ⟨0, 0, 0, 0, 0, 0⟩
noncomputable def b13 (E : Env) : CT :=
  .seq (.reg [o 13 (sMov (X 0)),
    o 14 (sMov (X 1)),
    o 15 (sCall E 31 [(X 13), (X 14)]),
    o 8 (sMov (X 15))])
  (.seq (.reg [o 17 (sMov (X 0)),
    o 18 (sMov (X 2)),
    o 19 (sCall E 30 [(X 17), (X 18)]),
    o 16 (sMov (X 19)),
    o 20 (sExtract (X 16) 0),
    o 21 (sExtract (X 16) 1),
    o 9 (sMov (X 20)),
    o 10 (sMov (X 21))])
  (.seq (.seq (.reg [o 22 (sMov (X 8)),
    o 23 (sBin .eql .ptr (X 22) (K (.nilPtr))),
    o 24 (sMov (X 23)),
    og 24 false 25 (sMov (X 10)),
    og 24 false 26 (sUn .not (X 25)),
    o 27 (sPick (X 24) (K (.bool true)) (X 26)),
    o 28 (sMov (X 27)),
    og 28 false 29 (sMov (X 1)),
    og 28 false 30 (sMov (X 0)),
    og 28 false 31 (sNil (X 30)),
    og 28 false 32 (sFieldAddr 1 (X 31)),
    og 28 false 33 (sLoad 1 false (X 32)),
    og 28 false 34 (sBin .quo .none (X 29) (X 33)),
    og 28 false 35 (sMov (X 9)),
    og 28 false 36 (sBin .neq .none (X 34) (X 35)),
    o 37 (sPick (X 28) (K (.bool true)) (X 36))])
  (.ite (X 37)
  (.ret)
  (.skip)))
  (.seq (.seq (.reg [o 39 (sMov (X 0)),
    o 40 (sMov (X 2)),
    o 41 (sCall E 12 [(X 39), (X 40)]),
    o 38 (sMov (X 41)),
    o 42 (sExtract (X 38) 0),
    o 43 (sExtract (X 38) 1),
    o 11 (sMov (X 42)),
    o 12 (sMov (X 43))])
  (.seq (.reg [o 44 (sMov (X 12)),
    o 45 (sMov (X 44)),
    og 45 true 46 (sMov (X 11)),
    og 45 true 47 (sMov (X 1)),
    og 45 true 48 (sBin .neq .none (X 46) (X 47)),
    o 49 (sPick (X 45) (X 48) (K (.bool false)))])
  (.ite (X 49)
  (.ret)
  (.skip))))
  (.reg [o 50 (sMov (X 8)),
    o 51 (sMov (X 2)),
    o 52 (sMov (X 3)),
    o 53 (sBuild [.int .i64 0, .bool false, .bool false] [(0, 1, (X 51)), (1, 1, (X 52)), (2, 1, (K (.bool true)))]),
    o 54 (sNil (X 50)),
    u (sStore 3 (X 54) (X 53))]))))
theorem c13 (args : T) (h : AHeap) : (envL prog).call 13 args h = trim h (fin [] (runC (envL prog) (b13 (envL prog)) (args ++ List.replicate (55 - args.length) .undef) h)) :=
  call_tr (fn := Go.Proofs.Try.f13) tab13 (by kernel_rfl) (by rfl) (by kernel_rfl) (fun t h => by kernel_rfl) rfl args h
/-! f14: (*revetment/ways.Map).Room -/
def tab14 : Nat → Cert := fun i => ⟨0, 0, 0, 0, 0, 0⟩
noncomputable def l14x0 (E : Env) : CT :=
  .seq (.reg [o 25 (sBin .lss .none (X 24) (X 23))])
  (.seq (.ite (X 25)
  (.skip)
  (.exit 0))
  (.seq (.block 1 (.seq (.reg [o 26 (sMov (X 24)),
    o 8 (sMov (X 26))])
  (.seq (.reg [o 27 (sMov (X 6)),
    o 28 (sMov (X 0)),
    o 29 (sNil (X 28)),
    o 30 (sFieldAddr 1 (X 29)),
    o 31 (sLoad 1 false (X 30)),
    o 32 (sBin .mul .none (X 27) (X 31)),
    o 33 (sMov (X 8)),
    o 34 (sBin .add .none (X 32) (X 33)),
    o 9 (sMov (X 34))])
  (.seq (.reg [o 35 (sMov (X 0)),
    o 36 (sNil (X 35)),
    o 37 (sFieldAddr 2 (X 36)),
    o 38 (sLoad 1 false (X 37)),
    o 39 (sMov (X 9)),
    o 40 (sIdxAddrS 3 (X 38) (X 39)),
    o 41 (sFieldAddr 0 (X 40)),
    o 42 (sLoad 1 false (X 41)),
    o 43 (sBin .eql .none (X 42) (K (.int .i64 (-1))))])
  (.ite (X 43)
  (.seq (.reg [o 44 (sMov (X 9)),
    o 4 (sMov (X 44)),
    o 5 (sMov (K (.bool true)))])
  (.ret))
  (.skip))))))
  (.reg [o 45 (sBin .add .none (X 24) (K (.int .i64 1))),
    o 24 (sMov (X 45))])))
noncomputable def l14x1 (E : Env) : CT :=
  .seq (.reg [o 52 (sBin .lss .none (X 51) (X 50))])
  (.seq (.ite (X 52)
  (.skip)
  (.exit 2))
  (.seq (.block 3 (.seq (.reg [o 53 (sMov (X 0)),
    o 54 (sMov (X 6)),
    o 55 (sCall E 32 [(X 53), (X 54)]),
    o 10 (sMov (X 55))])
  (.seq (.reg [o 56 (sMov (X 0)),
    o 57 (sNil (X 56)),
    o 58 (sFieldAddr 2 (X 57)),
    o 59 (sLoad 1 false (X 58)),
    o 60 (sMov (X 10)),
    o 61 (sIdxAddrS 3 (X 59) (X 60)),
    o 11 (sMov (X 61))])
  (.block 4 (.seq (.reg [o 67 (sMov (X 11)),
    o 68 (sNil (X 67)),
    o 69 (sFieldAddr 1 (X 68)),
    o 70 (sLoad 1 false (X 69)),
    o 66 (sMov (X 70))])
  (.ite (X 66)
  (.exit 3)
  (.seq (.reg [o 72 (sMov (X 11)),
    o 73 (sNil (X 72)),
    o 74 (sFieldAddr 2 (X 73)),
    o 75 (sLoad 1 false (X 74)),
    o 71 (sMov (X 75))])
  (.ite (X 71)
  (.reg [o 76 (sMov (X 11)),
    o 77 (sNil (X 76)),
    o 78 (sFieldAddr 2 (X 77)),
    u (sStore 1 (X 78) (K (.bool false)))])
  (.seq (.reg [o 62 (sMov (X 11)),
    o 63 (sBuild [.int .i64 0, .bool false, .bool false] [(0, 1, (K (.int .i64 (-1))))]),
    o 64 (sNil (X 62)),
    u (sStore 3 (X 64) (X 63))])
  (.seq (.reg [o 65 (sMov (X 10)),
    o 4 (sMov (X 65)),
    o 5 (sMov (K (.bool true)))])
  (.ret)))))))))))
  (.reg [o 79 (sBin .add .none (X 51) (K (.int .i64 1))),
    o 51 (sMov (X 79))])))
noncomputable def b14 (E : Env) : CT :=
  .seq (.reg [o 4 (sMov (K (.int .i64 0))),
    o 5 (sMov (K (.bool false)))])
  (.seq (.reg [o 13 (sMov (X 0)),
    o 14 (sMov (X 1)),
    o 15 (sCall E 30 [(X 13), (X 14)]),
    o 12 (sMov (X 15)),
    o 16 (sExtract (X 12) 0),
    o 17 (sExtract (X 12) 1),
    o 6 (sMov (X 16)),
    o 7 (sMov (X 17))])
  (.seq (.seq (.reg [o 18 (sMov (X 7)),
    o 19 (sUn .not (X 18))])
  (.ite (X 19)
  (.seq (.reg [o 4 (sMov (K (.int .i64 0))),
    o 5 (sMov (K (.bool false)))])
  (.ret))
  (.skip)))
  (.seq (.seq (.reg [o 20 (sMov (X 0)),
    o 21 (sNil (X 20)),
    o 22 (sFieldAddr 1 (X 21)),
    o 23 (sLoad 1 false (X 22)),
    o 24 (sMov (K (.int .i64 0)))])
  (.block 0 (.loop (l14x0 E))))
  (.seq (.skip)
  (.seq (.seq (.reg [o 46 (sMov (X 0)),
    o 47 (sNil (X 46)),
    o 48 (sFieldAddr 1 (X 47)),
    o 49 (sLoad 1 false (X 48)),
    o 50 (sBin .mul .none (K (.int .i64 2)) (X 49)),
    o 51 (sMov (K (.int .i64 0)))])
  (.block 2 (.loop (l14x1 E))))
  (.seq (.reg [o 4 (sMov (K (.int .i64 0))),
    o 5 (sMov (K (.bool false)))])
  (.ret)))))))
theorem c14 (args : T) (h : AHeap) : (envL prog).call 14 args h = trim h (fin [.tmp 4, .tmp 5] (runC (envL prog) (b14 (envL prog)) (args ++ List.replicate (80 - args.length) .undef) h)) :=
  call_tr (fn := Go.Proofs.Try.f14) tab14 (by kernel_rfl) (by rfl) (by kernel_rfl) (fun t h => by kernel_rfl) rfl args h
/-! f15: (*revetment/ways.Map).Dirtiest -/
def tab15 : Nat → Cert := fun i => ⟨0, 0, 0, 0, 0, 0⟩
noncomputable def l15x0 (E : Env) : CT :=
  .seq (.reg [o 30 (sBin .lss .none (X 29) (X 28))])
  (.seq (.ite (X 30)
  (.skip)
  (.exit 0))
  (.seq (.block 1 (.seq (.reg [o 31 (sMov (X 0)),
    o 32 (sMov (X 6)),
    o 33 (sCall E 32 [(X 31), (X 32)]),
    o 9 (sMov (X 33))])
  (.seq (.reg [o 34 (sMov (X 0)),
    o 35 (sNil (X 34)),
    o 36 (sFieldAddr 2 (X 35)),
    o 37 (sLoad 1 false (X 36)),
    o 38 (sMov (X 9)),
    o 39 (sIdxAddrS 3 (X 37) (X 38)),
    o 40 (sFieldAddr 1 (X 39)),
    o 41 (sLoad 1 false (X 40))])
  (.ite (X 41)
  (.seq (.reg [o 42 (sMov (X 9)),
    o 4 (sMov (X 42)),
    o 5 (sMov (K (.bool true)))])
  (.ret))
  (.skip)))))
  (.reg [o 43 (sBin .add .none (X 29) (K (.int .i64 1))),
    o 29 (sMov (X 43))])))
noncomputable def b15 (E : Env) : CT :=
  .seq (.reg [o 4 (sMov (K (.int .i64 0))),
    o 5 (sMov (K (.bool false)))])
  (.seq (.reg [o 11 (sMov (X 0)),
    o 12 (sMov (X 1)),
    o 13 (sCall E 30 [(X 11), (X 12)]),
    o 10 (sMov (X 13)),
    o 14 (sExtract (X 10) 0),
    o 15 (sExtract (X 10) 1),
    o 6 (sMov (X 14)),
    o 7 (sMov (X 15))])
  (.seq (.seq (.reg [o 16 (sMov (X 7)),
    o 17 (sUn .not (X 16))])
  (.ite (X 17)
  (.seq (.reg [o 4 (sMov (K (.int .i64 0))),
    o 5 (sMov (K (.bool false)))])
  (.ret))
  (.skip)))
  (.seq (.reg [o 18 (sMov (X 0)),
    o 19 (sNil (X 18)),
    o 20 (sFieldAddr 3 (X 19)),
    o 21 (sLoad 1 false (X 20)),
    o 22 (sMov (X 6)),
    o 23 (sIdxAddrS 1 (X 21) (X 22)),
    o 24 (sLoad 1 false (X 23)),
    o 8 (sMov (X 24))])
  (.seq (.seq (.reg [o 25 (sMov (X 0)),
    o 26 (sNil (X 25)),
    o 27 (sFieldAddr 1 (X 26)),
    o 28 (sLoad 1 false (X 27)),
    o 29 (sMov (K (.int .i64 0)))])
  (.block 0 (.loop (l15x0 E))))
  (.seq (.reg [o 44 (sMov (X 0)),
    o 45 (sNil (X 44)),
    o 46 (sFieldAddr 3 (X 45)),
    o 47 (sLoad 1 false (X 46)),
    o 48 (sMov (X 6)),
    o 49 (sMov (X 8)),
    o 50 (sIdxAddrS 1 (X 47) (X 48)),
    u (sStore 1 (X 50) (X 49))])
  (.seq (.reg [o 4 (sMov (K (.int .i64 0))),
    o 5 (sMov (K (.bool false)))])
  (.ret)))))))
theorem c15 (args : T) (h : AHeap) : (envL prog).call 15 args h = trim h (fin [.tmp 4, .tmp 5] (runC (envL prog) (b15 (envL prog)) (args ++ List.replicate (51 - args.length) .undef) h)) :=
  call_tr (fn := Go.Proofs.Try.f15) tab15 (by kernel_rfl) (by rfl) (by kernel_rfl) (fun t h => by kernel_rfl) rfl args h
/-! f16: (*revetment/ways.Map).Clean -/
def tab16 : Nat → Cert := fun i => ⟨0, 0, 0, 0, 0, 0⟩
noncomputable def b16 (E : Env) : CT :=
  .seq (.reg [o 5 (sMov (X 0)),
    o 6 (sMov (X 1)),
    o 7 (sCall E 31 [(X 5), (X 6)]),
    o 4 (sMov (X 7))])
  (.seq (.reg [o 8 (sMov (X 4)),
    o 9 (sBin .neq .ptr (X 8) (K (.nilPtr)))])
  (.ite (X 9)
  (.reg [o 10 (sMov (X 4)),
    o 11 (sNil (X 10)),
    o 12 (sFieldAddr 1 (X 11)),
    u (sStore 1 (X 12) (K (.bool false)))])
  (.skip)))
theorem c16 (args : T) (h : AHeap) : (envL prog).call 16 args h = trim h (fin [] (runC (envL prog) (b16 (envL prog)) (args ++ List.replicate (13 - args.length) .undef) h)) :=
  call_tr (fn := Go.Proofs.Try.f16) tab16 (by kernel_rfl) (by rfl) (by kernel_rfl) (fun t h => by kernel_rfl) rfl args h
/-! f17: (*revetment/ways.Map).Block -/
def tab17 : Nat → Cert := fun i => bif Nat.beq i 6 then ⟨11, 30, 1328253810950589394245552129630537728, 1328253810957844129754860647864076288, 1018517988226528593265440502661841577006938507413061358052767317917076428367336438071558272, 14259251845724228153098486467041427649649374342706786706930144162045821284447689924258299927⟩ else ⟨0, 0, 0, 0, 0, 0⟩
noncomputable def b17 (E : Env) : CT :=
  .seq (.reg [o 4 (sMov (K (.int .i64 0))),
    o 5 (sMov (K (.bool false))),
    o 6 (sMov (K (.bool false)))])
  (.seq (.seq (.reg [o 8 (sMov (X 0)),
    o 9 (sBin .eql .ptr (X 8) (K (.nilPtr)))])
  (.ite (X 9)
  (.seq (.reg [o 4 (sMov (K (.int .i64 0))),
    o 5 (sMov (K (.bool false))),
    o 6 (sMov (K (.bool false)))])
  (.ret))
  (.skip)))
  (.seq (.reg [o 10 (sMov (X 0)),
    o 11 (sMov (X 1)),
    o 12 (sCall E 31 [(X 10), (X 11)]),
    o 7 (sMov (X 12))])
  (.seq (.seq (.reg [o 13 (sMov (X 7)),
    o 14 (sBin .eql .ptr (X 13) (K (.nilPtr))),
    o 15 (sMov (X 14)),
    og 15 false 16 (sMov (X 7)),
    og 15 false 17 (sNil (X 16)),
    og 15 false 18 (sFieldAddr 0 (X 17)),
    og 15 false 19 (sLoad 1 false (X 18)),
    og 15 false 20 (sBin .eql .none (X 19) (K (.int .i64 (-1)))),
    o 21 (sPick (X 15) (K (.bool true)) (X 20))])
  (.ite (X 21)
  (.seq (.reg [o 4 (sMov (K (.int .i64 (-1)))),
    o 5 (sMov (K (.bool false))),
    o 6 (sMov (K (.bool false)))])
  (.ret))
  (.skip)))
  (.seq (.drw [.op (o 22 (sMov (X 7))),
    .op (o 23 (sNil (X 22))),
    .op (o 24 (sFieldAddr 0 (X 23))),
    .op (o 25 (sLoad 1 false (X 24))),
    .op (o 26 (sMov (X 7))),
    .op (o 27 (sNil (X 26))),
    .op (o 28 (sFieldAddr 1 (X 27))),
    .op (o 29 (sLoad 1 false (X 28))),
    .op (o 4 (sMov (X 25))),
    .op (o 5 (sMov (X 29))),
    .op (o 6 (sMov (K (.bool true))))])
  (.ret)))))
theorem c17 (args : T) (h : AHeap) : (envL prog).call 17 args h = trim h (fin [.tmp 4, .tmp 5, .tmp 6] (runC (envL prog) (b17 (envL prog)) (args ++ List.replicate (30 - args.length) .undef) h)) :=
  call_tr (fn := Go.Proofs.Try.f17) tab17 (by kernel_rfl) (by rfl) (by kernel_rfl) (fun t h => by kernel_rfl) rfl args h
/-! f18: (*revetment/ways.Map).Touch -/
def tab18 : Nat → Cert := fun i => ⟨0, 0, 0, 0, 0, 0⟩
noncomputable def b18 (E : Env) : CT :=
  .seq (.reg [o 5 (sMov (X 0)),
    o 6 (sMov (X 1)),
    o 7 (sCall E 31 [(X 5), (X 6)]),
    o 4 (sMov (X 7))])
  (.seq (.reg [o 8 (sMov (X 4)),
    o 9 (sBin .neq .ptr (X 8) (K (.nilPtr))),
    o 10 (sMov (X 9)),
    og 10 true 11 (sMov (X 4)),
    og 10 true 12 (sNil (X 11)),
    og 10 true 13 (sFieldAddr 0 (X 12)),
    og 10 true 14 (sLoad 1 false (X 13)),
    og 10 true 15 (sBin .neq .none (X 14) (K (.int .i64 (-1)))),
    o 16 (sPick (X 10) (X 15) (K (.bool false)))])
  (.ite (X 16)
  (.reg [o 17 (sMov (X 4)),
    o 18 (sNil (X 17)),
    o 19 (sFieldAddr 2 (X 18)),
    u (sStore 1 (X 19) (K (.bool true)))])
  (.skip)))
theorem c18 (args : T) (h : AHeap) : (envL prog).call 18 args h = trim h (fin [] (runC (envL prog) (b18 (envL prog)) (args ++ List.replicate (20 - args.length) .undef) h)) :=
  call_tr (fn := Go.Proofs.Try.f18) tab18 (by kernel_rfl) (by rfl) (by kernel_rfl) (fun t h => by kernel_rfl) rfl args h
/-! f19: revetment/revetmentref13.New -/
def tab19 : Nat → Cert := fun i => ⟨0, 0, 0, 0, 0, 0⟩
noncomputable def l19x0 (E : Env) : CT :=
  .seq (.seq (.reg [o 28 (sMov (X 7)),
    o 29 (sMov (X 0)),
    o 30 (sMov (X 1)),
    o 31 (sBin .mul .none (X 29) (X 30)),
    o 32 (sBin .lss .none (X 28) (X 31))])
  (.ite (X 32)
  (.skip)
  (.exit 0)))
  (.seq (.block 1 (.reg [o 35 (sMov (X 6)),
    o 36 (sMov (X 6)),
    o 37 (sNil (X 36)),
    o 38 (sFieldAddr 2 (X 37)),
    o 39 (sLoad 1 false (X 38)),
    o 40 (sBuild [.int .i64 0, .bool false, .bool false] [(0, 1, (K (.int .i64 (-1))))]),
    o 41 (sBuildSl 3 1 [.int .i64 0, .bool false, .bool false] [(0, 3, (X 40))]),
    o 42 (sApp (ty 3 true 16 [.int .i64 0, .bool false, .bool false]) (X 39) (X 41)),
    o 43 (sNil (X 35)),
    o 44 (sFieldAddr 2 (X 43)),
    u (sStore 1 (X 44) (X 42))]))
  (.reg [o 33 (sMov (X 7)),
    o 34 (sBin .add .none (X 33) (K (.int .i64 1))),
    o 7 (sMov (X 34))]))
noncomputable def b19 (E : Env) : CT :=
  .seq (.reg [o 4 (sMov (K (.nilPtr))),
    o 5 (sMov (K (.int .i64 0)))])
  (.seq (.seq (.reg [o 8 (sMov (X 0)),
    o 9 (sBin .lss .none (X 8) (K (.int .i64 1))),
    o 10 (sMov (X 9)),
    og 10 false 11 (sMov (X 0)),
    og 10 false 12 (sBin .gtr .none (X 11) (K (.int .i64 8))),
    o 13 (sPick (X 10) (K (.bool true)) (X 12)),
    o 14 (sMov (X 13)),
    og 14 false 15 (sMov (X 1)),
    og 14 false 16 (sBin .lss .none (X 15) (K (.int .i64 1))),
    o 17 (sPick (X 14) (K (.bool true)) (X 16)),
    o 18 (sMov (X 17)),
    og 18 false 19 (sMov (X 1)),
    og 18 false 20 (sBin .gtr .none (X 19) (K (.int .i64 4))),
    o 21 (sPick (X 18) (K (.bool true)) (X 20))])
  (.ite (X 21)
  (.seq (.reg [o 4 (sMov (K (.nilPtr))),
    o 5 (sMov (K (.int .i64 1)))])
  (.ret))
  (.skip)))
  (.seq (.reg [o 22 (sMov (X 0)),
    o 23 (sMov (X 1)),
    o 24 (sMov (X 0)),
    o 25 (sMake (ty 1 false 8 [.int .i64 0]) (X 24) (X 24)),
    o 26 (sBuild [.int .i64 0, .int .i64 0, .nilSl, .nilSl] [(0, 1, (X 22)), (1, 1, (X 23)), (3, 1, (X 25))]),
    o 27 (sBox (X 26)),
    o 6 (sMov (X 27))])
  (.seq (.seq (.reg [o 7 (sMov (K (.int .i64 0)))])
  (.block 0 (.loop (l19x0 E))))
  (.seq (.reg [o 45 (sMov (X 6)),
    o 4 (sMov (X 45)),
    o 5 (sMov (K (.int .i64 0)))])
  (.ret)))))
theorem c19 (args : T) (h : AHeap) : (envL prog).call 19 args h = trim h (fin [.tmp 4, .tmp 5] (runC (envL prog) (b19 (envL prog)) (args ++ List.replicate (46 - args.length) .undef) h)) :=
  call_tr (fn := Go.Proofs.Try.f19) tab19 (by kernel_rfl) (by rfl) (by kernel_rfl) (fun t h => by kernel_rfl) rfl args h
/-! f20: (*revetment/revetmentref13.Map).Room -/
def tab20 : Nat → Cert := fun i => bif Nat.beq i 13 then ⟨15, 67, 26958508460739650701792234651947858637149087838910999808337426513920, 26958712494694949815629187004118986489744165291477474448966592495616, 171441377149802771352333411844942190370676805252055344502468909916059834421474945974286492525462710672180041221298526476795565443481820022519569655475782786715652694797849641678099144549793922474046968277242215284329997077108624650843124234907830240254357598295649451224198287636466852859925458847793184, 23234639194965360357274601597073812376735841785500485694889227126988659726647978462361441178653656709488319551131666816488666918769510681026932349806666045090008156291675495036296916906531267246175911458891015464742645313757804523566854732724167527255123945783982475715529241478037558⟩ else bif Nat.beq i 14 then ⟨20, 86, 1291123092072221254229852058624271030344752213667463466144318085208032758259286063005007483050236865444087159188542717952, 1291123092072358792527473747307423946077367436417589706479390358143247261154148615192405278292641446950245820471985569792, 44325516556201452597927279461019147302738113427455344709539691850839087448572696079016649110276079180932036872088054615041692629281653066457704199134237564289655498419606167001753009567721246454189772210336433176499740832592393503432087194802198691033267638167434640695757250279510653796134582650166702526586903661074256666670518606932757728419444427119544849753032023074689904843575486598083159923305715791007020365807757325102115527697675849509812652573734944204590296222821005907512828890579043856337715010190966785, 849047014257495255522877566019184397169209141851262435090671256811538450869922782702234902961221278046414843139674115308303362735786523969290606186565650570279433758162465303445401065990607666393789632893076818337976966288488315786078203334726255686476380215586997708031741068183879694488466772325581964231173123989416543425228738884082926407196872653711628811351842856433498292026709643273956330143989546464808582866446169802039849818047412937199484169129326976958532⟩ else ⟨0, 0, 0, 0, 0, 0⟩
noncomputable def l20x0 (E : Env) : CT :=
  .seq (.seq (.reg [o 18 (sMov (X 6)),
    o 19 (sMov (X 0)),
    o 20 (sNil (X 19)),
    o 21 (sFieldAddr 1 (X 20)),
    o 22 (sLoad 1 false (X 21)),
    o 23 (sBin .lss .none (X 18) (X 22))])
  (.ite (X 23)
  (.skip)
  (.exit 0)))
  (.seq (.block 1 (.seq (.reg [o 26 (sMov (X 5)),
    o 27 (sMov (X 0)),
    o 28 (sNil (X 27)),
    o 29 (sFieldAddr 1 (X 28)),
    o 30 (sLoad 1 false (X 29)),
    o 31 (sBin .mul .none (X 26) (X 30)),
    o 32 (sMov (X 6)),
    o 33 (sBin .add .none (X 31) (X 32)),
    o 7 (sMov (X 33))])
  (.seq (.reg [o 34 (sMov (X 0)),
    o 35 (sNil (X 34)),
    o 36 (sFieldAddr 2 (X 35)),
    o 37 (sLoad 1 false (X 36)),
    o 38 (sMov (X 7)),
    o 39 (sIdxAddrS 3 (X 37) (X 38)),
    o 40 (sFieldAddr 0 (X 39)),
    o 41 (sLoad 1 false (X 40)),
    o 42 (sBin .lss .none (X 41) (K (.int .i64 0)))])
  (.ite (X 42)
  (.seq (.reg [o 43 (sMov (X 7)),
    o 4 (sMov (X 43))])
  (.ret))
  (.skip)))))
  (.reg [o 24 (sMov (X 6)),
    o 25 (sBin .add .none (X 24) (K (.int .i64 1))),
    o 6 (sMov (X 25))]))
noncomputable def l20x1 (E : Env) : CT :=
  .seq (.seq (.reg [o 44 (sMov (X 8)),
    o 45 (sMov (X 0)),
    o 46 (sNil (X 45)),
    o 47 (sFieldAddr 1 (X 46)),
    o 48 (sLoad 1 false (X 47)),
    o 49 (sBin .mul .none (K (.int .i64 2)) (X 48)),
    o 50 (sBin .lss .none (X 44) (X 49))])
  (.ite (X 50)
  (.skip)
  (.exit 2)))
  (.seq (.block 3 (.seq (.drw [.op (o 53 (sMov (X 5))),
    .op (o 54 (sMov (X 0))),
    .op (o 55 (sNil (X 54))),
    .op (o 56 (sFieldAddr 1 (X 55))),
    .op (o 57 (sLoad 1 false (X 56))),
    .op (o 58 (sBin .mul .none (X 53) (X 57))),
    .op (o 59 (sMov (X 0))),
    .op (o 60 (sNil (X 59))),
    .op (o 61 (sFieldAddr 3 (X 60))),
    .op (o 62 (sLoad 1 false (X 61))),
    .op (o 63 (sMov (X 5))),
    .op (o 64 (sIdxAddrS 1 (X 62) (X 63))),
    .op (o 65 (sLoad 1 false (X 64))),
    .op (o 66 (sBin .add .none (X 58) (X 65))),
    .op (o 9 (sMov (X 66)))])
  (.seq (.drw [.op (o 67 (sMov (X 0))),
    .op (o 68 (sNil (X 67))),
    .op (o 69 (sFieldAddr 3 (X 68))),
    .op (o 70 (sLoad 1 false (X 69))),
    .op (o 71 (sMov (X 5))),
    .op (o 72 (sMov (X 0))),
    .op (o 73 (sNil (X 72))),
    .op (o 74 (sFieldAddr 3 (X 73))),
    .op (o 75 (sLoad 1 false (X 74))),
    .op (o 76 (sMov (X 5))),
    .op (o 77 (sIdxAddrS 1 (X 75) (X 76))),
    .op (o 78 (sLoad 1 false (X 77))),
    .op (o 79 (sBin .add .none (X 78) (K (.int .i64 1)))),
    .op (o 80 (sMov (X 0))),
    .op (o 81 (sNil (X 80))),
    .op (o 82 (sFieldAddr 1 (X 81))),
    .op (o 83 (sLoad 1 false (X 82))),
    .op (o 84 (sBin .rem .none (X 79) (X 83))),
    .op (o 85 (sIdxAddrS 1 (X 70) (X 71))),
    .hv 524287 (u (sStore 1 (X 85) (X 84)))])
  (.block 4 (.seq (.reg [o 95 (sMov (X 0)),
    o 96 (sNil (X 95)),
    o 97 (sFieldAddr 2 (X 96)),
    o 98 (sLoad 1 false (X 97)),
    o 99 (sMov (X 9)),
    o 100 (sIdxAddrS 3 (X 98) (X 99)),
    o 101 (sFieldAddr 1 (X 100)),
    o 102 (sLoad 1 false (X 101)),
    o 94 (sMov (X 102))])
  (.ite (X 94)
  (.skip)
  (.seq (.reg [o 104 (sMov (X 0)),
    o 105 (sNil (X 104)),
    o 106 (sFieldAddr 2 (X 105)),
    o 107 (sLoad 1 false (X 106)),
    o 108 (sMov (X 9)),
    o 109 (sIdxAddrS 3 (X 107) (X 108)),
    o 110 (sFieldAddr 2 (X 109)),
    o 111 (sLoad 1 false (X 110)),
    o 103 (sMov (X 111))])
  (.ite (X 103)
  (.reg [o 112 (sMov (X 0)),
    o 113 (sNil (X 112)),
    o 114 (sFieldAddr 2 (X 113)),
    o 115 (sLoad 1 false (X 114)),
    o 116 (sMov (X 9)),
    o 117 (sIdxAddrS 3 (X 115) (X 116)),
    o 118 (sFieldAddr 2 (X 117)),
    u (sStore 1 (X 118) (K (.bool false)))])
  (.seq (.reg [o 86 (sMov (X 0)),
    o 87 (sNil (X 86)),
    o 88 (sFieldAddr 2 (X 87)),
    o 89 (sLoad 1 false (X 88)),
    o 90 (sMov (X 9)),
    o 91 (sBuild [.int .i64 0, .bool false, .bool false] [(0, 1, (K (.int .i64 (-1))))]),
    o 92 (sIdxAddrS 3 (X 89) (X 90)),
    u (sStore 3 (X 92) (X 91))])
  (.seq (.reg [o 93 (sMov (X 9)),
    o 4 (sMov (X 93))])
  (.ret)))))))))))
  (.reg [o 51 (sMov (X 8)),
    o 52 (sBin .add .none (X 51) (K (.int .i64 1))),
    o 8 (sMov (X 52))]))
noncomputable def b20 (E : Env) : CT :=
  .seq (.reg [o 4 (sMov (K (.int .i64 0)))])
  (.seq (.seq (.reg [o 10 (sMov (X 1)),
    o 11 (sBin .lss .none (X 10) (K (.int .i64 0)))])
  (.ite (X 11)
  (.seq (.reg [o 4 (sMov (K (.int .i64 (-1))))])
  (.ret))
  (.skip)))
  (.seq (.reg [o 12 (sMov (X 1)),
    o 13 (sMov (X 0)),
    o 14 (sNil (X 13)),
    o 15 (sFieldAddr 0 (X 14)),
    o 16 (sLoad 1 false (X 15)),
    o 17 (sBin .rem .none (X 12) (X 16)),
    o 5 (sMov (X 17))])
  (.seq (.seq (.reg [o 6 (sMov (K (.int .i64 0)))])
  (.block 0 (.loop (l20x0 E))))
  (.seq (.seq (.reg [o 8 (sMov (K (.int .i64 0)))])
  (.block 2 (.loop (l20x1 E))))
  (.seq (.reg [o 4 (sMov (K (.int .i64 (-1))))])
  (.ret))))))
theorem c20 (args : T) (h : AHeap) : (envL prog).call 20 args h = trim h (fin [.tmp 4] (runC (envL prog) (b20 (envL prog)) (args ++ List.replicate (119 - args.length) .undef) h)) :=
  call_tr (fn := Go.Proofs.Try.f20) tab20 (by kernel_rfl) (by rfl) (by kernel_rfl) (fun t h => by kernel_rfl) rfl args h
/-! f21: (*revetment/revetmentref13.Map).Put -/
def tab21 : Nat → Cert := fun i => bif Nat.beq i 0 then ⟨23, 31, 439400708082772481525595916943207544572694412579585406381177031644992286803101259103469111102356316146941783761657739044660413366710025508848329124332108251136, 878693943373946916229856278485562955723424256692215094302825399836340242529980136480159310868108265715518635043103384163551388160451879884007286161203259244544, 21548146725788975437565569678596096553739784810141639999756888775918444977642129674669222994571869271380295858533115951496961423983764663197027290911504923840240618842452145977094601344933414041048668093763861610497, 642106433584139417957759051027012880164171492422267819332814999572475109907843220499423072457143923230934846542859483605050008083738165979052979124758229979464742412388855775255892697159849408351001951338506⟩ else ⟨0, 0, 0, 0, 0, 0⟩
noncomputable def b21 (E : Env) : CT :=
  .seq (.seq (.drw [.op (o 9 (sMov (X 0))),
    .op (o 10 (sMov (X 1))),
    .hv 3 (o 11 (sCall E 33 [(X 9), (X 10)])),
    .op (o 12 (sUn .not (X 11))),
    .op (o 13 (sMov (X 12))),
    .op (og 13 false 14 (sMov (X 2))),
    .op (og 13 false 15 (sBin .lss .none (X 14) (K (.int .i64 0)))),
    .op (o 16 (sPick (X 13) (K (.bool true)) (X 15))),
    .op (o 17 (sMov (X 16))),
    .op (og 17 false 18 (sMov (X 2))),
    .op (og 17 false 19 (sMov (X 0))),
    .op (og 17 false 20 (sNil (X 19))),
    .op (og 17 false 21 (sFieldAddr 0 (X 20))),
    .op (og 17 false 22 (sLoad 1 false (X 21))),
    .op (og 17 false 23 (sBin .rem .none (X 18) (X 22))),
    .op (og 17 false 24 (sMov (X 1))),
    .op (og 17 false 25 (sMov (X 0))),
    .op (og 17 false 26 (sNil (X 25))),
    .op (og 17 false 27 (sFieldAddr 1 (X 26))),
    .op (og 17 false 28 (sLoad 1 false (X 27))),
    .op (og 17 false 29 (sBin .quo .none (X 24) (X 28))),
    .op (og 17 false 30 (sBin .neq .none (X 23) (X 29))),
    .op (o 31 (sPick (X 17) (K (.bool true)) (X 30)))])
  (.ite (X 31)
  (.ret)
  (.skip)))
  (.seq (.seq (.reg [o 32 (sMov (X 0)),
    o 33 (sMov (X 2)),
    o 34 (sCall E 22 [(X 32), (X 33)]),
    o 8 (sMov (X 34))])
  (.seq (.reg [o 35 (sMov (X 8)),
    o 36 (sBin .geq .none (X 35) (K (.int .i64 0))),
    o 37 (sMov (X 36)),
    og 37 true 38 (sMov (X 8)),
    og 37 true 39 (sMov (X 1)),
    og 37 true 40 (sBin .neq .none (X 38) (X 39)),
    o 41 (sPick (X 37) (X 40) (K (.bool false)))])
  (.ite (X 41)
  (.ret)
  (.skip))))
  (.reg [o 42 (sMov (X 0)),
    o 43 (sNil (X 42)),
    o 44 (sFieldAddr 2 (X 43)),
    o 45 (sLoad 1 false (X 44)),
    o 46 (sMov (X 1)),
    o 47 (sMov (X 2)),
    o 48 (sMov (X 3)),
    o 49 (sBuild [.int .i64 0, .bool false, .bool false] [(0, 1, (X 47)), (1, 1, (X 48)), (2, 1, (K (.bool true)))]),
    o 50 (sIdxAddrS 3 (X 45) (X 46)),
    u (sStore 3 (X 50) (X 49))]))
theorem c21 (args : T) (h : AHeap) : (envL prog).call 21 args h = trim h (fin [] (runC (envL prog) (b21 (envL prog)) (args ++ List.replicate (51 - args.length) .undef) h)) :=
  call_tr (fn := Go.Proofs.Try.f21) tab21 (by kernel_rfl) (by rfl) (by kernel_rfl) (fun t h => by kernel_rfl) rfl args h
/-! f22: (*revetment/revetmentref13.Map).Find -/
def tab22 : Nat → Cert := fun i => bif Nat.beq i 6 then ⟨14, 30, 50211833272586390219012136916230268781708083931507958218752, 50212216022327855179408846372578031400940245147586381479936, 1353842625028077279366990122083082363534680361845789888423990054331956167062541084614145166600487246999249091164566002327355394, 17652098846441004233746277877293110083746723994037609907704789606964119686624060825151264970358140156016811768098586642⟩ else ⟨0, 0, 0, 0, 0, 0⟩
noncomputable def l22x0 (E : Env) : CT :=
  .seq (.seq (.reg [o 9 (sMov (X 5)),
    o 10 (sMov (X 0)),
    o 11 (sNil (X 10)),
    o 12 (sFieldAddr 1 (X 11)),
    o 13 (sLoad 1 false (X 12)),
    o 14 (sBin .lss .none (X 9) (X 13))])
  (.ite (X 14)
  (.skip)
  (.exit 0)))
  (.seq (.block 1 (.seq (.drw [.op (o 17 (sMov (X 1))),
    .op (o 18 (sMov (X 0))),
    .op (o 19 (sNil (X 18))),
    .op (o 20 (sFieldAddr 0 (X 19))),
    .op (o 21 (sLoad 1 false (X 20))),
    .op (o 22 (sBin .rem .none (X 17) (X 21))),
    .op (o 23 (sMov (X 0))),
    .op (o 24 (sNil (X 23))),
    .op (o 25 (sFieldAddr 1 (X 24))),
    .op (o 26 (sLoad 1 false (X 25))),
    .op (o 27 (sBin .mul .none (X 22) (X 26))),
    .op (o 28 (sMov (X 5))),
    .op (o 29 (sBin .add .none (X 27) (X 28))),
    .op (o 6 (sMov (X 29)))])
  (.seq (.reg [o 30 (sMov (X 0)),
    o 31 (sNil (X 30)),
    o 32 (sFieldAddr 2 (X 31)),
    o 33 (sLoad 1 false (X 32)),
    o 34 (sMov (X 6)),
    o 35 (sIdxAddrS 3 (X 33) (X 34)),
    o 36 (sFieldAddr 0 (X 35)),
    o 37 (sLoad 1 false (X 36)),
    o 38 (sMov (X 1)),
    o 39 (sBin .eql .none (X 37) (X 38))])
  (.ite (X 39)
  (.seq (.reg [o 40 (sMov (X 6)),
    o 4 (sMov (X 40))])
  (.ret))
  (.skip)))))
  (.reg [o 15 (sMov (X 5)),
    o 16 (sBin .add .none (X 15) (K (.int .i64 1))),
    o 5 (sMov (X 16))]))
noncomputable def b22 (E : Env) : CT :=
  .seq (.reg [o 4 (sMov (K (.int .i64 0)))])
  (.seq (.seq (.reg [o 7 (sMov (X 1)),
    o 8 (sBin .lss .none (X 7) (K (.int .i64 0)))])
  (.ite (X 8)
  (.seq (.reg [o 4 (sMov (K (.int .i64 (-1))))])
  (.ret))
  (.skip)))
  (.seq (.seq (.reg [o 5 (sMov (K (.int .i64 0)))])
  (.block 0 (.loop (l22x0 E))))
  (.seq (.reg [o 4 (sMov (K (.int .i64 (-1))))])
  (.ret))))
theorem c22 (args : T) (h : AHeap) : (envL prog).call 22 args h = trim h (fin [.tmp 4] (runC (envL prog) (b22 (envL prog)) (args ++ List.replicate (41 - args.length) .undef) h)) :=
  call_tr (fn := Go.Proofs.Try.f22) tab22 (by kernel_rfl) (by rfl) (by kernel_rfl) (fun t h => by kernel_rfl) rfl args h
/-! f23: (*revetment/revetmentref13.Map).Touch -/
def tab23 : Nat → Cert := fun i => ⟨0, 0, 0, 0, 0, 0⟩
noncomputable def b23 (E : Env) : CT :=
  .seq (.reg [o 4 (sMov (X 0)),
    o 5 (sMov (X 1)),
    o 6 (sCall E 33 [(X 4), (X 5)]),
    o 7 (sMov (X 6)),
    og 7 true 8 (sMov (X 0)),
    og 7 true 9 (sNil (X 8)),
    og 7 true 10 (sFieldAddr 2 (X 9)),
    og 7 true 11 (sLoad 1 false (X 10)),
    og 7 true 12 (sMov (X 1)),
    og 7 true 13 (sIdxAddrS 3 (X 11) (X 12)),
    og 7 true 14 (sFieldAddr 0 (X 13)),
    og 7 true 15 (sLoad 1 false (X 14)),
    og 7 true 16 (sBin .geq .none (X 15) (K (.int .i64 0))),
    o 17 (sPick (X 7) (X 16) (K (.bool false)))])
  (.ite (X 17)
  (.reg [o 18 (sMov (X 0)),
    o 19 (sNil (X 18)),
    o 20 (sFieldAddr 2 (X 19)),
    o 21 (sLoad 1 false (X 20)),
    o 22 (sMov (X 1)),
    o 23 (sIdxAddrS 3 (X 21) (X 22)),
    o 24 (sFieldAddr 2 (X 23)),
    u (sStore 1 (X 24) (K (.bool true)))])
  (.skip))
theorem c23 (args : T) (h : AHeap) : (envL prog).call 23 args h = trim h (fin [] (runC (envL prog) (b23 (envL prog)) (args ++ List.replicate (25 - args.length) .undef) h)) :=
  call_tr (fn := Go.Proofs.Try.f23) tab23 (by kernel_rfl) (by rfl) (by kernel_rfl) (fun t h => by kernel_rfl) rfl args h
/-! f24: (*revetment/revetmentref13.Map).Dirtiest -/
def tab24 : Nat → Cert := fun i => bif Nat.beq i 7 then ⟨15, 38, 26958519709305936570212077084547013365526697613402428654805529427968, 26958712494008370861964527325347353166025669184225526148280143085568, 1932268761512363622274793390491974884965673401025402728326958638372009240609808052386331042541348370071246488021572418667100238207737511358727581194323452791292328966881281, 112472844865523485243708681543866430211868331719201102539629800606889343424266971021718767351229825858849033875861714807844267656315998343358203452201597619142681⟩ else bif Nat.beq i 8 then ⟨15, 52, 13480179024795867715837534343423662540011684926769566424583068745728, 26958712494791499279570255033199843669539402192963693775759198945280, 3179557053031852252186854830898431695961296555421450939611286246351314415583501541429427033807953599775632627388900430652820608179234460641177196440033268118645822188891429797893033132784258329819464352541512713179536967280580716658689, 74836369905767779972635042186061819024525732973651447285676847074121907106650547361467134541476340843898228129887744055645771409365742866045732716448979371769199934488865540556305326853035709556852435288201531777378943015⟩ else bif Nat.beq i 9 then ⟨14, 66, 50212216047172670767650531970778307614673139875039517097984, 50212216068364979737722424761157165377125774671737673236480, 106359737525781373700962630760876896427020453645510545545387236740219808303980890848209897003614854987907202851131648489302364470253051617607103187707583926943846948780126961812448944425324955164782894314520109388846950621739027457283347131576656052598439205996103964439837933569, 1719097470976837430059156903209828542989400694521898757894203292958685637465637138744317545064736143565355033555023161883668443162796675909194696315567292352919833722133600934132865265624279455110180109286390194125044737597052984019099058230⟩ else ⟨0, 0, 0, 0, 0, 0⟩
noncomputable def l24x0 (E : Env) : CT :=
  .seq (.seq (.reg [o 16 (sMov (X 6)),
    o 17 (sMov (X 0)),
    o 18 (sNil (X 17)),
    o 19 (sFieldAddr 1 (X 18)),
    o 20 (sLoad 1 false (X 19)),
    o 21 (sBin .lss .none (X 16) (X 20))])
  (.ite (X 21)
  (.skip)
  (.exit 0)))
  (.seq (.block 1 (.seq (.drw [.op (o 24 (sMov (X 0))),
    .op (o 25 (sNil (X 24))),
    .op (o 26 (sFieldAddr 3 (X 25))),
    .op (o 27 (sLoad 1 false (X 26))),
    .op (o 28 (sMov (X 5))),
    .op (o 29 (sIdxAddrS 1 (X 27) (X 28))),
    .op (o 30 (sLoad 1 false (X 29))),
    .op (o 31 (sMov (X 6))),
    .op (o 32 (sBin .add .none (X 30) (X 31))),
    .op (o 33 (sMov (X 0))),
    .op (o 34 (sNil (X 33))),
    .op (o 35 (sFieldAddr 1 (X 34))),
    .op (o 36 (sLoad 1 false (X 35))),
    .op (o 37 (sBin .rem .none (X 32) (X 36))),
    .op (o 7 (sMov (X 37)))])
  (.seq (.drw [.op (o 38 (sMov (X 0))),
    .op (o 39 (sNil (X 38))),
    .op (o 40 (sFieldAddr 2 (X 39))),
    .op (o 41 (sLoad 1 false (X 40))),
    .op (o 42 (sMov (X 5))),
    .op (o 43 (sMov (X 0))),
    .op (o 44 (sNil (X 43))),
    .op (o 45 (sFieldAddr 1 (X 44))),
    .op (o 46 (sLoad 1 false (X 45))),
    .op (o 47 (sBin .mul .none (X 42) (X 46))),
    .op (o 48 (sMov (X 7))),
    .op (o 49 (sBin .add .none (X 47) (X 48))),
    .op (o 50 (sIdxAddrS 3 (X 41) (X 49))),
    .op (o 51 (sFieldAddr 1 (X 50))),
    .op (o 52 (sLoad 1 false (X 51)))])
  (.ite (X 52)
  (.seq (.drw [.op (o 53 (sMov (X 0))),
    .op (o 54 (sNil (X 53))),
    .op (o 55 (sFieldAddr 3 (X 54))),
    .op (o 56 (sLoad 1 false (X 55))),
    .op (o 57 (sMov (X 5))),
    .op (o 58 (sMov (X 7))),
    .op (o 59 (sBin .add .none (X 58) (K (.int .i64 1)))),
    .op (o 60 (sMov (X 0))),
    .op (o 61 (sNil (X 60))),
    .op (o 62 (sFieldAddr 1 (X 61))),
    .op (o 63 (sLoad 1 false (X 62))),
    .op (o 64 (sBin .rem .none (X 59) (X 63))),
    .op (o 65 (sIdxAddrS 1 (X 56) (X 57))),
    .hv 8191 (u (sStore 1 (X 65) (X 64)))])
  (.seq (.reg [o 66 (sMov (X 5)),
    o 67 (sMov (X 0)),
    o 68 (sNil (X 67)),
    o 69 (sFieldAddr 1 (X 68)),
    o 70 (sLoad 1 false (X 69)),
    o 71 (sBin .mul .none (X 66) (X 70)),
    o 72 (sMov (X 7)),
    o 73 (sBin .add .none (X 71) (X 72)),
    o 4 (sMov (X 73))])
  (.ret)))
  (.skip)))))
  (.reg [o 22 (sMov (X 6)),
    o 23 (sBin .add .none (X 22) (K (.int .i64 1))),
    o 6 (sMov (X 23))]))
noncomputable def b24 (E : Env) : CT :=
  .seq (.reg [o 4 (sMov (K (.int .i64 0)))])
  (.seq (.seq (.reg [o 8 (sMov (X 1)),
    o 9 (sBin .lss .none (X 8) (K (.int .i64 0)))])
  (.ite (X 9)
  (.seq (.reg [o 4 (sMov (K (.int .i64 (-1))))])
  (.ret))
  (.skip)))
  (.seq (.reg [o 10 (sMov (X 1)),
    o 11 (sMov (X 0)),
    o 12 (sNil (X 11)),
    o 13 (sFieldAddr 0 (X 12)),
    o 14 (sLoad 1 false (X 13)),
    o 15 (sBin .rem .none (X 10) (X 14)),
    o 5 (sMov (X 15))])
  (.seq (.seq (.reg [o 6 (sMov (K (.int .i64 0)))])
  (.block 0 (.loop (l24x0 E))))
  (.seq (.reg [o 4 (sMov (K (.int .i64 (-1))))])
  (.ret)))))
theorem c24 (args : T) (h : AHeap) : (envL prog).call 24 args h = trim h (fin [.tmp 4] (runC (envL prog) (b24 (envL prog)) (args ++ List.replicate (74 - args.length) .undef) h)) :=
  call_tr (fn := Go.Proofs.Try.f24) tab24 (by kernel_rfl) (by rfl) (by kernel_rfl) (fun t h => by kernel_rfl) rfl args h
/-! f25: (*revetment/revetmentref13.Map).Clean -/
def tab25 : Nat → Cert := fun i => ⟨0, 0, 0, 0, 0, 0⟩
noncomputable def b25 (E : Env) : CT :=
  .seq (.reg [o 4 (sMov (X 0)),
    o 5 (sMov (X 1)),
    o 6 (sCall E 33 [(X 4), (X 5)])])
  (.ite (X 6)
  (.reg [o 7 (sMov (X 0)),
    o 8 (sNil (X 7)),
    o 9 (sFieldAddr 2 (X 8)),
    o 10 (sLoad 1 false (X 9)),
    o 11 (sMov (X 1)),
    o 12 (sIdxAddrS 3 (X 10) (X 11)),
    o 13 (sFieldAddr 1 (X 12)),
    u (sStore 1 (X 13) (K (.bool false)))])
  (.skip))
theorem c25 (args : T) (h : AHeap) : (envL prog).call 25 args h = trim h (fin [] (runC (envL prog) (b25 (envL prog)) (args ++ List.replicate (14 - args.length) .undef) h)) :=
  call_tr (fn := Go.Proofs.Try.f25) tab25 (by kernel_rfl) (by rfl) (by kernel_rfl) (fun t h => by kernel_rfl) rfl args h
/-! f26: (*revetment/ways.Map).Drop -/
def tab26 : Nat → Cert := fun i => ⟨0, 0, 0, 0, 0, 0⟩
noncomputable def b26 (E : Env) : CT :=
  .seq (.reg [o 5 (sMov (X 0)),
    o 6 (sMov (X 1)),
    o 7 (sCall E 31 [(X 5), (X 6)]),
    o 4 (sMov (X 7))])
  (.seq (.reg [o 8 (sMov (X 4)),
    o 9 (sBin .neq .ptr (X 8) (K (.nilPtr)))])
  (.ite (X 9)
  (.reg [o 10 (sMov (X 4)),
    o 11 (sBuild [.int .i64 0, .bool false, .bool false] [(0, 1, (K (.int .i64 (-1))))]),
    o 12 (sNil (X 10)),
    u (sStore 3 (X 12) (X 11))])
  (.skip)))
theorem c26 (args : T) (h : AHeap) : (envL prog).call 26 args h = trim h (fin [] (runC (envL prog) (b26 (envL prog)) (args ++ List.replicate (13 - args.length) .undef) h)) :=
  call_tr (fn := Go.Proofs.Try.f26) tab26 (by kernel_rfl) (by rfl) (by kernel_rfl) (fun t h => by kernel_rfl) rfl args h
/-! f27: (*revetment/revetmentref13.Map).Drop -/
def tab27 : Nat → Cert := fun i => ⟨0, 0, 0, 0, 0, 0⟩
noncomputable def b27 (E : Env) : CT :=
  .seq (.reg [o 4 (sMov (X 0)),
    o 5 (sMov (X 1)),
    o 6 (sCall E 33 [(X 4), (X 5)])])
  (.ite (X 6)
  (.reg [o 7 (sMov (X 0)),
    o 8 (sNil (X 7)),
    o 9 (sFieldAddr 2 (X 8)),
    o 10 (sLoad 1 false (X 9)),
    o 11 (sMov (X 1)),
    o 12 (sBuild [.int .i64 0, .bool false, .bool false] [(0, 1, (K (.int .i64 (-1))))]),
    o 13 (sIdxAddrS 3 (X 10) (X 11)),
    u (sStore 3 (X 13) (X 12))])
  (.skip))
theorem c27 (args : T) (h : AHeap) : (envL prog).call 27 args h = trim h (fin [] (runC (envL prog) (b27 (envL prog)) (args ++ List.replicate (14 - args.length) .undef) h)) :=
  call_tr (fn := Go.Proofs.Try.f27) tab27 (by kernel_rfl) (by rfl) (by kernel_rfl) (fun t h => by kernel_rfl) rfl args h
/-! f28: revetment/revetmentlaw13.Same -/
def tab28 : Nat → Cert := fun i => ⟨0, 0, 0, 0, 0, 0⟩
noncomputable def l28x0 (E : Env) : CT :=
  .seq (.seq (.reg [o 12 (sMov (X 5)),
    o 13 (sMov (X 1)),
    o 14 (sNil (X 13)),
    o 15 (sFieldAddr 2 (X 14)),
    o 16 (sLoad 1 false (X 15)),
    o 17 (sLenSl (X 16)),
    o 18 (sBin .lss .none (X 12) (X 17))])
  (.ite (X 18)
  (.skip)
  (.exit 0)))
  (.seq (.block 1 (.seq (.reg [o 22 (sMov (X 0)),
    o 23 (sMov (X 5)),
    o 24 (sCall E 17 [(X 22), (X 23)]),
    o 21 (sMov (X 24)),
    o 25 (sExtract (X 21) 0),
    o 26 (sExtract (X 21) 1),
    o 27 (sExtract (X 21) 2),
    o 6 (sMov (X 25)),
    o 7 (sMov (X 26)),
    o 8 (sMov (X 27))])
  (.seq (.reg [o 28 (sMov (X 6)),
    o 29 (sMov (X 1)),
    o 30 (sNil (X 29)),
    o 31 (sFieldAddr 2 (X 30)),
    o 32 (sLoad 1 false (X 31)),
    o 33 (sMov (X 5)),
    o 34 (sIdxAddrS 3 (X 32) (X 33)),
    o 35 (sFieldAddr 0 (X 34)),
    o 36 (sLoad 1 false (X 35)),
    o 37 (sBin .neq .none (X 28) (X 36)),
    o 38 (sMov (X 37)),
    og 38 false 39 (sMov (X 7)),
    og 38 false 40 (sMov (X 1)),
    og 38 false 41 (sNil (X 40)),
    og 38 false 42 (sFieldAddr 2 (X 41)),
    og 38 false 43 (sLoad 1 false (X 42)),
    og 38 false 44 (sMov (X 5)),
    og 38 false 45 (sIdxAddrS 3 (X 43) (X 44)),
    og 38 false 46 (sFieldAddr 1 (X 45)),
    og 38 false 47 (sLoad 1 false (X 46)),
    og 38 false 48 (sBin .neq .bool (X 39) (X 47)),
    o 49 (sPick (X 38) (K (.bool true)) (X 48)),
    o 50 (sMov (X 49)),
    og 50 false 51 (sMov (X 8)),
    og 50 false 52 (sMov (X 1)),
    og 50 false 53 (sNil (X 52)),
    og 50 false 54 (sFieldAddr 2 (X 53)),
    og 50 false 55 (sLoad 1 false (X 54)),
    og 50 false 56 (sMov (X 5)),
    og 50 false 57 (sIdxAddrS 3 (X 55) (X 56)),
    og 50 false 58 (sFieldAddr 0 (X 57)),
    og 50 false 59 (sLoad 1 false (X 58)),
    og 50 false 60 (sBin .geq .none (X 59) (K (.int .i64 0))),
    og 50 false 61 (sBin .neq .bool (X 51) (X 60)),
    o 62 (sPick (X 50) (K (.bool true)) (X 61))])
  (.ite (X 62)
  (.seq (.reg [o 4 (sMov (K (.bool false)))])
  (.ret))
  (.skip)))))
  (.reg [o 19 (sMov (X 5)),
    o 20 (sBin .add .none (X 19) (K (.int .i64 1))),
    o 5 (sMov (X 20))]))
noncomputable def b28 (E : Env) : CT :=
  .seq (.reg [o 4 (sMov (K (.bool false)))])
  (.seq (.seq (.reg [o 5 (sMov (K (.int .i64 0)))])
  (.block 0 (.loop (l28x0 E))))
  (.seq (.reg [o 64 (sMov (X 0)),
    o 65 (sMov (X 1)),
    o 66 (sNil (X 65)),
    o 67 (sFieldAddr 2 (X 66)),
    o 68 (sLoad 1 false (X 67)),
    o 69 (sLenSl (X 68)),
    o 70 (sCall E 17 [(X 64), (X 69)]),
    o 63 (sMov (X 70)),
    o 71 (sExtract (X 63) 0),
    o 72 (sExtract (X 63) 1),
    o 73 (sExtract (X 63) 2),
    o 9 (sMov (X 71)),
    o 10 (sMov (X 72)),
    o 11 (sMov (X 73))])
  (.seq (.reg [o 74 (sMov (X 11)),
    o 75 (sUn .not (X 74)),
    o 76 (sMov (X 75)),
    og 76 true 77 (sMov (X 0)),
    og 76 true 78 (sCall E 11 [(X 77)]),
    og 76 true 79 (sMov (X 1)),
    og 76 true 80 (sCall E 34 [(X 79)]),
    og 76 true 81 (sCall E 29 [(X 78), (X 80)]),
    o 82 (sPick (X 76) (X 81) (K (.bool false))),
    o 4 (sMov (X 82))])
  (.ret))))
theorem c28 (args : T) (h : AHeap) : (envL prog).call 28 args h = trim h (fin [.tmp 4] (runC (envL prog) (b28 (envL prog)) (args ++ List.replicate (83 - args.length) .undef) h)) :=
  call_tr (fn := Go.Proofs.Try.f28) tab28 (by kernel_rfl) (by rfl) (by kernel_rfl) (fun t h => by kernel_rfl) rfl args h
/-! f29: revetment/revetmentkeep.Ints -/
def tab29 : Nat → Cert := fun i => bif Nat.beq i 6 then ⟨9, 25, 642833002171759447506944, 1205237335491016659828736, 28644943735582074826047332177877539589708590883724224647809306984449, 41780390347995922719512288248198774037700430168845219084107794⟩ else ⟨0, 0, 0, 0, 0, 0⟩
noncomputable def l29x0 (E : Env) : CT :=
  .seq (.seq (.reg [o 11 (sMov (X 5)),
    o 12 (sMov (X 0)),
    o 13 (sLenSl (X 12)),
    o 14 (sBin .lss .none (X 11) (X 13))])
  (.ite (X 14)
  (.skip)
  (.exit 0)))
  (.seq (.block 1 (.seq (.drw [.op (o 17 (sMov (X 0))),
    .op (o 18 (sMov (X 5))),
    .op (o 19 (sIdxAddrS 1 (X 17) (X 18))),
    .op (o 20 (sLoad 1 false (X 19))),
    .op (o 21 (sMov (X 1))),
    .op (o 22 (sMov (X 5))),
    .op (o 23 (sIdxAddrS 1 (X 21) (X 22))),
    .op (o 24 (sLoad 1 false (X 23))),
    .op (o 25 (sBin .neq .none (X 20) (X 24)))])
  (.ite (X 25)
  (.seq (.reg [o 4 (sMov (K (.bool false)))])
  (.ret))
  (.skip))))
  (.reg [o 15 (sMov (X 5)),
    o 16 (sBin .add .none (X 15) (K (.int .i64 1))),
    o 5 (sMov (X 16))]))
noncomputable def b29 (E : Env) : CT :=
  .seq (.reg [o 4 (sMov (K (.bool false)))])
  (.seq (.seq (.reg [o 6 (sMov (X 0)),
    o 7 (sLenSl (X 6)),
    o 8 (sMov (X 1)),
    o 9 (sLenSl (X 8)),
    o 10 (sBin .neq .none (X 7) (X 9))])
  (.ite (X 10)
  (.seq (.reg [o 4 (sMov (K (.bool false)))])
  (.ret))
  (.skip)))
  (.seq (.seq (.reg [o 5 (sMov (K (.int .i64 0)))])
  (.block 0 (.loop (l29x0 E))))
  (.seq (.reg [o 4 (sMov (K (.bool true)))])
  (.ret))))
theorem c29 (args : T) (h : AHeap) : (envL prog).call 29 args h = trim h (fin [.tmp 4] (runC (envL prog) (b29 (envL prog)) (args ++ List.replicate (26 - args.length) .undef) h)) :=
  call_tr (fn := Go.Proofs.Try.f29) tab29 (by kernel_rfl) (by rfl) (by kernel_rfl) (fun t h => by kernel_rfl) rfl args h
/-! f30: (*revetment/ways.Map).set -/
def tab30 : Nat → Cert := fun i => ⟨0, 0, 0, 0, 0, 0⟩
noncomputable def b30 (E : Env) : CT :=
  .seq (.reg [o 4 (sMov (K (.int .i64 0))),
    o 5 (sMov (K (.bool false)))])
  (.seq (.seq (.reg [o 6 (sMov (X 0)),
    o 7 (sBin .eql .ptr (X 6) (K (.nilPtr))),
    o 8 (sMov (X 7)),
    og 8 false 9 (sMov (X 1)),
    og 8 false 10 (sBin .lss .none (X 9) (K (.int .i64 0))),
    o 11 (sPick (X 8) (K (.bool true)) (X 10))])
  (.ite (X 11)
  (.seq (.reg [o 4 (sMov (K (.int .i64 0))),
    o 5 (sMov (K (.bool false)))])
  (.ret))
  (.skip)))
  (.seq (.reg [o 12 (sMov (X 1)),
    o 13 (sMov (X 0)),
    o 14 (sNil (X 13)),
    o 15 (sFieldAddr 0 (X 14)),
    o 16 (sLoad 1 false (X 15)),
    o 17 (sBin .rem .none (X 12) (X 16)),
    o 4 (sMov (X 17)),
    o 5 (sMov (K (.bool true)))])
  (.ret)))
theorem c30 (args : T) (h : AHeap) : (envL prog).call 30 args h = trim h (fin [.tmp 4, .tmp 5] (runC (envL prog) (b30 (envL prog)) (args ++ List.replicate (18 - args.length) .undef) h)) :=
  call_tr (fn := Go.Proofs.Try.f30) tab30 (by kernel_rfl) (by rfl) (by kernel_rfl) (fun t h => by kernel_rfl) rfl args h
/-! f31: (*revetment/ways.Map).slot -/
def tab31 : Nat → Cert := fun i => ⟨0, 0, 0, 0, 0, 0⟩
noncomputable def b31 (E : Env) : CT :=
  .seq (.reg [o 4 (sMov (K (.nilPtr)))])
  (.seq (.seq (.reg [o 5 (sMov (X 0)),
    o 6 (sBin .eql .ptr (X 5) (K (.nilPtr))),
    o 7 (sMov (X 6)),
    og 7 false 8 (sMov (X 1)),
    og 7 false 9 (sBin .lss .none (X 8) (K (.int .i64 0))),
    o 10 (sPick (X 7) (K (.bool true)) (X 9)),
    o 11 (sMov (X 10)),
    og 11 false 12 (sMov (X 1)),
    og 11 false 13 (sMov (X 0)),
    og 11 false 14 (sNil (X 13)),
    og 11 false 15 (sFieldAddr 2 (X 14)),
    og 11 false 16 (sLoad 1 false (X 15)),
    og 11 false 17 (sLenSl (X 16)),
    og 11 false 18 (sBin .geq .none (X 12) (X 17)),
    o 19 (sPick (X 11) (K (.bool true)) (X 18))])
  (.ite (X 19)
  (.seq (.reg [o 4 (sMov (K (.nilPtr)))])
  (.ret))
  (.skip)))
  (.seq (.reg [o 20 (sMov (X 0)),
    o 21 (sNil (X 20)),
    o 22 (sFieldAddr 2 (X 21)),
    o 23 (sLoad 1 false (X 22)),
    o 24 (sMov (X 1)),
    o 25 (sIdxAddrS 3 (X 23) (X 24)),
    o 4 (sMov (X 25))])
  (.ret)))
theorem c31 (args : T) (h : AHeap) : (envL prog).call 31 args h = trim h (fin [.tmp 4] (runC (envL prog) (b31 (envL prog)) (args ++ List.replicate (26 - args.length) .undef) h)) :=
  call_tr (fn := Go.Proofs.Try.f31) tab31 (by kernel_rfl) (by rfl) (by kernel_rfl) (fun t h => by kernel_rfl) rfl args h
/-! f32: (*revetment/ways.Map).step -/
def tab32 : Nat → Cert := fun i => bif Nat.beq i 2 then ⟨14, 26, 50212216047172670767650531970778307614673139875039517097984, 50212216068364979737722424761157165377125774671737673236480, 28182510994926437886408605001387478727842194800708448629614980132087460262872610277336277646688487410220662785, 216936186443987702268573807594076185215288112273885898640316639882233415595580151946626755198990⟩ else ⟨0, 0, 0, 0, 0, 0⟩
noncomputable def b32 (E : Env) : CT :=
  .seq (.reg [o 4 (sMov (K (.int .i64 0)))])
  (.seq (.reg [o 6 (sMov (X 0)),
    o 7 (sNil (X 6)),
    o 8 (sFieldAddr 3 (X 7)),
    o 9 (sLoad 1 false (X 8)),
    o 10 (sMov (X 1)),
    o 11 (sIdxAddrS 1 (X 9) (X 10)),
    o 12 (sLoad 1 false (X 11)),
    o 5 (sMov (X 12))])
  (.seq (.drw [.op (o 13 (sMov (X 0))),
    .op (o 14 (sNil (X 13))),
    .op (o 15 (sFieldAddr 3 (X 14))),
    .op (o 16 (sLoad 1 false (X 15))),
    .op (o 17 (sMov (X 1))),
    .op (o 18 (sMov (X 5))),
    .op (o 19 (sBin .add .none (X 18) (K (.int .i64 1)))),
    .op (o 20 (sMov (X 0))),
    .op (o 21 (sNil (X 20))),
    .op (o 22 (sFieldAddr 1 (X 21))),
    .op (o 23 (sLoad 1 false (X 22))),
    .op (o 24 (sBin .rem .none (X 19) (X 23))),
    .op (o 25 (sIdxAddrS 1 (X 16) (X 17))),
    .hv 8191 (u (sStore 1 (X 25) (X 24)))])
  (.seq (.reg [o 26 (sMov (X 1)),
    o 27 (sMov (X 0)),
    o 28 (sNil (X 27)),
    o 29 (sFieldAddr 1 (X 28)),
    o 30 (sLoad 1 false (X 29)),
    o 31 (sBin .mul .none (X 26) (X 30)),
    o 32 (sMov (X 5)),
    o 33 (sBin .add .none (X 31) (X 32)),
    o 4 (sMov (X 33))])
  (.ret))))
theorem c32 (args : T) (h : AHeap) : (envL prog).call 32 args h = trim h (fin [.tmp 4] (runC (envL prog) (b32 (envL prog)) (args ++ List.replicate (34 - args.length) .undef) h)) :=
  call_tr (fn := Go.Proofs.Try.f32) tab32 (by kernel_rfl) (by rfl) (by kernel_rfl) (fun t h => by kernel_rfl) rfl args h
/-! f33: (*revetment/revetmentref13.Map).has -/
def tab33 : Nat → Cert := fun i => ⟨0, 0, 0, 0, 0, 0⟩
noncomputable def b33 (E : Env) : CT :=
  .seq (.reg [o 4 (sMov (K (.bool false)))])
  (.seq (.reg [o 5 (sMov (X 1)),
    o 6 (sBin .geq .none (X 5) (K (.int .i64 0))),
    o 7 (sMov (X 6)),
    og 7 true 8 (sMov (X 1)),
    og 7 true 9 (sMov (X 0)),
    og 7 true 10 (sNil (X 9)),
    og 7 true 11 (sFieldAddr 2 (X 10)),
    og 7 true 12 (sLoad 1 false (X 11)),
    og 7 true 13 (sLenSl (X 12)),
    og 7 true 14 (sBin .lss .none (X 8) (X 13)),
    o 15 (sPick (X 7) (X 14) (K (.bool false))),
    o 4 (sMov (X 15))])
  (.ret))
theorem c33 (args : T) (h : AHeap) : (envL prog).call 33 args h = trim h (fin [.tmp 4] (runC (envL prog) (b33 (envL prog)) (args ++ List.replicate (16 - args.length) .undef) h)) :=
  call_tr (fn := Go.Proofs.Try.f33) tab33 (by kernel_rfl) (by rfl) (by kernel_rfl) (fun t h => by kernel_rfl) rfl args h
/-! f34: (*revetment/revetmentref13.Map).Dirty -/
def tab34 : Nat → Cert := fun i => ⟨0, 0, 0, 0, 0, 0⟩
noncomputable def l34x0 (E : Env) : CT :=
  .seq (.seq (.reg [o 6 (sMov (X 4)),
    o 7 (sMov (X 0)),
    o 8 (sNil (X 7)),
    o 9 (sFieldAddr 2 (X 8)),
    o 10 (sLoad 1 false (X 9)),
    o 11 (sLenSl (X 10)),
    o 12 (sBin .lss .none (X 6) (X 11))])
  (.ite (X 12)
  (.skip)
  (.exit 0)))
  (.seq (.block 1 (.seq (.reg [o 5 (sMov (K (.int .i64 (-1))))])
  (.seq (.seq (.reg [o 15 (sMov (X 0)),
    o 16 (sNil (X 15)),
    o 17 (sFieldAddr 2 (X 16)),
    o 18 (sLoad 1 false (X 17)),
    o 19 (sMov (X 4)),
    o 20 (sIdxAddrS 3 (X 18) (X 19)),
    o 21 (sFieldAddr 1 (X 20)),
    o 22 (sLoad 1 false (X 21))])
  (.ite (X 22)
  (.reg [o 23 (sMov (X 0)),
    o 24 (sNil (X 23)),
    o 25 (sFieldAddr 2 (X 24)),
    o 26 (sLoad 1 false (X 25)),
    o 27 (sMov (X 4)),
    o 28 (sIdxAddrS 3 (X 26) (X 27)),
    o 29 (sFieldAddr 0 (X 28)),
    o 30 (sLoad 1 false (X 29)),
    o 5 (sMov (X 30))])
  (.skip)))
  (.reg [o 31 (sMov (X 3)),
    o 32 (sMov (X 5)),
    o 33 (sBuildSl 1 1 [.int .i64 0] [(0, 1, (X 32))]),
    o 34 (sApp (ty 1 false 8 [.int .i64 0]) (X 31) (X 33)),
    o 3 (sMov (X 34))]))))
  (.reg [o 13 (sMov (X 4)),
    o 14 (sBin .add .none (X 13) (K (.int .i64 1))),
    o 4 (sMov (X 14))]))
noncomputable def b34 (E : Env) : CT :=
  .seq (.reg [o 2 (sMov (K (.nilSl)))])
  (.seq (.reg [o 3 (sMov (K (.nilSl)))])
  (.seq (.seq (.reg [o 4 (sMov (K (.int .i64 0)))])
  (.block 0 (.loop (l34x0 E))))
  (.seq (.reg [o 35 (sMov (X 3)),
    o 2 (sMov (X 35))])
  (.ret))))
theorem c34 (args : T) (h : AHeap) : (envL prog).call 34 args h = trim h (fin [.tmp 2] (runC (envL prog) (b34 (envL prog)) (args ++ List.replicate (36 - args.length) .undef) h)) :=
  call_tr (fn := Go.Proofs.Try.f34) tab34 (by kernel_rfl) (by rfl) (by kernel_rfl) (fun t h => by kernel_rfl) rfl args h
end Go.Proofs.Ytodoakeifdiidaa.G13

