/- What the functions that RingPlays reaches answer, for every argument. No condition but those in each statement. -/
import Derived.Test.YtipedaadjfhdnaaE5
import Derived.Test.YtipedaadjfhdnaaProg
set_option maxRecDepth 100000
set_option linter.unusedVariables false
namespace Go.Proofs.Ytipedaadjfhdnaa.G06
open Go Go.Proofs.Ytipedaadjfhdnaa.Eng
noncomputable abbrev prog : Program := Go.Proofs.Try.prog
def tab6 : Nat → Cert := fun i => bif Nat.beq i 38 then ⟨8, 199, 4980998814417682432, 9167103464151580672, 93625083524154329796788335282003727349594945719528531281733983285122836558037136229682921073870489473481719389793196890665509119750538773510629778878132528818434699572008773234257631832149379875942916273980188166409377180988980807202111452502609312499506748468337958716612636426865718797996700754729706119972583151539113189928819231247946525718377927458820620292548550525089143807588591906519868856934922772771366686369425003247233257623872360263583605569364196977939462110576672, 43232858910559562728893659666992006452862805619824365504595605614716770694851482580554020733832771295749439023529599286018096755768016194044557598622590388068808662910778835316119447139035925999366262947654585765773040304975941798010191752993898094458334493779709311165077891662616936751833122151815842119791537631113140562157397659474138126201460357697684350619784767912384834534237934484791295689263088510274160962830529⟩ else bif Nat.beq i 39 then ⟨8, 207, 4980998814417682432, 9167103464151580672, 1727077954649755664828891198039547155959344124361398145456444208468796526713895914215212004943448904790509097698827727631191443990011223940782687619924440339373264940323476753256403598833332304683946306533531799658056573107209651426462505540167351350821047634863249436381669069576723966477137546352614047576892643485044217787397912601768880376192830569945653659748791776634124563954008368593580910004797165543829111923761421077790110533914061756511473489573139620591399363878422082420302048584007808, 3239866028335161045384599585500859247956471211042389588733565919145228672675404860435374084462374951348030999419120035299161816769784629485541164173320081438326431654723939551119249559893698382786136401658725568142274312637680575852096817823099439047906100316251984468790891900083428748124961705811524845614468721095934265322309805910627454138911005862488611573746535586139501389063201886654494153865679890883345840324533255335234689302729⟩ else bif Nat.beq i 44 then ⟨13, 243, 187449137824493754465712201339199340764595895672832, 374075901498636239504097240598556554623333024407552, 450374414970003002498363537336734194119445460285709781016492274346431624997242769855222460701187925845241754010447930350737520222781649658640981051575217635097346865642779268331954924138084340906112427834806482925846217473913192418174731137273191062739033441153392243623251170983884134427549158372969711025195134774721914012561289768962603064201901110077764980789500149702826338009994830181483047275888373139187310292981716590910928644302424009380882732755223439370330187554480994244933844316640013402263849143731166497562791719106589348183255287197544503079376786574555985966714069258565091049378401427430819642929428614956968774253971277679968296617231721394889836612672151058705807228776701523035268566573808055198848107197751300916294173382840565676997455857586704743021494757492041988450360461684039869974764715447865369865708471058803390289175127586793923061137693783587159172797465056374897091405881235813407998671661746158973821916181075853312, 15518765923071703919370410050977821437058556145907416326514355156276920139181751928056076654739267770803433084245559466607102681606403333237993246253278399908551533010637983883181231099200327507141915677477855684135768709697455137133012055470720099437262342347083083417416892452659660311217474658796642821739368953233658218454484224305994883449530812789572021686091713491279769074391464227712327877286300751362046293680602087150398978599163484510272108618301303448288523532769295150450794548559277486680866858774887141439024521413214754465942574503032073478961554410437698405267550962251193513503677690564651151704491063431894273718916607939697363294845719768361826989669024070265334439501872217071417914304273165906724134472274021454154264093644766538635015597351150503921198058604961665349338878948821177138921333932833461120483064297138937697864714674201762583974783923852935400⟩ else ⟨0, 0, 0, 0, 0, 0⟩
noncomputable def l6x0 (E : Env) : CT :=
 .seq (.seq (.reg [o 49 (sMov (X 13)),
  o 50 (sMov (X 1)),
  o 51 (sLenSl (X 50)),
  o 52 (sBin .lss .none (X 49) (X 51))])
 (.ite (X 52)
 (.skip)
 (.exit 0)))
 (.seq (.block 1 (.seq (.reg [o 55 (sMov (X 1)),
  o 56 (sMov (X 13)),
  o 57 (sIdxAddrS 5 (X 55) (X 56)),
  o 58 (sLoad 5 true (X 57)),
  o 14 (sAlloc [.int .i64 0, .int .i64 0, .nilSl, .nilSl, .bool false]),
  u (sStore 5 (X 14) (X 58))])
 (.seq (.reg [o 60 (sFieldAddr 2 (X 14)),
  o 61 (sLoad 1 false (X 60)),
  o 62 (sCall E 14 [(X 61)]),
  o 59 (sMov (X 62)),
  o 63 (sExtract (X 59) 0),
  o 64 (sExtract (X 59) 1),
  o 15 (sMov (X 63)),
  o 16 (sMov (X 64))])
 (.seq (.reg [o 65 (sMov (X 9)),
  o 17 (sMov (X 65))])
 (.seq (.seq (.reg [o 66 (sFieldAddr 4 (X 14)),
  o 67 (sLoad 1 false (X 66))])
 (.ite (X 67)
 (.reg [o 68 (sFieldAddr 1 (X 14)),
  o 69 (sLoad 1 false (X 68)),
  o 17 (sMov (X 69))])
 (.skip)))
 (.seq (.reg [o 70 (sFieldAddr 0 (X 14)),
  o 71 (sLoad 1 false (X 70))])
 (.block 2 (.seq (.reg [o 73 (sBin .eql .none (X 71) (K (.int .i64 0))),
  o 72 (sMov (X 73))])
 (.ite (X 72)
 (.seq (.reg [o 75 (sMov (X 5)),
  o 76 (sIdxAddrA 3 1 (X 2) (K (.int .i64 1))),
  o 77 (sLoad 1 false (X 76)),
  o 78 (sIdxAddrA 3 1 (X 2) (K (.int .i64 2))),
  o 79 (sLoad 1 false (X 78)),
  o 80 (sMov (X 17)),
  o 81 (sMov (X 10)),
  o 82 (sMov (X 15)),
  o 83 (sCall E 9 [(X 75), (X 77), (X 79), (X 80), (X 81), (X 82)]),
  o 74 (sMov (X 83)),
  o 84 (sExtract (X 74) 0),
  o 85 (sExtract (X 74) 1),
  o 18 (sMov (X 84)),
  o 19 (sMov (X 85))])
 (.seq (.reg [o 87 (sMov (X 7)),
  o 88 (sIdxAddrA 3 1 (X 2) (K (.int .i64 1))),
  o 89 (sLoad 1 false (X 88)),
  o 90 (sIdxAddrA 3 1 (X 2) (K (.int .i64 2))),
  o 91 (sLoad 1 false (X 90)),
  o 92 (sMov (X 17)),
  o 93 (sMov (X 10)),
  o 94 (sMov (X 16)),
  o 95 (sCall E 19 [(X 87), (X 89), (X 91), (X 92), (X 93), (X 94)]),
  o 86 (sMov (X 95)),
  o 96 (sExtract (X 86) 0),
  o 97 (sExtract (X 86) 1),
  o 20 (sMov (X 96)),
  o 21 (sMov (X 97))])
 (.seq (.seq (.reg [o 98 (sMov (X 18)),
  o 99 (sMov (X 20)),
  o 100 (sBin .neq .none (X 98) (X 99)),
  o 101 (sMov (X 100)),
  og 101 false 102 (sMov (X 19)),
  og 101 false 103 (sMov (X 21)),
  og 101 false 104 (sBin .neq .none (X 102) (X 103)),
  o 105 (sPick (X 101) (K (.bool true)) (X 104))])
 (.ite (X 105)
 (.seq (.reg [o 4 (sMov (K (.bool false)))])
 (.ret))
 (.skip)))
 (.seq (.reg [o 106 (sMov (X 21)),
  o 107 (sBin .eql .none (X 106) (K (.int .i64 0))),
  o 108 (sMov (X 107)),
  og 108 true 109 (sFieldAddr 4 (X 14)),
  og 108 true 110 (sLoad 1 false (X 109)),
  og 108 true 111 (sUn .not (X 110)),
  o 112 (sPick (X 108) (X 111) (K (.bool false)))])
 (.ite (X 112)
 (.reg [o 113 (sMov (X 20)),
  o 114 (sMov (X 10)),
  o 115 (sBin .add .none (X 114) (K (.int .u32 1))),
  o 9 (sMov (X 113)),
  o 10 (sMov (X 115))])
 (.skip))))))
 (.seq (.reg [o 117 (sBin .eql .none (X 71) (K (.int .i64 1))),
  o 116 (sMov (X 117))])
 (.ite (X 116)
 (.seq (.reg [o 119 (sMov (X 5)),
  o 120 (sIdxAddrA 3 1 (X 2) (K (.int .i64 1))),
  o 121 (sLoad 1 false (X 120)),
  o 122 (sIdxAddrA 3 1 (X 2) (K (.int .i64 2))),
  o 123 (sLoad 1 false (X 122)),
  o 124 (sMov (X 17)),
  o 125 (sMov (X 10)),
  o 126 (sCall E 8 [(X 119), (X 121), (X 123), (X 124), (X 125)]),
  o 118 (sMov (X 126)),
  o 127 (sExtract (X 118) 0),
  o 128 (sExtract (X 118) 1),
  o 22 (sAlloc [.nilSl, .int .i64 0, .int .u32 0]),
  u (sStore 3 (X 22) (X 127)),
  o 23 (sMov (X 128))])
 (.seq (.reg [o 129 (sMov (X 7)),
  o 130 (sIdxAddrA 3 1 (X 2) (K (.int .i64 1))),
  o 131 (sLoad 1 false (X 130)),
  o 132 (sIdxAddrA 3 1 (X 2) (K (.int .i64 2))),
  o 133 (sLoad 1 false (X 132)),
  o 134 (sMov (X 17)),
  o 135 (sMov (X 10)),
  o 136 (sCall E 20 [(X 129), (X 131), (X 133), (X 134), (X 135)]),
  o 24 (sAlloc [.nilSl, .int .i64 0, .int .u32 0, .int .i64 0]),
  u (sStore 4 (X 24) (X 136))])
 (.seq (.seq (.reg [o 137 (sLoad 3 true (X 22)),
  o 138 (sLoad 4 true (X 24)),
  o 139 (sCall E 21 [(X 137), (X 138)]),
  o 140 (sUn .not (X 139)),
  o 141 (sMov (X 140)),
  og 141 false 142 (sMov (X 23)),
  og 141 false 143 (sFieldAddr 3 (X 24)),
  og 141 false 144 (sLoad 1 false (X 143)),
  og 141 false 145 (sBin .neq .none (X 142) (X 144)),
  o 146 (sPick (X 141) (K (.bool true)) (X 145))])
 (.ite (X 146)
 (.seq (.reg [o 4 (sMov (K (.bool false)))])
 (.ret))
 (.skip)))
 (.seq (.reg [o 148 (sMov (X 5)),
  o 149 (sIdxAddrA 3 1 (X 2) (K (.int .i64 1))),
  o 150 (sLoad 1 false (X 149)),
  o 151 (sIdxAddrA 3 1 (X 2) (K (.int .i64 2))),
  o 152 (sLoad 1 false (X 151)),
  o 153 (sMov (X 11)),
  o 154 (sMov (X 12)),
  o 155 (sCall E 8 [(X 148), (X 150), (X 152), (X 153), (X 154)]),
  o 147 (sMov (X 155)),
  o 156 (sExtract (X 147) 0),
  o 157 (sExtract (X 147) 1),
  u (sStore 3 (X 22) (X 156)),
  o 23 (sMov (X 157))])
 (.seq (.reg [o 158 (sMov (X 7)),
  o 159 (sIdxAddrA 3 1 (X 2) (K (.int .i64 1))),
  o 160 (sLoad 1 false (X 159)),
  o 161 (sIdxAddrA 3 1 (X 2) (K (.int .i64 2))),
  o 162 (sLoad 1 false (X 161)),
  o 163 (sMov (X 11)),
  o 164 (sMov (X 12)),
  o 165 (sCall E 20 [(X 158), (X 160), (X 162), (X 163), (X 164)]),
  u (sStore 4 (X 24) (X 165))])
 (.seq (.reg [o 166 (sLoad 3 true (X 22)),
  o 167 (sLoad 4 true (X 24)),
  o 168 (sCall E 21 [(X 166), (X 167)]),
  o 169 (sUn .not (X 168)),
  o 170 (sMov (X 169)),
  og 170 false 171 (sMov (X 23)),
  og 170 false 172 (sFieldAddr 3 (X 24)),
  og 170 false 173 (sLoad 1 false (X 172)),
  og 170 false 174 (sBin .neq .none (X 171) (X 173)),
  o 175 (sPick (X 170) (K (.bool true)) (X 174))])
 (.ite (X 175)
 (.seq (.reg [o 4 (sMov (K (.bool false)))])
 (.ret))
 (.skip))))))))
 (.seq (.reg [o 177 (sBin .eql .none (X 71) (K (.int .i64 2))),
  o 176 (sMov (X 177))])
 (.ite (X 176)
 (.seq (.reg [o 178 (sMov (X 5)),
  o 179 (sFieldAddr 3 (X 14)),
  o 180 (sLoad 1 false (X 179)),
  o 181 (sCall E 22 [(X 178), (X 180), (K (.nilSl))])])
 (.seq (.reg [o 182 (sMov (X 7)),
  o 183 (sBin .neq .ptr (X 182) (K (.nilPtr)))])
 (.ite (X 183)
 (.reg [o 184 (sMov (X 7)),
  o 185 (sFieldAddr 3 (X 14)),
  o 186 (sLoad 1 false (X 185)),
  o 187 (sCall E 23 [(X 184), (X 186), (K (.nilSl))])])
 (.skip))))
 (.seq (.reg [o 189 (sBin .eql .none (X 71) (K (.int .i64 3))),
  o 188 (sMov (X 189))])
 (.ite (X 188)
 (.seq (.reg [o 190 (sMov (X 7)),
  o 191 (sBin .neq .ptr (X 190) (K (.nilPtr)))])
 (.ite (X 191)
 (.seq (.drw [.op (o 192 (sMov (X 5))),
  .op (o 193 (sFieldAddr 1 (X 14))),
  .rd 2 (o 194 (sLoad 1 false (X 193))),
  .op (o 195 (sFieldAddr 1 (X 14))),
  .op (o 196 (sLoad 1 false (X 195))),
  .op (o 197 (sConv (.int .u8) (X 196))),
  .hv 56 (o 198 (sCall E 24 [(X 197)])),
  .hv 127 (o 199 (sCall E 16 [(X 192), (K (.int .i64 0)), (X 194), (X 198)]))])
 (.drw [.op (o 200 (sMov (X 7))),
  .op (o 201 (sFieldAddr 1 (X 14))),
  .rd 2 (o 202 (sLoad 1 false (X 201))),
  .op (o 203 (sFieldAddr 1 (X 14))),
  .op (o 204 (sLoad 1 false (X 203))),
  .op (o 205 (sConv (.int .u8) (X 204))),
  .hv 56 (o 206 (sCall E 24 [(X 205)])),
  .hv 127 (o 207 (sCall E 25 [(X 200), (K (.int .i64 0)), (X 202), (X 206)]))]))
 (.skip)))
 (.skip))))))))))))))))
 (.reg [o 53 (sMov (X 13)),
  o 54 (sBin .add .none (X 53) (K (.int .i64 1))),
  o 13 (sMov (X 54))]))
noncomputable def l6x1 (E : Env) : CT :=
 .seq (.seq (.reg [o 208 (sMov (X 7)),
  o 209 (sBin .neq .ptr (X 208) (K (.nilPtr))),
  o 210 (sMov (X 209)),
  og 210 true 211 (sMov (X 25)),
  og 210 true 212 (sMov (X 7)),
  og 210 true 213 (sNil (X 212)),
  og 210 true 214 (sFieldAddr 0 (X 213)),
  og 210 true 215 (sIdxAddrA 2 1 (X 214) (K (.int .i64 0))),
  og 210 true 216 (sLoad 1 false (X 215)),
  og 210 true 217 (sNil (X 216)),
  og 210 true 218 (sFieldAddr 0 (X 217)),
  og 210 true 219 (sLoad 1 false (X 218)),
  og 210 true 220 (sLenSl (X 219)),
  og 210 true 221 (sBin .lss .none (X 211) (X 220)),
  o 222 (sPick (X 210) (X 221) (K (.bool false)))])
 (.ite (X 222)
 (.skip)
 (.exit 3)))
 (.seq (.block 4 (.seq (.reg [o 226 (sMov (X 5)),
  o 227 (sMov (X 25)),
  o 228 (sCall E 15 [(X 226), (K (.int .i64 0)), (X 227)]),
  o 225 (sMov (X 228)),
  o 229 (sExtract (X 225) 0),
  o 230 (sExtract (X 225) 1),
  o 26 (sAlloc (rep 64 (.int .u8 0))),
  u (sStore 64 (X 26) (X 229)),
  o 27 (sMov (X 230))])
 (.seq (.drw [.op (o 231 (sMov (X 27))),
  .op (o 232 (sBin .neq .none (X 231) (K (.int .i64 0)))),
  .op (o 233 (sMov (X 232))),
  .rd 3 (og 233 false 234 (sLoad 64 true (X 26))),
  .op (og 233 false 235 (sMov (X 7))),
  .op (og 233 false 236 (sNil (X 235))),
  .op (og 233 false 237 (sFieldAddr 0 (X 236))),
  .op (og 233 false 238 (sIdxAddrA 2 1 (X 237) (K (.int .i64 0)))),
  .op (og 233 false 239 (sLoad 1 false (X 238))),
  .op (og 233 false 240 (sMov (X 25))),
  .hv 1015 (og 233 false 241 (sCall E 26 [(X 239), (X 240)])),
  .op (og 233 false 242 (sBin .neq (.flat 64) (X 234) (X 241))),
  .op (o 243 (sPick (X 233) (K (.bool true)) (X 242)))])
 (.ite (X 243)
 (.seq (.reg [o 4 (sMov (K (.bool false)))])
 (.ret))
 (.skip)))))
 (.reg [o 223 (sMov (X 25)),
  o 224 (sBin .add .none (X 223) (K (.int .i64 1))),
  o 25 (sMov (X 224))]))
noncomputable def b6 (E : Env) : CT :=
 .seq (.reg [o 2 (sBox (X 0)),
  o 4 (sMov (K (.bool false)))])
 (.seq (.seq (.reg [o 28 (sMov (X 1)),
  o 29 (sCall E 17 [(X 28)]),
  o 30 (sUn .not (X 29)),
  o 31 (sMov (X 30)),
  og 31 false 32 (sIdxAddrA 3 1 (X 2) (K (.int .i64 0))),
  og 31 false 33 (sLoad 1 false (X 32)),
  og 31 false 34 (sBin .gtr .none (X 33) (K (.int .i64 60))),
  o 35 (sPick (X 31) (K (.bool true)) (X 34))])
 (.ite (X 35)
 (.seq (.reg [o 36 (sCall E 12 []),
  o 4 (sMov (X 36))])
 (.ret))
 (.skip)))
 (.seq (.reg [o 38 (sIdxAddrA 3 1 (X 2) (K (.int .i64 0))),
  o 39 (sLoad 1 false (X 38)),
  o 40 (sCall E 11 [(X 39), (K (.int .i64 1))]),
  o 37 (sMov (X 40)),
  o 41 (sExtract (X 37) 0),
  o 42 (sExtract (X 37) 1),
  o 5 (sMov (X 41)),
  o 6 (sMov (X 42))])
 (.seq (.reg [o 44 (sIdxAddrA 3 1 (X 2) (K (.int .i64 0))),
  o 45 (sLoad 1 false (X 44)),
  o 46 (sCall E 18 [(X 45), (K (.int .i64 1))]),
  o 43 (sMov (X 46)),
  o 47 (sExtract (X 43) 0),
  o 48 (sExtract (X 43) 1),
  o 7 (sMov (X 47)),
  o 8 (sMov (X 48))])
 (.seq (.reg [o 9 (sMov (K (.int .i64 0))),
  o 10 (sMov (K (.int .u32 1)))])
 (.seq (.reg [o 11 (sMov (K (.int .i64 0))),
  o 12 (sMov (K (.int .u32 1)))])
 (.seq (.seq (.reg [o 13 (sMov (K (.int .i64 0)))])
 (.block 0 (.loop (l6x0 E))))
 (.seq (.seq (.reg [o 25 (sMov (K (.int .i64 0)))])
 (.block 3 (.loop (l6x1 E))))
 (.seq (.reg [o 244 (sCall E 12 []),
  o 4 (sMov (X 244))])
 (.ret)))))))))
theorem c6 (args : T) (h : AHeap) : (envL prog).call 6 args h = trim h (fin [.tmp 4] (runC (envL prog) (b6 (envL prog)) (args ++ List.replicate (245 - args.length) .undef) h)) :=
 call_tr (fn := Go.Proofs.Try.f6) tab6 (by kernel_rfl) (by rfl) (by kernel_rfl) (fun t h => by kernel_rfl) rfl args h
theorem d6 (E : Env) (args : T) (h : AHeap) : callBody prog E 6 args h = trim h (fin [.tmp 4] (runC E (b6 E) (args ++ List.replicate (245 - args.length) .undef) h)) :=
 body_tr (fn := Go.Proofs.Try.f6) tab6 (by kernel_rfl) (by rfl) (by kernel_rfl) (fun t h => by kernel_rfl) rfl args h
def tab8 : Nat → Cert := fun i => ⟨0, 0, 0, 0, 0, 0⟩
noncomputable def l8x0 (E : Env) : CT :=
 .seq (.seq (.reg [o 28 (sFieldAddr 0 (X 13)),
  o 29 (sLoad 1 false (X 28)),
  o 30 (sLenSl (X 29)),
  o 31 (sMov (X 2)),
  o 32 (sBin .lss .none (X 30) (X 31))])
 (.ite (X 32)
 (.skip)
 (.exit 0)))
 (.block 1 (.seq (.reg [o 34 (sLoad 3 true (X 12)),
  o 35 (sFieldAddr 1 (X 13)),
  o 36 (sLoad 1 false (X 35)),
  o 37 (sFieldAddr 2 (X 13)),
  o 38 (sLoad 1 false (X 37)),
  o 39 (sCall E 29 [(X 34), (X 36), (X 38)]),
  o 33 (sMov (X 39)),
  o 40 (sExtract (X 33) 0),
  o 41 (sExtract (X 33) 1),
  o 14 (sMov (X 40)),
  o 15 (sMov (X 41))])
 (.seq (.seq (.reg [o 42 (sMov (X 15)),
  o 43 (sBin .neq .none (X 42) (K (.int .i64 0)))])
 (.ite (X 43)
 (.seq (.reg [o 44 (sBuild [.nilSl, .int .i64 0, .int .u32 0] []),
  o 45 (sMov (X 15)),
  u (sStore 3 (X 10) (X 44)),
  o 11 (sMov (X 45))])
 (.ret))
 (.skip)))
 (.seq (.seq (.reg [o 46 (sMov (X 14)),
  o 47 (sLenSl (X 46)),
  o 48 (sBin .eql .none (X 47) (K (.int .i64 0)))])
 (.ite (X 48)
 (.exit 0)
 (.skip)))
 (.seq (.reg [o 49 (sFieldAddr 0 (X 13)),
  o 50 (sLoad 1 false (X 49)),
  o 51 (sMov (X 14)),
  o 52 (sBuildSl 1 1 [.nilSl] [(0, 1, (X 51))]),
  o 53 (sApp (ty 1 false 24 [.nilSl]) (X 50) (X 52)),
  o 54 (sFieldAddr 0 (X 13)),
  u (sStore 1 (X 54) (X 53))])
 (.seq (.reg [o 55 (sFieldAddr 1 (X 13)),
  o 56 (sLoad 1 false (X 55)),
  o 57 (sMov (X 14)),
  o 58 (sLenSl (X 57)),
  o 59 (sBin .add .none (X 56) (X 58)),
  o 60 (sBin .add .none (X 59) (K (.int .i64 1))),
  o 61 (sMov (X 2)),
  o 62 (sBin .rem .none (X 60) (X 61)),
  o 63 (sFieldAddr 1 (X 13)),
  u (sStore 1 (X 63) (X 62))])
 (.reg [o 64 (sFieldAddr 2 (X 13)),
  o 65 (sLoad 1 false (X 64)),
  o 66 (sBin .add .none (X 65) (K (.int .u32 1))),
  o 67 (sFieldAddr 2 (X 13)),
  u (sStore 1 (X 67) (X 66))])))))))
noncomputable def b8 (E : Env) : CT :=
 .seq (.reg [o 10 (sAlloc [.nilSl, .int .i64 0, .int .u32 0]),
  o 11 (sMov (K (.int .i64 0)))])
 (.seq (.reg [o 16 (sMov (X 0)),
  o 17 (sMov (X 1)),
  o 18 (sMov (X 2)),
  o 19 (sBuild [.nilPtr, .int .i64 0, .int .i64 0] [(0, 1, (X 16)), (1, 1, (X 17)), (2, 1, (X 18))]),
  o 12 (sAlloc [.nilPtr, .int .i64 0, .int .i64 0]),
  u (sStore 3 (X 12) (X 19))])
 (.seq (.seq (.reg [o 20 (sLoad 3 true (X 12)),
  o 21 (sMov (X 3)),
  o 22 (sCall E 28 [(X 20), (X 21)]),
  o 23 (sUn .not (X 22))])
 (.ite (X 23)
 (.seq (.reg [o 24 (sBuild [.nilSl, .int .i64 0, .int .u32 0] []),
  u (sStore 3 (X 10) (X 24)),
  o 11 (sMov (K (.int .i64 1)))])
 (.ret))
 (.skip)))
 (.seq (.reg [o 25 (sMov (X 3)),
  o 26 (sMov (X 4)),
  o 27 (sBuild [.nilSl, .int .i64 0, .int .u32 0] [(1, 1, (X 25)), (2, 1, (X 26))]),
  o 13 (sAlloc [.nilSl, .int .i64 0, .int .u32 0]),
  u (sStore 3 (X 13) (X 27))])
 (.seq (.block 0 (.loop (l8x0 E)))
 (.seq (.reg [o 68 (sLoad 3 true (X 13)),
  u (sStore 3 (X 10) (X 68)),
  o 11 (sMov (K (.int .i64 0)))])
 (.ret))))))
theorem c8 (args : T) (h : AHeap) : (envL prog).call 8 args h = trim h (fin [.cell 10 3 true, .tmp 11] (runC (envL prog) (b8 (envL prog)) (args ++ List.replicate (69 - args.length) .undef) h)) :=
 call_tr (fn := Go.Proofs.Try.f8) tab8 (by kernel_rfl) (by rfl) (by kernel_rfl) (fun t h => by kernel_rfl) rfl args h
def tab9 : Nat → Cert := fun i => ⟨0, 0, 0, 0, 0, 0⟩
noncomputable def l9x0 (E : Env) : CT :=
 .seq (.reg [o 46 (sBin .lss .none (X 45) (X 44))])
 (.seq (.ite (X 46)
 (.skip)
 (.exit 1))
 (.seq (.block 2 (.seq (.reg [o 47 (sIdxAddrS 49 (X 43) (X 45)),
  o 48 (sLoad 49 true (X 47)),
  o 16 (sAlloc ([.int .i64 0] ++ rep 48 (.int .u8 0))),
  u (sStore 49 (X 16) (X 48))])
 (.seq (.reg [o 49 (sFieldAddr 0 (X 16)),
  o 50 (sLoad 1 false (X 49)),
  o 51 (sBin .lss .none (X 50) (K (.int .i64 0))),
  o 52 (sMov (X 51)),
  og 52 false 53 (sFieldAddr 0 (X 16)),
  og 52 false 54 (sLoad 1 false (X 53)),
  og 52 false 55 (sBin .gtr .none (X 54) (K (.int .i64 65535))),
  o 56 (sPick (X 52) (K (.bool true)) (X 55))])
 (.ite (X 56)
 (.seq (.reg [o 12 (sMov (K (.int .i64 0))),
  o 13 (sMov (K (.int .i64 1)))])
 (.ret))
 (.skip)))))
 (.reg [o 57 (sBin .add .none (X 45) (K (.int .i64 1))),
  o 45 (sMov (X 57))])))
noncomputable def l9x1 (E : Env) : CT :=
 .seq (.reg [o 61 (sBin .lss .none (X 60) (X 59))])
 (.seq (.ite (X 61)
 (.skip)
 (.exit 3))
 (.seq (.block 4 (.seq (.reg [o 62 (sMov (X 60)),
  o 63 (sIdxAddrS 49 (X 58) (X 60)),
  o 64 (sLoad 49 true (X 63)),
  o 18 (sAlloc ([.int .i64 0] ++ rep 48 (.int .u8 0))),
  o 17 (sMov (X 62)),
  u (sStore 49 (X 18) (X 64))])
 (.seq (.reg [o 65 (sLoad 3 true (X 14)),
  o 66 (sMov (X 3)),
  o 67 (sMov (X 17)),
  o 68 (sBin .add .none (X 66) (X 67)),
  o 69 (sMov (X 4)),
  o 70 (sFieldAddr 0 (X 18)),
  o 71 (sLoad 1 false (X 70)),
  o 72 (sFieldAddr 1 (X 18)),
  o 73 (sLoad 48 true (X 72)),
  o 74 (sBuild ([.int .u8 0, .int .u32 0, .int .i64 0] ++ rep 48 (.int .u8 0)) [(0, 1, (K (.int .u8 73))), (1, 1, (X 69)), (2, 1, (X 71)), (3, 48, (X 73))]),
  o 75 (sCall E 30 [(X 65), (X 68), (X 74)]),
  o 19 (sMov (X 75))])
 (.seq (.reg [o 76 (sMov (X 19)),
  o 77 (sBin .neq .none (X 76) (K (.int .i64 0)))])
 (.ite (X 77)
 (.seq (.reg [o 78 (sMov (X 19)),
  o 12 (sMov (K (.int .i64 0))),
  o 13 (sMov (X 78))])
 (.ret))
 (.skip))))))
 (.reg [o 79 (sBin .add .none (X 60) (K (.int .i64 1))),
  o 60 (sMov (X 79))])))
noncomputable def b9 (E : Env) : CT :=
 .seq (.reg [o 12 (sMov (K (.int .i64 0))),
  o 13 (sMov (K (.int .i64 0)))])
 (.seq (.reg [o 23 (sMov (X 0)),
  o 24 (sMov (X 1)),
  o 25 (sMov (X 2)),
  o 26 (sBuild [.nilPtr, .int .i64 0, .int .i64 0] [(0, 1, (X 23)), (1, 1, (X 24)), (2, 1, (X 25))]),
  o 14 (sAlloc [.nilPtr, .int .i64 0, .int .i64 0]),
  u (sStore 3 (X 14) (X 26))])
 (.seq (.block 0 (.seq (.reg [o 28 (sLoad 3 true (X 14)),
  o 29 (sMov (X 3)),
  o 30 (sCall E 28 [(X 28), (X 29)]),
  o 31 (sUn .not (X 30)),
  o 27 (sMov (X 31))])
 (.ite (X 27)
 (.seq (.reg [o 12 (sMov (K (.int .i64 0))),
  o 13 (sMov (K (.int .i64 1)))])
 (.ret))
 (.seq (.reg [o 33 (sMov (X 5)),
  o 34 (sLenSl (X 33)),
  o 35 (sBin .lss .none (X 34) (K (.int .i64 1))),
  o 36 (sMov (X 35)),
  og 36 false 37 (sMov (X 5)),
  og 36 false 38 (sLenSl (X 37)),
  og 36 false 39 (sMov (X 2)),
  og 36 false 40 (sBin .sub .none (X 39) (K (.int .i64 1))),
  og 36 false 41 (sBin .gtr .none (X 38) (X 40)),
  o 42 (sPick (X 36) (K (.bool true)) (X 41)),
  o 32 (sMov (X 42))])
 (.ite (X 32)
 (.seq (.reg [o 12 (sMov (K (.int .i64 0))),
  o 13 (sMov (K (.int .i64 2)))])
 (.ret))
 (.skip))))))
 (.seq (.seq (.reg [o 43 (sMov (X 5)),
  o 44 (sLenSl (X 43)),
  o 45 (sMov (K (.int .i64 0)))])
 (.block 1 (.loop (l9x0 E))))
 (.seq (.seq (.reg [o 58 (sMov (X 5)),
  o 59 (sLenSl (X 58)),
  o 60 (sMov (K (.int .i64 0)))])
 (.block 3 (.loop (l9x1 E))))
 (.seq (.seq (.reg [o 80 (sMov (X 0)),
  o 81 (sCall E 31 [(X 80), (K (.int .i64 0))]),
  o 20 (sMov (X 81))])
 (.seq (.reg [o 82 (sMov (X 20)),
  o 83 (sBin .neq .none (X 82) (K (.int .i64 0)))])
 (.ite (X 83)
 (.seq (.reg [o 84 (sMov (X 20)),
  o 12 (sMov (K (.int .i64 0))),
  o 13 (sMov (X 84))])
 (.ret))
 (.skip))))
 (.seq (.seq (.reg [o 85 (sLoad 3 true (X 14)),
  o 86 (sMov (X 3)),
  o 87 (sMov (X 5)),
  o 88 (sLenSl (X 87)),
  o 89 (sBin .add .none (X 86) (X 88)),
  o 90 (sMov (X 4)),
  o 91 (sMov (X 5)),
  o 92 (sLenSl (X 91)),
  o 93 (sBuild ([.int .u8 0, .int .u32 0, .int .i64 0] ++ rep 48 (.int .u8 0)) [(0, 1, (K (.int .u8 67))), (1, 1, (X 90)), (2, 1, (X 92))]),
  o 94 (sCall E 30 [(X 85), (X 89), (X 93)]),
  o 21 (sMov (X 94))])
 (.seq (.reg [o 95 (sMov (X 21)),
  o 96 (sBin .neq .none (X 95) (K (.int .i64 0)))])
 (.ite (X 96)
 (.seq (.reg [o 97 (sMov (X 21)),
  o 12 (sMov (K (.int .i64 0))),
  o 13 (sMov (X 97))])
 (.ret))
 (.skip))))
 (.seq (.seq (.reg [o 98 (sMov (X 0)),
  o 99 (sCall E 31 [(X 98), (K (.int .i64 0))]),
  o 22 (sMov (X 99))])
 (.seq (.reg [o 100 (sMov (X 22)),
  o 101 (sBin .neq .none (X 100) (K (.int .i64 0)))])
 (.ite (X 101)
 (.seq (.reg [o 102 (sMov (X 22)),
  o 12 (sMov (K (.int .i64 0))),
  o 13 (sMov (X 102))])
 (.ret))
 (.skip))))
 (.seq (.reg [o 103 (sMov (X 3)),
  o 104 (sMov (X 5)),
  o 105 (sLenSl (X 104)),
  o 106 (sBin .add .none (X 103) (X 105)),
  o 107 (sBin .add .none (X 106) (K (.int .i64 1))),
  o 108 (sMov (X 2)),
  o 109 (sBin .rem .none (X 107) (X 108)),
  o 12 (sMov (X 109)),
  o 13 (sMov (K (.int .i64 0)))])
 (.ret)))))))))
theorem c9 (args : T) (h : AHeap) : (envL prog).call 9 args h = trim h (fin [.tmp 12, .tmp 13] (runC (envL prog) (b9 (envL prog)) (args ++ List.replicate (110 - args.length) .undef) h)) :=
 call_tr (fn := Go.Proofs.Try.f9) tab9 (by kernel_rfl) (by rfl) (by kernel_rfl) (fun t h => by kernel_rfl) rfl args h
def tab10 : Nat → Cert := fun i => ⟨0, 0, 0, 0, 0, 0⟩
noncomputable def l10x0 (E : Env) : CT :=
 .seq (.seq (.reg [o 9 (sMov (X 6)),
  o 10 (sBin .lss .none (X 9) (K (.int .i64 48)))])
 (.ite (X 10)
 (.skip)
 (.exit 0)))
 (.seq (.block 1 (.reg [o 13 (sMov (X 6)),
  o 14 (sMov (X 1)),
  o 15 (sFieldAddr 1 (X 5)),
  o 16 (sIdxAddrA 48 1 (X 15) (X 13)),
  u (sStore 1 (X 16) (X 14))]))
 (.reg [o 11 (sMov (X 6)),
  o 12 (sBin .add .none (X 11) (K (.int .i64 1))),
  o 6 (sMov (X 12))]))
noncomputable def b10 (E : Env) : CT :=
 .seq (.reg [o 4 (sAlloc ([.int .i64 0] ++ rep 48 (.int .u8 0)))])
 (.seq (.reg [o 7 (sMov (X 0)),
  o 8 (sBuild ([.int .i64 0] ++ rep 48 (.int .u8 0)) [(0, 1, (X 7))]),
  o 5 (sAlloc ([.int .i64 0] ++ rep 48 (.int .u8 0))),
  u (sStore 49 (X 5) (X 8))])
 (.seq (.seq (.reg [o 6 (sMov (K (.int .i64 0)))])
 (.block 0 (.loop (l10x0 E))))
 (.seq (.reg [o 17 (sLoad 49 true (X 5)),
  u (sStore 49 (X 4) (X 17))])
 (.ret))))
theorem c10 (args : T) (h : AHeap) : (envL prog).call 10 args h = trim h (fin [.cell 4 49 true] (runC (envL prog) (b10 (envL prog)) (args ++ List.replicate (18 - args.length) .undef) h)) :=
 call_tr (fn := Go.Proofs.Try.f10) tab10 (by kernel_rfl) (by rfl) (by kernel_rfl) (fun t h => by kernel_rfl) rfl args h
def tab11 : Nat → Cert := fun i => ⟨0, 0, 0, 0, 0, 0⟩
noncomputable def l11x0 (E : Env) : CT :=
 .seq (.reg [o 17 (sBin .lss .none (X 16) (K (.int .i64 2)))])
 (.seq (.ite (X 17)
 (.skip)
 (.exit 0))
 (.seq (.block 1 (.seq (.reg [o 18 (sMov (X 16)),
  o 19 (sIdxA 2 1 false (X 15) (X 16)),
  o 7 (sMov (X 18)),
  o 8 (sMov (X 19))])
 (.seq (.reg [o 21 (sMov (X 8)),
  o 22 (sCall E 32 [(X 21)]),
  o 20 (sMov (X 22)),
  o 23 (sExtract (X 20) 0),
  o 24 (sExtract (X 20) 1),
  o 9 (sMov (X 23)),
  o 10 (sMov (X 24))])
 (.seq (.seq (.reg [o 25 (sMov (X 10)),
  o 26 (sBin .neq .none (X 25) (K (.int .i64 0)))])
 (.ite (X 26)
 (.seq (.reg [o 27 (sMov (X 10)),
  o 4 (sMov (K (.nilPtr))),
  o 5 (sMov (X 27))])
 (.ret))
 (.skip)))
 (.reg [o 28 (sMov (X 6)),
  o 29 (sMov (X 7)),
  o 30 (sMov (X 9)),
  o 31 (sNil (X 28)),
  o 32 (sFieldAddr 0 (X 31)),
  o 33 (sIdxAddrA 2 1 (X 32) (X 29)),
  u (sStore 1 (X 33) (X 30))])))))
 (.reg [o 34 (sBin .add .none (X 16) (K (.int .i64 1))),
  o 16 (sMov (X 34))])))
noncomputable def b11 (E : Env) : CT :=
 .seq (.reg [o 4 (sMov (K (.nilPtr))),
  o 5 (sMov (K (.int .i64 0)))])
 (.seq (.reg [o 11 (sBuild [.nilPtr, .nilPtr, .int .i64 0, .bool false, .int .i64 0] [(2, 1, (K (.int .i64 (-1))))]),
  o 12 (sBox (X 11)),
  o 6 (sMov (X 12))])
 (.seq (.seq (.reg [o 13 (sMov (X 0)),
  o 14 (sMov (X 1)),
  o 15 (sBuild [.int .i64 0, .int .i64 0] [(0, 1, (X 13)), (1, 1, (X 14))]),
  o 16 (sMov (K (.int .i64 0)))])
 (.block 0 (.loop (l11x0 E))))
 (.seq (.reg [o 35 (sMov (X 6)),
  o 4 (sMov (X 35)),
  o 5 (sMov (K (.int .i64 0)))])
 (.ret))))
theorem c11 (args : T) (h : AHeap) : (envL prog).call 11 args h = trim h (fin [.tmp 4, .tmp 5] (runC (envL prog) (b11 (envL prog)) (args ++ List.replicate (36 - args.length) .undef) h)) :=
 call_tr (fn := Go.Proofs.Try.f11) tab11 (by kernel_rfl) (by rfl) (by kernel_rfl) (fun t h => by kernel_rfl) rfl args h
def tab14 : Nat → Cert := fun i => bif Nat.beq i 6 then ⟨14, 26, 50210683924680097807505143525664706291779201309630114299904, 50210683947676581673795836056041029200499467758053137317888, 18788412334022417631368013541684457726328543619869426575845824943787756479078848170586425128493626132313145345, 66749598105129523055293959821920039509527030732593109364597154293123239645268581604091926413327⟩ else bif Nat.beq i 7 then ⟨14, 38, 50211455784799505812712409306415519660942895852199501365248, 50212216069073028405942548852003447555403350727914720067584, 7029552803973844244095123774527830164658304840060254688881500662287439962546942873154830311874177371462084737197401121068782855367063122009605685289472673972240, 306880369491193653880860633907348212265028584033732577412464913808326313253136531284896768531135167214835155408608561991831910078446386747276825460763⟩ else ⟨0, 0, 0, 0, 0, 0⟩
noncomputable def l14x0 (E : Env) : CT :=
 .seq (.seq (.reg [o 8 (sMov (X 6)),
  o 9 (sMov (X 0)),
  o 10 (sLenSl (X 9)),
  o 11 (sBin .lss .none (X 8) (X 10))])
 (.ite (X 11)
 (.skip)
 (.exit 0)))
 (.seq (.block 1 (.seq (.drw [.op (o 14 (sMov (X 0))),
  .op (o 15 (sMov (X 6))),
  .op (o 16 (sIdxAddrS 2 (X 14) (X 15))),
  .op (o 17 (sIdxAddrA 2 1 (X 16) (K (.int .i64 0)))),
  .op (o 18 (sLoad 1 false (X 17))),
  .op (o 19 (sMov (X 0))),
  .op (o 20 (sMov (X 6))),
  .op (o 21 (sIdxAddrS 2 (X 19) (X 20))),
  .op (o 22 (sIdxAddrA 2 1 (X 21) (K (.int .i64 1)))),
  .op (o 23 (sLoad 1 false (X 22))),
  .op (o 24 (sConv (.int .u8) (X 23))),
  .op (o 7 (sAlloc ([.int .i64 0] ++ rep 48 (.int .u8 0)))),
  .hv 2047 (o 25 (sCall E 10 [(X 18), (X 24)])),
  .hv 8191 (u (sStore 49 (X 7) (X 25)))])
 (.drw [.op (o 26 (sMov (X 4))),
  .op (o 27 (sLoad 49 true (X 7))),
  .op (o 28 (sBuildSl 49 1 ([.int .i64 0] ++ rep 48 (.int .u8 0)) [(0, 49, (X 27))])),
  .op (o 30 (sMov (X 5))),
  .op (o 31 (sFieldAddr 0 (X 7))),
  .rd 6 (o 32 (sLoad 1 false (X 31))),
  .op (o 33 (sFieldAddr 1 (X 7))),
  .rd 8 (o 34 (sLoad 48 true (X 33))),
  .op (o 35 (sBuild ([.int .i64 0] ++ rep 48 (.int .u8 0)) [(0, 1, (X 32)), (1, 48, (X 34))])),
  .op (o 36 (sBuildSl 49 1 ([.int .i64 0] ++ rep 48 (.int .u8 0)) [(0, 49, (X 35))])),
  .hv 7 (o 29 (sApp (ty 49 true 56 ([.int .i64 0] ++ rep 48 (.int .u8 0))) (X 26) (X 28))),
  .hv 2047 (o 37 (sApp (ty 49 true 56 ([.int .i64 0] ++ rep 48 (.int .u8 0))) (X 30) (X 36))),
  .op (o 4 (sMov (X 29))),
  .op (o 5 (sMov (X 37)))])))
 (.reg [o 12 (sMov (X 6)),
  o 13 (sBin .add .none (X 12) (K (.int .i64 1))),
  o 6 (sMov (X 13))]))
noncomputable def b14 (E : Env) : CT :=
 .seq (.reg [o 2 (sMov (K (.nilSl))),
  o 3 (sMov (K (.nilSl)))])
 (.seq (.reg [o 4 (sMov (K (.nilSl)))])
 (.seq (.reg [o 5 (sMov (K (.nilSl)))])
 (.seq (.seq (.reg [o 6 (sMov (K (.int .i64 0)))])
 (.block 0 (.loop (l14x0 E))))
 (.seq (.reg [o 38 (sMov (X 4)),
  o 39 (sMov (X 5)),
  o 2 (sMov (X 38)),
  o 3 (sMov (X 39))])
 (.ret)))))
theorem c14 (args : T) (h : AHeap) : (envL prog).call 14 args h = trim h (fin [.tmp 2, .tmp 3] (runC (envL prog) (b14 (envL prog)) (args ++ List.replicate (40 - args.length) .undef) h)) :=
 call_tr (fn := Go.Proofs.Try.f14) tab14 (by kernel_rfl) (by rfl) (by kernel_rfl) (fun t h => by kernel_rfl) rfl args h
def tab15 : Nat → Cert := fun i => ⟨0, 0, 0, 0, 0, 0⟩
noncomputable def b15 (E : Env) : CT :=
 .seq (.reg [o 6 (sAlloc (rep 64 (.int .u8 0))),
  o 7 (sMov (K (.int .i64 0)))])
 (.seq (.reg [o 9 (sMov (X 0)),
  o 10 (sMov (X 1)),
  o 11 (sCall E 33 [(X 9), (X 10)]),
  o 8 (sMov (X 11))])
 (.seq (.block 0 (.seq (.reg [o 13 (sMov (X 2)),
  o 14 (sBin .lss .none (X 13) (K (.int .i64 0))),
  o 15 (sMov (X 14)),
  og 15 false 16 (sMov (X 2)),
  og 15 false 17 (sMov (X 8)),
  og 15 false 18 (sCall E 34 [(X 17)]),
  og 15 false 19 (sBin .geq .none (X 16) (X 18)),
  o 20 (sPick (X 15) (K (.bool true)) (X 19)),
  o 12 (sMov (X 20))])
 (.ite (X 12)
 (.seq (.reg [o 21 (sBuild (rep 64 (.int .u8 0)) []),
  u (sStore 64 (X 6) (X 21)),
  o 7 (sMov (K (.int .i64 1)))])
 (.ret))
 (.seq (.reg [o 23 (sMov (X 0)),
  o 24 (sNil (X 23)),
  o 25 (sFieldAddr 3 (X 24)),
  o 26 (sLoad 1 false (X 25)),
  o 22 (sMov (X 26))])
 (.ite (X 22)
 (.seq (.reg [o 27 (sBuild (rep 64 (.int .u8 0)) []),
  u (sStore 64 (X 6) (X 27)),
  o 7 (sMov (K (.int .i64 14)))])
 (.ret))
 (.skip))))))
 (.seq (.reg [o 28 (sMov (X 8)),
  o 29 (sMov (X 2)),
  o 30 (sCall E 35 [(X 28), (X 29)]),
  o 31 (sExtract (X 30) 0),
  o 32 (sExtract (X 30) 1),
  u (sStore 64 (X 6) (X 31)),
  o 7 (sMov (X 32))])
 (.ret))))
theorem c15 (args : T) (h : AHeap) : (envL prog).call 15 args h = trim h (fin [.cell 6 64 true, .tmp 7] (runC (envL prog) (b15 (envL prog)) (args ++ List.replicate (33 - args.length) .undef) h)) :=
 call_tr (fn := Go.Proofs.Try.f15) tab15 (by kernel_rfl) (by rfl) (by kernel_rfl) (fun t h => by kernel_rfl) rfl args h
def tab16 : Nat → Cert := fun i => ⟨0, 0, 0, 0, 0, 0⟩
noncomputable def b16 (E : Env) : CT :=
 .seq (.reg [o 7 (sBox (X 3)),
  o 8 (sMov (K (.int .i64 0)))])
 (.seq (.reg [o 11 (sMov (X 0)),
  o 12 (sMov (X 1)),
  o 13 (sCall E 33 [(X 11), (X 12)]),
  o 9 (sMov (X 13))])
 (.seq (.seq (.reg [o 14 (sMov (X 2)),
  o 15 (sBin .lss .none (X 14) (K (.int .i64 0))),
  o 16 (sMov (X 15)),
  og 16 false 17 (sMov (X 2)),
  og 16 false 18 (sMov (X 9)),
  og 16 false 19 (sCall E 34 [(X 18)]),
  og 16 false 20 (sBin .geq .none (X 17) (X 19)),
  o 21 (sPick (X 16) (K (.bool true)) (X 20))])
 (.ite (X 21)
 (.seq (.reg [o 8 (sMov (K (.int .i64 1)))])
 (.ret))
 (.skip)))
 (.seq (.seq (.reg [o 22 (sMov (X 0)),
  o 23 (sCall E 36 [(X 22)]),
  o 10 (sMov (X 23))])
 (.seq (.reg [o 24 (sMov (X 10)),
  o 25 (sBin .neq .none (X 24) (K (.int .i64 0)))])
 (.ite (X 25)
 (.seq (.reg [o 26 (sMov (X 10)),
  o 8 (sMov (X 26))])
 (.ret))
 (.skip))))
 (.seq (.reg [o 27 (sMov (X 9)),
  o 28 (sMov (X 2)),
  o 29 (sLoad 64 true (X 7)),
  o 30 (sCall E 37 [(X 27), (X 28), (X 29)]),
  o 8 (sMov (X 30))])
 (.ret)))))
theorem c16 (args : T) (h : AHeap) : (envL prog).call 16 args h = trim h (fin [.tmp 8] (runC (envL prog) (b16 (envL prog)) (args ++ List.replicate (31 - args.length) .undef) h)) :=
 call_tr (fn := Go.Proofs.Try.f16) tab16 (by kernel_rfl) (by rfl) (by kernel_rfl) (fun t h => by kernel_rfl) rfl args h
def tab17 : Nat → Cert := fun i => ⟨0, 0, 0, 0, 0, 0⟩
noncomputable def l17x0 (E : Env) : CT :=
 .seq (.seq (.reg [o 4 (sMov (X 3)),
  o 5 (sMov (X 0)),
  o 6 (sLenSl (X 5)),
  o 7 (sBin .lss .none (X 4) (X 6))])
 (.ite (X 7)
 (.skip)
 (.exit 0)))
 (.seq (.block 1 (.seq (.reg [o 10 (sMov (X 0)),
  o 11 (sMov (X 3)),
  o 12 (sIdxAddrS 5 (X 10) (X 11)),
  o 13 (sFieldAddr 2 (X 12)),
  o 14 (sLoad 1 false (X 13)),
  o 15 (sLenSl (X 14)),
  o 16 (sBin .gtr .none (X 15) (K (.int .i64 300))),
  o 17 (sMov (X 16)),
  og 17 false 18 (sMov (X 0)),
  og 17 false 19 (sMov (X 3)),
  og 17 false 20 (sIdxAddrS 5 (X 18) (X 19)),
  og 17 false 21 (sFieldAddr 3 (X 20)),
  og 17 false 22 (sLoad 1 false (X 21)),
  og 17 false 23 (sLenSl (X 22)),
  og 17 false 24 (sBin .gtr .none (X 23) (K (.int .i64 300))),
  o 25 (sPick (X 17) (K (.bool true)) (X 24))])
 (.ite (X 25)
 (.seq (.reg [o 2 (sMov (K (.bool false)))])
 (.ret))
 (.skip))))
 (.reg [o 8 (sMov (X 3)),
  o 9 (sBin .add .none (X 8) (K (.int .i64 1))),
  o 3 (sMov (X 9))]))
noncomputable def b17 (E : Env) : CT :=
 .seq (.reg [o 2 (sMov (K (.bool false)))])
 (.seq (.seq (.reg [o 3 (sMov (K (.int .i64 0)))])
 (.block 0 (.loop (l17x0 E))))
 (.seq (.reg [o 26 (sMov (X 0)),
  o 27 (sLenSl (X 26)),
  o 28 (sBin .leq .none (X 27) (K (.int .i64 60))),
  o 2 (sMov (X 28))])
 (.ret)))
theorem c17 (args : T) (h : AHeap) : (envL prog).call 17 args h = trim h (fin [.tmp 2] (runC (envL prog) (b17 (envL prog)) (args ++ List.replicate (29 - args.length) .undef) h)) :=
 call_tr (fn := Go.Proofs.Try.f17) tab17 (by kernel_rfl) (by rfl) (by kernel_rfl) (fun t h => by kernel_rfl) rfl args h
def tab18 : Nat → Cert := fun i => ⟨0, 0, 0, 0, 0, 0⟩
noncomputable def b18 (E : Env) : CT :=
 .seq (.reg [o 4 (sMov (K (.nilPtr))),
  o 5 (sMov (K (.int .i64 0)))])
 (.seq (.reg [o 11 (sMov (X 0)),
  o 12 (sCall E 38 [(X 11)]),
  o 10 (sMov (X 12)),
  o 13 (sExtract (X 10) 0),
  o 14 (sExtract (X 10) 1),
  o 6 (sMov (X 13)),
  o 7 (sMov (X 14))])
 (.seq (.reg [o 16 (sMov (X 1)),
  o 17 (sCall E 38 [(X 16)]),
  o 15 (sMov (X 17)),
  o 18 (sExtract (X 15) 0),
  o 19 (sExtract (X 15) 1),
  o 8 (sMov (X 18)),
  o 9 (sMov (X 19))])
 (.seq (.seq (.reg [o 20 (sMov (X 7)),
  o 21 (sBin .neq .none (X 20) (K (.int .i64 0))),
  o 22 (sMov (X 21)),
  og 22 false 23 (sMov (X 9)),
  og 22 false 24 (sBin .neq .none (X 23) (K (.int .i64 0))),
  o 25 (sPick (X 22) (K (.bool true)) (X 24))])
 (.ite (X 25)
 (.seq (.reg [o 4 (sMov (K (.nilPtr))),
  o 5 (sMov (K (.int .i64 1)))])
 (.ret))
 (.skip)))
 (.seq (.reg [o 26 (sMov (X 6)),
  o 27 (sMov (X 8)),
  o 28 (sBuild [.nilPtr, .nilPtr] [(0, 1, (X 26)), (1, 1, (X 27))]),
  o 29 (sBuild [.nilPtr, .nilPtr, .int .i64 0, .bool false, .int .i64 0] [(0, 2, (X 28)), (2, 1, (K (.int .i64 (-1))))]),
  o 30 (sBox (X 29)),
  o 4 (sMov (X 30)),
  o 5 (sMov (K (.int .i64 0)))])
 (.ret)))))
theorem c18 (args : T) (h : AHeap) : (envL prog).call 18 args h = trim h (fin [.tmp 4, .tmp 5] (runC (envL prog) (b18 (envL prog)) (args ++ List.replicate (31 - args.length) .undef) h)) :=
 call_tr (fn := Go.Proofs.Try.f18) tab18 (by kernel_rfl) (by rfl) (by kernel_rfl) (fun t h => by kernel_rfl) rfl args h
def tab19 : Nat → Cert := fun i => bif Nat.beq i 15 then ⟨13, 84, 374064861945156215706255622883065951088762920370176, 374075901423847391358931247571444435770545375543296, 26529268145495817368878040106493534482800268618517853972524189562955917350931667704853210312282021455806659005356679534352771097459585278399557933241979121575291892099121644317634242116566270133821436942001300265371181746424924555338280283272200317319929208969704741780980850517031721863081966095500728775479346608711915374903312, 11912290602887513854507184622324023264762561454436856177569424010605754415975463363491228202888099573443816902394826733797562758262068980988268486495764438175465865216678349026084999710088723609394091581618824837727637376389173100908610879043806889519716639848842273693365702754377⟩ else bif Nat.beq i 20 then ⟨11, 104, 1328173944320803279943356500722843648, 1328253806317685487486476049893556224, 119477202134466932562563268982828114689977686964054455652902990037646169453268219940635193453933189861553081773860486357103457136403008387667398450853966248613370695324286581540613118572669555105546259614663069838636096881146733212080697522414255081698347025447433888994481648658274534496417958011001447726533646794034169387349743391805903208449, 247408596301307144190790264465514412440921162450048478745489132433878977521988950472202724066264405239713078701453171883036224114231894379622064792967714030561169585094033533068397647260675082721708782786732088310980769351643271628445097347623605915566761660696791280479834568401149133815856338084977085126694404191⟩ else ⟨0, 0, 0, 0, 0, 0⟩
noncomputable def l19x0 (E : Env) : CT :=
 .seq (.seq (.reg [o 38 (sMov (X 14)),
  o 39 (sMov (X 5)),
  o 40 (sLenSl (X 39)),
  o 41 (sBin .lss .none (X 38) (X 40))])
 (.ite (X 41)
 (.skip)
 (.exit 0)))
 (.seq (.block 1 (.seq (.reg [o 44 (sMov (X 5)),
  o 45 (sMov (X 14)),
  o 46 (sIdxAddrS 49 (X 44) (X 45)),
  o 47 (sFieldAddr 0 (X 46)),
  o 48 (sLoad 1 false (X 47)),
  o 49 (sBin .lss .none (X 48) (K (.int .i64 0))),
  o 50 (sMov (X 49)),
  og 50 false 51 (sMov (X 5)),
  og 50 false 52 (sMov (X 14)),
  og 50 false 53 (sIdxAddrS 49 (X 51) (X 52)),
  og 50 false 54 (sFieldAddr 0 (X 53)),
  og 50 false 55 (sLoad 1 false (X 54)),
  og 50 false 56 (sBin .gtr .none (X 55) (K (.int .i64 65535))),
  o 57 (sPick (X 50) (K (.bool true)) (X 56))])
 (.ite (X 57)
 (.seq (.reg [o 12 (sMov (K (.int .i64 0))),
  o 13 (sMov (K (.int .i64 1)))])
 (.ret))
 (.skip))))
 (.reg [o 42 (sMov (X 14)),
  o 43 (sBin .add .none (X 42) (K (.int .i64 1))),
  o 14 (sMov (X 43))]))
noncomputable def l19x1 (E : Env) : CT :=
 .seq (.seq (.reg [o 58 (sMov (X 15)),
  o 59 (sMov (X 5)),
  o 60 (sLenSl (X 59)),
  o 61 (sBin .leq .none (X 58) (X 60))])
 (.ite (X 61)
 (.skip)
 (.exit 2)))
 (.seq (.block 3 (.seq (.reg [o 64 (sMov (X 4)),
  o 65 (sMov (X 5)),
  o 66 (sLenSl (X 65)),
  o 67 (sBuild ([.int .u8 0, .int .u32 0, .int .i64 0] ++ rep 48 (.int .u8 0)) [(0, 1, (K (.int .u8 67))), (1, 1, (X 64)), (2, 1, (X 66))]),
  o 16 (sAlloc ([.int .u8 0, .int .u32 0, .int .i64 0] ++ rep 48 (.int .u8 0))),
  u (sStore 51 (X 16) (X 67))])
 (.seq (.seq (.reg [o 68 (sMov (X 15)),
  o 69 (sMov (X 5)),
  o 70 (sLenSl (X 69)),
  o 71 (sBin .lss .none (X 68) (X 70))])
 (.ite (X 71)
 (.drw [.op (o 72 (sMov (X 4))),
  .op (o 73 (sMov (X 5))),
  .op (o 74 (sMov (X 15))),
  .op (o 75 (sIdxAddrS 49 (X 73) (X 74))),
  .op (o 76 (sFieldAddr 0 (X 75))),
  .op (o 77 (sLoad 1 false (X 76))),
  .op (o 78 (sMov (X 5))),
  .op (o 79 (sMov (X 15))),
  .op (o 80 (sIdxAddrS 49 (X 78) (X 79))),
  .op (o 81 (sFieldAddr 1 (X 80))),
  .op (o 82 (sLoad 48 true (X 81))),
  .op (o 83 (sBuild ([.int .u8 0, .int .u32 0, .int .i64 0] ++ rep 48 (.int .u8 0)) [(0, 1, (K (.int .u8 73))), (1, 1, (X 72)), (2, 1, (X 77)), (3, 48, (X 82))])),
  .hv 4095 (u (sStore 51 (X 16) (X 83)))])
 (.seq (.reg [o 84 (sMov (X 0)),
  o 85 (sCall E 40 [(X 84), (K (.int .i64 0))]),
  o 17 (sMov (X 85))])
 (.seq (.reg [o 86 (sMov (X 17)),
  o 87 (sBin .neq .none (X 86) (K (.int .i64 0)))])
 (.ite (X 87)
 (.seq (.reg [o 88 (sMov (X 17)),
  o 12 (sMov (K (.int .i64 0))),
  o 13 (sMov (X 88))])
 (.ret))
 (.skip))))))
 (.seq (.reg [o 90 (sLoad 51 true (X 16)),
  o 91 (sCall E 41 [(X 90)]),
  o 89 (sMov (X 91)),
  o 92 (sExtract (X 89) 0),
  o 93 (sExtract (X 89) 1),
  o 18 (sAlloc (rep 64 (.int .u8 0))),
  u (sStore 64 (X 18) (X 92)),
  o 19 (sMov (X 93))])
 (.seq (.drw [.op (o 94 (sMov (X 0))),
  .op (o 95 (sMov (X 1))),
  .op (o 96 (sMov (X 3))),
  .op (o 97 (sMov (X 15))),
  .op (o 98 (sBin .add .none (X 96) (X 97))),
  .op (o 99 (sMov (X 2))),
  .op (o 100 (sBin .rem .none (X 98) (X 99))),
  .op (o 101 (sBin .add .none (X 95) (X 100))),
  .op (o 102 (sLoad 64 true (X 18))),
  .hv 511 (o 103 (sCall E 25 [(X 94), (K (.int .i64 0)), (X 101), (X 102)])),
  .op (o 20 (sMov (X 103)))])
 (.seq (.reg [o 104 (sMov (X 20)),
  o 105 (sBin .neq .none (X 104) (K (.int .i64 0)))])
 (.ite (X 105)
 (.seq (.reg [o 106 (sMov (X 20)),
  o 12 (sMov (K (.int .i64 0))),
  o 13 (sMov (X 106))])
 (.ret))
 (.skip))))))))
 (.reg [o 62 (sMov (X 15)),
  o 63 (sBin .add .none (X 62) (K (.int .i64 1))),
  o 15 (sMov (X 63))]))
noncomputable def b19 (E : Env) : CT :=
 .seq (.reg [o 12 (sMov (K (.int .i64 0))),
  o 13 (sMov (K (.int .i64 0)))])
 (.seq (.seq (.reg [o 22 (sMov (X 0)),
  o 23 (sMov (X 1)),
  o 24 (sMov (X 2)),
  o 25 (sMov (X 3)),
  o 26 (sCall E 39 [(X 22), (X 23), (X 24), (X 25)]),
  o 27 (sUn .not (X 26))])
 (.ite (X 27)
 (.seq (.reg [o 12 (sMov (K (.int .i64 0))),
  o 13 (sMov (K (.int .i64 1)))])
 (.ret))
 (.skip)))
 (.seq (.seq (.reg [o 28 (sMov (X 5)),
  o 29 (sLenSl (X 28)),
  o 30 (sBin .lss .none (X 29) (K (.int .i64 1))),
  o 31 (sMov (X 30)),
  og 31 false 32 (sMov (X 5)),
  og 31 false 33 (sLenSl (X 32)),
  og 31 false 34 (sMov (X 2)),
  og 31 false 35 (sBin .sub .none (X 34) (K (.int .i64 1))),
  og 31 false 36 (sBin .gtr .none (X 33) (X 35)),
  o 37 (sPick (X 31) (K (.bool true)) (X 36))])
 (.ite (X 37)
 (.seq (.reg [o 12 (sMov (K (.int .i64 0))),
  o 13 (sMov (K (.int .i64 2)))])
 (.ret))
 (.skip)))
 (.seq (.seq (.reg [o 14 (sMov (K (.int .i64 0)))])
 (.block 0 (.loop (l19x0 E))))
 (.seq (.seq (.reg [o 15 (sMov (K (.int .i64 0)))])
 (.block 2 (.loop (l19x1 E))))
 (.seq (.seq (.reg [o 107 (sMov (X 0)),
  o 108 (sCall E 40 [(X 107), (K (.int .i64 0))]),
  o 21 (sMov (X 108))])
 (.seq (.reg [o 109 (sMov (X 21)),
  o 110 (sBin .neq .none (X 109) (K (.int .i64 0)))])
 (.ite (X 110)
 (.seq (.reg [o 111 (sMov (X 21)),
  o 12 (sMov (K (.int .i64 0))),
  o 13 (sMov (X 111))])
 (.ret))
 (.skip))))
 (.seq (.reg [o 112 (sMov (X 3)),
  o 113 (sMov (X 5)),
  o 114 (sLenSl (X 113)),
  o 115 (sBin .add .none (X 112) (X 114)),
  o 116 (sBin .add .none (X 115) (K (.int .i64 1))),
  o 117 (sMov (X 2)),
  o 118 (sBin .rem .none (X 116) (X 117)),
  o 12 (sMov (X 118)),
  o 13 (sMov (K (.int .i64 0)))])
 (.ret)))))))
theorem c19 (args : T) (h : AHeap) : (envL prog).call 19 args h = trim h (fin [.tmp 12, .tmp 13] (runC (envL prog) (b19 (envL prog)) (args ++ List.replicate (119 - args.length) .undef) h)) :=
 call_tr (fn := Go.Proofs.Try.f19) tab19 (by kernel_rfl) (by rfl) (by kernel_rfl) (fun t h => by kernel_rfl) rfl args h
def tab20 : Nat → Cert := fun i => ⟨0, 0, 0, 0, 0, 0⟩
noncomputable def l20x0 (E : Env) : CT :=
 .seq (.seq (.reg [o 24 (sFieldAddr 0 (X 11)),
  o 25 (sLoad 1 false (X 24)),
  o 26 (sLenSl (X 25)),
  o 27 (sMov (X 2)),
  o 28 (sBin .lss .none (X 26) (X 27))])
 (.ite (X 28)
 (.skip)
 (.exit 0)))
 (.block 1 (.seq (.reg [o 30 (sMov (X 0)),
  o 31 (sMov (X 1)),
  o 32 (sMov (X 2)),
  o 33 (sFieldAddr 1 (X 11)),
  o 34 (sLoad 1 false (X 33)),
  o 35 (sFieldAddr 2 (X 11)),
  o 36 (sLoad 1 false (X 35)),
  o 37 (sCall E 42 [(X 30), (X 31), (X 32), (X 34), (X 36)]),
  o 29 (sMov (X 37)),
  o 38 (sExtract (X 29) 0),
  o 39 (sExtract (X 29) 1),
  o 12 (sMov (X 38)),
  o 13 (sMov (X 39))])
 (.seq (.seq (.reg [o 40 (sMov (X 13)),
  o 41 (sBin .neq .none (X 40) (K (.int .i64 0)))])
 (.ite (X 41)
 (.seq (.reg [o 42 (sMov (X 13)),
  o 43 (sBuild [.nilSl, .int .i64 0, .int .u32 0, .int .i64 0] [(3, 1, (X 42))]),
  u (sStore 4 (X 10) (X 43))])
 (.ret))
 (.skip)))
 (.seq (.seq (.reg [o 44 (sMov (X 12)),
  o 45 (sBin .eql .slice (X 44) (K (.nilSl)))])
 (.ite (X 45)
 (.seq (.reg [o 46 (sLoad 4 true (X 11)),
  u (sStore 4 (X 10) (X 46))])
 (.ret))
 (.skip)))
 (.seq (.reg [o 47 (sFieldAddr 0 (X 11)),
  o 48 (sLoad 1 false (X 47)),
  o 49 (sMov (X 12)),
  o 50 (sBuildSl 1 1 [.nilSl] [(0, 1, (X 49))]),
  o 51 (sApp (ty 1 false 24 [.nilSl]) (X 48) (X 50)),
  o 52 (sFieldAddr 0 (X 11)),
  u (sStore 1 (X 52) (X 51))])
 (.seq (.reg [o 53 (sFieldAddr 1 (X 11)),
  o 54 (sLoad 1 false (X 53)),
  o 55 (sMov (X 12)),
  o 56 (sLenSl (X 55)),
  o 57 (sBin .add .none (X 54) (X 56)),
  o 58 (sBin .add .none (X 57) (K (.int .i64 1))),
  o 59 (sMov (X 2)),
  o 60 (sBin .rem .none (X 58) (X 59)),
  o 61 (sFieldAddr 1 (X 11)),
  u (sStore 1 (X 61) (X 60))])
 (.reg [o 62 (sFieldAddr 2 (X 11)),
  o 63 (sLoad 1 false (X 62)),
  o 64 (sBin .add .none (X 63) (K (.int .u32 1))),
  o 65 (sFieldAddr 2 (X 11)),
  u (sStore 1 (X 65) (X 64))])))))))
noncomputable def b20 (E : Env) : CT :=
 .seq (.reg [o 10 (sAlloc [.nilSl, .int .i64 0, .int .u32 0, .int .i64 0])])
 (.seq (.seq (.reg [o 14 (sMov (X 0)),
  o 15 (sMov (X 1)),
  o 16 (sMov (X 2)),
  o 17 (sMov (X 3)),
  o 18 (sCall E 39 [(X 14), (X 15), (X 16), (X 17)]),
  o 19 (sUn .not (X 18))])
 (.ite (X 19)
 (.seq (.reg [o 20 (sBuild [.nilSl, .int .i64 0, .int .u32 0, .int .i64 0] [(3, 1, (K (.int .i64 1)))]),
  u (sStore 4 (X 10) (X 20))])
 (.ret))
 (.skip)))
 (.seq (.reg [o 21 (sMov (X 3)),
  o 22 (sMov (X 4)),
  o 23 (sBuild [.nilSl, .int .i64 0, .int .u32 0, .int .i64 0] [(1, 1, (X 21)), (2, 1, (X 22))]),
  o 11 (sAlloc [.nilSl, .int .i64 0, .int .u32 0, .int .i64 0]),
  u (sStore 4 (X 11) (X 23))])
 (.seq (.block 0 (.loop (l20x0 E)))
 (.seq (.reg [o 66 (sLoad 4 true (X 11)),
  u (sStore 4 (X 10) (X 66))])
 (.ret)))))
theorem c20 (args : T) (h : AHeap) : (envL prog).call 20 args h = trim h (fin [.cell 10 4 true] (runC (envL prog) (b20 (envL prog)) (args ++ List.replicate (67 - args.length) .undef) h)) :=
 call_tr (fn := Go.Proofs.Try.f20) tab20 (by kernel_rfl) (by rfl) (by kernel_rfl) (fun t h => by kernel_rfl) rfl args h
def tab21 : Nat → Cert := fun i => bif Nat.beq i 6 then ⟨13, 47, 190006631531521117443565600001381827793158393569280, 374075198950373633750238101620263552616769580441600, 4315496191636247772702603464457847794991038708810609956294547747392825262122268162734987189538582449593136365296753930872373832906906015831936001068606672226345350829955262702092812292, 2898403142262963923864640552005263065716519987158186505371981792540571721086975209077451984912720635905971748677390623171928355423745172243442710479154953827347804106784804⟩ else bif Nat.beq i 11 then ⟨40, 97, 11115625320610895619777830440038228638600785045167400424259103294762989419376690896477356843929174840460012963270269778738186611782783339975394178608372506734499960458597838835902531351888210682698936061861832812916039163788926671489930864208707010183660372808184580301147983425029152645093582688205284010744939318984129717713511372745022952257257215448872842129038720008697690893959085218343239597420971742886844036570986678310806825115807003199452968980183448346721684840601616384, 22231208238516693560847921049681509004226650758978161931169294999630994316338066218065555859484048746530969458286989192219525346045289097113708034232614994539818007309328762867528129460711563446721348094479815013343638444354940272930038787298886402974179797569616593926728507716695980955136980940020080173515542276338023556135062999961938444366578237954133860195298733195445665858137010882063753046746251676093775995650713731448280096740562443290241429544043816354364574891379785728, 4958542145838986734957832387967150615821416471555803407407356773239641116089041415171890304322179431327970959625100746559658420667158808049798322676438464244050042512191112979428079891914907587507585546561148427836590261840115166911810292208588983772138184311199592102253639270847166938737101471687223999184310547216076176916505937897839529396333302755231931133908941014680615144186047165528418766153625178711155148130363730632710653049689821838912423627614725237598672568103676540055879171222530218800311328189825384846984635410278538179627819535506003494452722558428914956316267299300007706024318073072211516462234866807295241608051224313442568298464384301570880780363543417864190454859839573870472215373468037422745896420239568317774383015951396009853508231187584724641213292692555689351899562655753550247761566169857146960207041939825298421979655959158931827661722844475154338112390805314895738826951422156661708296879175645528074174164056266844505558158913857268637636230032346170877900723501163664193122934898468398241365193141099282711822068507897358519117378768125781394311777137175852585238573346998279183015686002208423115732067127663293335242973611445714948, 6133377173236585757636069402590360221231942395397872681218348675379683529511872372033198316889848887340317634938646459142210114282387307436522793267255124305283311493021625139068566606397877011314487672698589434370439600413475147445582443392589098915025600813641686235222392707441747382621020781006678876477465274352179013949183320253905637184632426971066477424385200177829250207859983410657332783338546154999376709144872765776536998939241736891699038405436195998074908929846753875899540654982554605348730320842484887902593193867946591760010727987015013984768993139845000958298569144321176636476718106232347686132162925720727860768312454121490292616845754690689826398964741449151756477790340230309773969168194955834400980678162585774831651974400212624087061559413111976229054346672244848279652321119944717340447059973533701707068183599064023677952339208601303636458757381479662623454506475286195152983516663874349015463977284361503324028907574533745826851149006935614528083233562660960105819306635970516168706742852886038228583898567755838560685413008741773868543305915863865332772698549105152734145877845148814237444932527679403999054790715⟩ else ⟨0, 0, 0, 0, 0, 0⟩
noncomputable def l21x0 (E : Env) : CT :=
 .seq (.seq (.reg [o 48 (sMov (X 6)),
  o 49 (sFieldAddr 0 (X 2)),
  o 50 (sLoad 1 false (X 49)),
  o 51 (sMov (X 5)),
  o 52 (sIdxAddrS 1 (X 50) (X 51)),
  o 53 (sLoad 1 false (X 52)),
  o 54 (sLenSl (X 53)),
  o 55 (sBin .lss .none (X 48) (X 54))])
 (.ite (X 55)
 (.skip)
 (.exit 2)))
 (.seq (.block 3 (.seq (.drw [.op (o 58 (sFieldAddr 0 (X 2))),
  .op (o 59 (sLoad 1 false (X 58))),
  .op (o 60 (sMov (X 5))),
  .op (o 61 (sIdxAddrS 1 (X 59) (X 60))),
  .op (o 62 (sLoad 1 false (X 61))),
  .op (o 63 (sMov (X 6))),
  .op (o 64 (sIdxAddrS 49 (X 62) (X 63))),
  .op (o 65 (sFieldAddr 0 (X 64))),
  .op (o 66 (sLoad 1 false (X 65))),
  .op (o 67 (sFieldAddr 0 (X 3))),
  .op (o 68 (sLoad 1 false (X 67))),
  .op (o 69 (sMov (X 5))),
  .op (o 70 (sIdxAddrS 1 (X 68) (X 69))),
  .op (o 71 (sLoad 1 false (X 70))),
  .op (o 72 (sMov (X 6))),
  .op (o 73 (sIdxAddrS 49 (X 71) (X 72))),
  .op (o 74 (sFieldAddr 0 (X 73))),
  .op (o 75 (sLoad 1 false (X 74))),
  .op (o 76 (sBin .neq .none (X 66) (X 75))),
  .op (o 77 (sMov (X 76))),
  .op (og 77 false 78 (sFieldAddr 0 (X 2))),
  .op (og 77 false 79 (sLoad 1 false (X 78))),
  .op (og 77 false 80 (sMov (X 5))),
  .op (og 77 false 81 (sIdxAddrS 1 (X 79) (X 80))),
  .op (og 77 false 82 (sLoad 1 false (X 81))),
  .op (og 77 false 83 (sMov (X 6))),
  .op (og 77 false 84 (sIdxAddrS 49 (X 82) (X 83))),
  .op (og 77 false 85 (sFieldAddr 1 (X 84))),
  .op (og 77 false 86 (sLoad 48 true (X 85))),
  .op (og 77 false 87 (sFieldAddr 0 (X 3))),
  .op (og 77 false 88 (sLoad 1 false (X 87))),
  .op (og 77 false 89 (sMov (X 5))),
  .op (og 77 false 90 (sIdxAddrS 1 (X 88) (X 89))),
  .op (og 77 false 91 (sLoad 1 false (X 90))),
  .op (og 77 false 92 (sMov (X 6))),
  .op (og 77 false 93 (sIdxAddrS 49 (X 91) (X 92))),
  .op (og 77 false 94 (sFieldAddr 1 (X 93))),
  .op (og 77 false 95 (sLoad 48 true (X 94))),
  .op (og 77 false 96 (sBin .neq (.flat 48) (X 86) (X 95))),
  .op (o 97 (sPick (X 77) (K (.bool true)) (X 96)))])
 (.ite (X 97)
 (.seq (.reg [o 4 (sMov (K (.bool false)))])
 (.ret))
 (.skip))))
 (.reg [o 56 (sMov (X 6)),
  o 57 (sBin .add .none (X 56) (K (.int .i64 1))),
  o 6 (sMov (X 57))]))
noncomputable def l21x1 (E : Env) : CT :=
 .seq (.seq (.reg [o 28 (sMov (X 5)),
  o 29 (sFieldAddr 0 (X 2)),
  o 30 (sLoad 1 false (X 29)),
  o 31 (sLenSl (X 30)),
  o 32 (sBin .lss .none (X 28) (X 31))])
 (.ite (X 32)
 (.skip)
 (.exit 0)))
 (.seq (.block 1 (.seq (.seq (.drw [.op (o 35 (sFieldAddr 0 (X 2))),
  .op (o 36 (sLoad 1 false (X 35))),
  .op (o 37 (sMov (X 5))),
  .op (o 38 (sIdxAddrS 1 (X 36) (X 37))),
  .op (o 39 (sLoad 1 false (X 38))),
  .op (o 40 (sLenSl (X 39))),
  .op (o 41 (sFieldAddr 0 (X 3))),
  .op (o 42 (sLoad 1 false (X 41))),
  .op (o 43 (sMov (X 5))),
  .op (o 44 (sIdxAddrS 1 (X 42) (X 43))),
  .op (o 45 (sLoad 1 false (X 44))),
  .op (o 46 (sLenSl (X 45))),
  .op (o 47 (sBin .neq .none (X 40) (X 46)))])
 (.ite (X 47)
 (.seq (.reg [o 4 (sMov (K (.bool false)))])
 (.ret))
 (.skip)))
 (.seq (.reg [o 6 (sMov (K (.int .i64 0)))])
 (.block 2 (.loop (l21x0 E))))))
 (.reg [o 33 (sMov (X 5)),
  o 34 (sBin .add .none (X 33) (K (.int .i64 1))),
  o 5 (sMov (X 34))]))
noncomputable def b21 (E : Env) : CT :=
 .seq (.reg [o 2 (sBox (X 0)),
  o 3 (sBox (X 1)),
  o 4 (sMov (K (.bool false)))])
 (.seq (.seq (.reg [o 7 (sFieldAddr 0 (X 2)),
  o 8 (sLoad 1 false (X 7)),
  o 9 (sLenSl (X 8)),
  o 10 (sFieldAddr 0 (X 3)),
  o 11 (sLoad 1 false (X 10)),
  o 12 (sLenSl (X 11)),
  o 13 (sBin .neq .none (X 9) (X 12)),
  o 14 (sMov (X 13)),
  og 14 false 15 (sFieldAddr 1 (X 2)),
  og 14 false 16 (sLoad 1 false (X 15)),
  og 14 false 17 (sFieldAddr 1 (X 3)),
  og 14 false 18 (sLoad 1 false (X 17)),
  og 14 false 19 (sBin .neq .none (X 16) (X 18)),
  o 20 (sPick (X 14) (K (.bool true)) (X 19)),
  o 21 (sMov (X 20)),
  og 21 false 22 (sFieldAddr 2 (X 2)),
  og 21 false 23 (sLoad 1 false (X 22)),
  og 21 false 24 (sFieldAddr 2 (X 3)),
  og 21 false 25 (sLoad 1 false (X 24)),
  og 21 false 26 (sBin .neq .none (X 23) (X 25)),
  o 27 (sPick (X 21) (K (.bool true)) (X 26))])
 (.ite (X 27)
 (.seq (.reg [o 4 (sMov (K (.bool false)))])
 (.ret))
 (.skip)))
 (.seq (.seq (.reg [o 5 (sMov (K (.int .i64 0)))])
 (.block 0 (.loop (l21x1 E))))
 (.seq (.reg [o 4 (sMov (K (.bool true)))])
 (.ret))))
theorem c21 (args : T) (h : AHeap) : (envL prog).call 21 args h = trim h (fin [.tmp 4] (runC (envL prog) (b21 (envL prog)) (args ++ List.replicate (98 - args.length) .undef) h)) :=
 call_tr (fn := Go.Proofs.Try.f21) tab21 (by kernel_rfl) (by rfl) (by kernel_rfl) (fun t h => by kernel_rfl) rfl args h
def tab22 : Nat → Cert := fun i => ⟨0, 0, 0, 0, 0, 0⟩
noncomputable def aq22x0 (E : Env) : CT :=
 .seq (.reg [o 7 (sMov (X 14))])
 (.reg [o 8 (sMov (X 15))])
noncomputable def bq22x0 (E : Env) : CT :=
 .block 1 (.reg [o 16 (sMov (X 8)),
  o 17 (sMov (X 7)),
  o 18 (sIdxAddrA 2 1 (X 6) (X 17)),
  o 19 (sLoad 1 false (X 18)),
  o 20 (sCall E 44 [(X 16), (X 19)])])
noncomputable def kaq22x0 : Code := (nthRange Go.Proofs.Try.f22 0).1
noncomputable def kbq22x0 : Code := (nthRange Go.Proofs.Try.f22 0).2
theorem eaq22x0 (E : Env) (t : T) (h : AHeap) : evalCode prog E kaq22x0 t h = runC E (aq22x0 E) t h := code_tr tab22 (by kernel_rfl) t h
theorem ebq22x0 (E : Env) (t : T) (h : AHeap) : evalCode prog E kbq22x0 t h = runC E (bq22x0 E) t h := code_tr tab22 (by kernel_rfl) t h
noncomputable def b22 (E : Env) : CT :=
 .seq (.reg [o 9 (sMov (X 1)),
  o 10 (sMov (X 2)),
  o 11 (sBuild [.nilSl, .nilSl] [(0, 1, (X 9)), (1, 1, (X 10))]),
  o 6 (sAlloc [.nilSl, .nilSl]),
  u (sStore 2 (X 6) (X 11))])
 (.seq (.seq (.reg [o 12 (sMov (X 0)),
  o 13 (sCall E 43 [(X 12)])])
 (.block 0 (.range (X 13) [14, 15] kaq22x0 kbq22x0)))
 (.seq (.reg [o 21 (sMov (X 0)),
  o 22 (sBin .neq .ptr (X 21) (K (.nilPtr)))])
 (.ite (X 22)
 (.reg [o 23 (sMov (X 0)),
  o 24 (sMov (X 0)),
  o 25 (sNil (X 23)),
  o 26 (sFieldAddr 2 (X 25)),
  u (sStore 1 (X 26) (K (.int .i64 (-1)))),
  o 27 (sNil (X 24)),
  o 28 (sFieldAddr 3 (X 27)),
  u (sStore 1 (X 28) (K (.bool false)))])
 (.skip))))
theorem c22 (args : T) (h : AHeap) : (envL prog).call 22 args h = trim h (fin [] (runC (envL prog) (b22 (envL prog)) (args ++ List.replicate (29 - args.length) .undef) h)) :=
 call_tr (fn := Go.Proofs.Try.f22) tab22 (by kernel_rfl) (by rfl) (by kernel_rfl) (fun t h => by kernel_rfl) rfl args h
def tab23 : Nat → Cert := fun i => ⟨0, 0, 0, 0, 0, 0⟩
noncomputable def b23 (E : Env) : CT :=
 .seq (.reg [o 6 (sMov (X 0)),
  o 7 (sNil (X 6)),
  o 8 (sFieldAddr 0 (X 7)),
  o 9 (sIdxAddrA 2 1 (X 8) (K (.int .i64 0))),
  o 10 (sLoad 1 false (X 9)),
  o 11 (sMov (X 1)),
  o 12 (sCall E 45 [(X 10), (X 11)])])
 (.seq (.reg [o 13 (sMov (X 0)),
  o 14 (sNil (X 13)),
  o 15 (sFieldAddr 0 (X 14)),
  o 16 (sIdxAddrA 2 1 (X 15) (K (.int .i64 1))),
  o 17 (sLoad 1 false (X 16)),
  o 18 (sMov (X 2)),
  o 19 (sCall E 45 [(X 17), (X 18)])])
 (.reg [o 20 (sMov (X 0)),
  o 21 (sMov (X 0)),
  o 22 (sNil (X 20)),
  o 23 (sFieldAddr 2 (X 22)),
  u (sStore 1 (X 23) (K (.int .i64 (-1)))),
  o 24 (sNil (X 21)),
  o 25 (sFieldAddr 3 (X 24)),
  u (sStore 1 (X 25) (K (.bool false)))]))
theorem c23 (args : T) (h : AHeap) : (envL prog).call 23 args h = trim h (fin [] (runC (envL prog) (b23 (envL prog)) (args ++ List.replicate (26 - args.length) .undef) h)) :=
 call_tr (fn := Go.Proofs.Try.f23) tab23 (by kernel_rfl) (by rfl) (by kernel_rfl) (fun t h => by kernel_rfl) rfl args h
def tab24 : Nat → Cert := fun i => ⟨0, 0, 0, 0, 0, 0⟩
noncomputable def l24x0 (E : Env) : CT :=
 .seq (.seq (.reg [o 5 (sMov (X 4)),
  o 6 (sBin .lss .none (X 5) (K (.int .i64 64)))])
 (.ite (X 6)
 (.skip)
 (.exit 0)))
 (.seq (.block 1 (.reg [o 9 (sMov (X 4)),
  o 10 (sMov (X 0)),
  o 11 (sIdxAddrA 64 1 (X 3) (X 9)),
  u (sStore 1 (X 11) (X 10))]))
 (.reg [o 7 (sMov (X 4)),
  o 8 (sBin .add .none (X 7) (K (.int .i64 1))),
  o 4 (sMov (X 8))]))
noncomputable def b24 (E : Env) : CT :=
 .seq (.reg [o 2 (sAlloc (rep 64 (.int .u8 0)))])
 (.seq (.reg [o 3 (sAlloc (rep 64 (.int .u8 0)))])
 (.seq (.seq (.reg [o 4 (sMov (K (.int .i64 0)))])
 (.block 0 (.loop (l24x0 E))))
 (.seq (.reg [o 12 (sLoad 64 true (X 3)),
  u (sStore 64 (X 2) (X 12))])
 (.ret))))
theorem c24 (args : T) (h : AHeap) : (envL prog).call 24 args h = trim h (fin [.cell 2 64 true] (runC (envL prog) (b24 (envL prog)) (args ++ List.replicate (13 - args.length) .undef) h)) :=
 call_tr (fn := Go.Proofs.Try.f24) tab24 (by kernel_rfl) (by rfl) (by kernel_rfl) (fun t h => by kernel_rfl) rfl args h
def tab25 : Nat → Cert := fun i => bif Nat.beq i 5 then ⟨9, 25, 1057810092726438213189632, 1204203454223506527748096, 47179906667519749622836538151471066564004941448548635168225087193089, 41780390347995922719512288248198774037700430168845219084107794⟩ else ⟨0, 0, 0, 0, 0, 0⟩
noncomputable def b25 (E : Env) : CT :=
 .seq (.reg [o 7 (sBox (X 3)),
  o 8 (sMov (K (.int .i64 0)))])
 (.seq (.seq (.reg [o 9 (sMov (X 0)),
  o 10 (sMov (X 1)),
  o 11 (sMov (X 2)),
  o 12 (sCall E 46 [(X 9), (X 10), (X 11)]),
  o 13 (sUn .not (X 12))])
 (.ite (X 13)
 (.seq (.reg [o 8 (sMov (K (.int .i64 1)))])
 (.ret))
 (.skip)))
 (.seq (.seq (.reg [o 14 (sMov (X 0)),
  o 15 (sCall E 47 [(X 14)]),
  o 16 (sUn .not (X 15))])
 (.ite (X 16)
 (.seq (.reg [o 8 (sMov (K (.int .i64 14)))])
 (.ret))
 (.skip)))
 (.seq (.drw [.op (o 17 (sMov (X 0))),
  .op (o 18 (sMov (X 1))),
  .op (o 19 (sNil (X 17))),
  .op (o 20 (sFieldAddr 0 (X 19))),
  .op (o 21 (sIdxAddrA 2 1 (X 20) (X 18))),
  .op (o 22 (sLoad 1 false (X 21))),
  .op (o 23 (sMov (X 2))),
  .op (o 24 (sLoad 64 true (X 7))),
  .hv 255 (o 25 (sCall E 48 [(X 22), (X 23), (X 24)]))])
 (.seq (.reg [o 8 (sMov (K (.int .i64 0)))])
 (.ret)))))
theorem c25 (args : T) (h : AHeap) : (envL prog).call 25 args h = trim h (fin [.tmp 8] (runC (envL prog) (b25 (envL prog)) (args ++ List.replicate (26 - args.length) .undef) h)) :=
 call_tr (fn := Go.Proofs.Try.f25) tab25 (by kernel_rfl) (by rfl) (by kernel_rfl) (fun t h => by kernel_rfl) rfl args h
def tab26 : Nat → Cert := fun i => ⟨0, 0, 0, 0, 0, 0⟩
noncomputable def b26 (E : Env) : CT :=
 .seq (.reg [o 4 (sAlloc (rep 64 (.int .u8 0)))])
 (.seq (.seq (.reg [o 6 (sMov (X 0)),
  o 7 (sNil (X 6)),
  o 8 (sFieldAddr 1 (X 7)),
  o 9 (sLoad 1 false (X 8)),
  o 10 (sMov (X 1)),
  o 11 (sIdxAddrS 1 (X 9) (X 10)),
  o 12 (sLoad 1 false (X 11)),
  o 13 (sLenSl (X 12)),
  o 5 (sMov (X 13))])
 (.seq (.reg [o 14 (sMov (X 5)),
  o 15 (sBin .gtr .none (X 14) (K (.int .i64 0)))])
 (.ite (X 15)
 (.seq (.reg [o 16 (sMov (X 0)),
  o 17 (sNil (X 16)),
  o 18 (sFieldAddr 1 (X 17)),
  o 19 (sLoad 1 false (X 18)),
  o 20 (sMov (X 1)),
  o 21 (sIdxAddrS 1 (X 19) (X 20)),
  o 22 (sLoad 1 false (X 21)),
  o 23 (sMov (X 5)),
  o 24 (sBin .sub .none (X 23) (K (.int .i64 1))),
  o 25 (sIdxAddrS 64 (X 22) (X 24)),
  o 26 (sLoad 64 true (X 25)),
  u (sStore 64 (X 4) (X 26))])
 (.ret))
 (.skip))))
 (.seq (.reg [o 27 (sMov (X 0)),
  o 28 (sNil (X 27)),
  o 29 (sFieldAddr 0 (X 28)),
  o 30 (sLoad 1 false (X 29)),
  o 31 (sMov (X 1)),
  o 32 (sIdxAddrS 64 (X 30) (X 31)),
  o 33 (sLoad 64 true (X 32)),
  u (sStore 64 (X 4) (X 33))])
 (.ret)))
theorem c26 (args : T) (h : AHeap) : (envL prog).call 26 args h = trim h (fin [.cell 4 64 true] (runC (envL prog) (b26 (envL prog)) (args ++ List.replicate (34 - args.length) .undef) h)) :=
 call_tr (fn := Go.Proofs.Try.f26) tab26 (by kernel_rfl) (by rfl) (by kernel_rfl) (fun t h => by kernel_rfl) rfl args h
def tab28 : Nat → Cert := fun i => bif Nat.beq i 1 then ⟨40, 44, 22231208238511954693791635505643642846788176773302414558142927572161239648442306429806238258918727072676467948374011643091230145167404957305942419263317378438217465457612556990215438502764753332334121462208251582096663950370723014770199954866319277049833867111415334019952325335472564313058304750442427130113213827124508715092881071964732212814508963663265691437166576338403443499175146070782308897252506306080589804578161814784775788455093948814600981343458621104796415110636634112, 22231208238516693560847921067604661342152092377178953204785134156938679379154374651950759311207697838879438268397437118795610396341732458636609160660181864753751687858092232808604533339055453557499704631901066801827036443489681180183061426634361918930424741276684970382754003902888464888754126922675457001618016020051441416335903948599821469894818889190250431086467268103740037353488844827943731538970212315588383225814825712366303727217454130167771398309777054584441650653775790080, 32490947240481712452659754842873392568580137419215020482718849810648155848839165426482457838096700363626807216190660538620735154343263341472156410085434851253754775968588335404655650808087553441453361154099318742067700089210277909696468647094767088692032689449232627159593612733983636773201177801216683605811799643831268151485621891763172906623328829094025940830163514855069167721830457235302771314430533511512257531479107696364299156545536472027794920895306367810169409702386935971116691798960638260522209776132036505488366501892, 18468965231759843833450395033743348617397710083311179021756473938840184870392491000366175954420911956666087354347902173734539226476028179805261343779673224225700536145817686768355151836742998731720514350085509787127125659780017864511037098758978834570995829688423416794744990991099837536230481492538356910325584831633486180348570277616632652634358320685501444668013731225926010567002047936260979642540200965716007998706034973620172322657589266479479500243321825120261592513082964130958599969345788728942627376672538630⟩ else ⟨0, 0, 0, 0, 0, 0⟩
noncomputable def b28 (E : Env) : CT :=
 .seq (.reg [o 2 (sBox (X 0)),
  o 4 (sMov (K (.bool false)))])
 (.seq (.drw [.op (o 5 (sFieldAddr 0 (X 2))),
  .op (o 6 (sLoad 1 false (X 5))),
  .op (o 7 (sBin .neq .ptr (X 6) (K (.nilPtr)))),
  .op (o 8 (sMov (X 7))),
  .op (og 8 true 9 (sFieldAddr 1 (X 2))),
  .op (og 8 true 10 (sLoad 1 false (X 9))),
  .op (og 8 true 11 (sBin .geq .none (X 10) (K (.int .i64 0)))),
  .op (o 12 (sPick (X 8) (X 11) (K (.bool false)))),
  .op (o 13 (sMov (X 12))),
  .op (og 13 true 14 (sFieldAddr 2 (X 2))),
  .op (og 13 true 15 (sLoad 1 false (X 14))),
  .op (og 13 true 16 (sBin .geq .none (X 15) (K (.int .i64 2)))),
  .op (o 17 (sPick (X 13) (X 16) (K (.bool false)))),
  .op (o 18 (sMov (X 17))),
  .op (og 18 true 19 (sFieldAddr 2 (X 2))),
  .op (og 18 true 20 (sLoad 1 false (X 19))),
  .op (og 18 true 21 (sBin .leq .none (X 20) (K (.int .i64 256)))),
  .op (o 22 (sPick (X 18) (X 21) (K (.bool false)))),
  .op (o 23 (sMov (X 22))),
  .op (og 23 true 24 (sFieldAddr 1 (X 2))),
  .rd 20 (og 23 true 25 (sLoad 1 false (X 24))),
  .op (og 23 true 26 (sFieldAddr 0 (X 2))),
  .op (og 23 true 27 (sLoad 1 false (X 26))),
  .op (og 23 true 29 (sFieldAddr 2 (X 2))),
  .rd 25 (og 23 true 30 (sLoad 1 false (X 29))),
  .hv 6815743 (og 23 true 28 (sCall E 49 [(X 27), (K (.int .i64 0))])),
  .op (og 23 true 31 (sBin .sub .none (X 28) (X 30))),
  .op (og 23 true 32 (sBin .leq .none (X 25) (X 31))),
  .op (o 33 (sPick (X 23) (X 32) (K (.bool false)))),
  .op (o 34 (sMov (X 33))),
  .op (og 34 true 35 (sMov (X 1))),
  .op (og 34 true 36 (sBin .geq .none (X 35) (K (.int .i64 0)))),
  .op (o 37 (sPick (X 34) (X 36) (K (.bool false)))),
  .op (o 38 (sMov (X 37))),
  .op (og 38 true 39 (sMov (X 1))),
  .op (og 38 true 40 (sFieldAddr 2 (X 2))),
  .op (og 38 true 41 (sLoad 1 false (X 40))),
  .op (og 38 true 42 (sBin .lss .none (X 39) (X 41))),
  .op (o 43 (sPick (X 38) (X 42) (K (.bool false)))),
  .op (o 4 (sMov (X 43)))])
 (.ret))
theorem c28 (args : T) (h : AHeap) : (envL prog).call 28 args h = trim h (fin [.tmp 4] (runC (envL prog) (b28 (envL prog)) (args ++ List.replicate (44 - args.length) .undef) h)) :=
 call_tr (fn := Go.Proofs.Try.f28) tab28 (by kernel_rfl) (by rfl) (by kernel_rfl) (fun t h => by kernel_rfl) rfl args h
def tab29 : Nat → Cert := fun i => ⟨0, 0, 0, 0, 0, 0⟩
noncomputable def l29x0 (E : Env) : CT :=
 .block 1 (.seq (.reg [o 12 (sLoad 3 true (X 3)),
  o 13 (sMov (X 1)),
  o 14 (sMov (X 8)),
  o 15 (sLenSl (X 14)),
  o 16 (sBin .add .none (X 13) (X 15)),
  o 17 (sCall E 50 [(X 12), (X 16)]),
  o 11 (sMov (X 17)),
  o 18 (sExtract (X 11) 0),
  o 19 (sExtract (X 11) 1),
  o 9 (sAlloc ([.int .u8 0, .int .u32 0, .int .i64 0] ++ rep 48 (.int .u8 0))),
  u (sStore 51 (X 9) (X 18)),
  o 10 (sMov (X 19))])
 (.block 2 (.seq (.reg [o 21 (sMov (X 10)),
  o 22 (sBin .neq .none (X 21) (K (.int .i64 0))),
  o 20 (sMov (X 22))])
 (.ite (X 20)
 (.seq (.reg [o 23 (sMov (X 10)),
  o 6 (sMov (K (.nilSl))),
  o 7 (sMov (X 23))])
 (.ret))
 (.seq (.reg [o 25 (sFieldAddr 1 (X 9)),
  o 26 (sLoad 1 false (X 25)),
  o 27 (sMov (X 2)),
  o 28 (sBin .neq .none (X 26) (X 27)),
  o 24 (sMov (X 28))])
 (.ite (X 24)
 (.exit 0)
 (.seq (.reg [o 30 (sFieldAddr 0 (X 9)),
  o 31 (sLoad 1 false (X 30)),
  o 32 (sBin .eql .none (X 31) (K (.int .u8 73))),
  o 33 (sMov (X 32)),
  og 33 true 34 (sMov (X 8)),
  og 33 true 35 (sLenSl (X 34)),
  og 33 true 36 (sFieldAddr 2 (X 3)),
  og 33 true 37 (sLoad 1 false (X 36)),
  og 33 true 38 (sBin .sub .none (X 37) (K (.int .i64 1))),
  og 33 true 39 (sBin .lss .none (X 35) (X 38)),
  o 40 (sPick (X 33) (X 39) (K (.bool false))),
  o 29 (sMov (X 40))])
 (.ite (X 29)
 (.reg [o 41 (sMov (X 8)),
  o 42 (sFieldAddr 2 (X 9)),
  o 43 (sLoad 1 false (X 42)),
  o 44 (sFieldAddr 3 (X 9)),
  o 45 (sLoad 48 true (X 44)),
  o 46 (sBuild ([.int .i64 0] ++ rep 48 (.int .u8 0)) [(0, 1, (X 43)), (1, 48, (X 45))]),
  o 47 (sBuildSl 49 1 ([.int .i64 0] ++ rep 48 (.int .u8 0)) [(0, 49, (X 46))]),
  o 48 (sApp (ty 49 true 56 ([.int .i64 0] ++ rep 48 (.int .u8 0))) (X 41) (X 47)),
  o 8 (sMov (X 48))])
 (.seq (.reg [o 50 (sLoad 51 true (X 9)),
  o 51 (sMov (X 2)),
  o 52 (sMov (X 8)),
  o 53 (sLenSl (X 52)),
  o 54 (sBuild ([.int .u8 0, .int .u32 0, .int .i64 0] ++ rep 48 (.int .u8 0)) [(0, 1, (K (.int .u8 67))), (1, 1, (X 51)), (2, 1, (X 53))]),
  o 55 (sBin .eql (.flat 51) (X 50) (X 54)),
  o 49 (sMov (X 55))])
 (.ite (X 49)
 (.seq (.reg [o 56 (sMov (X 8)),
  o 6 (sMov (X 56)),
  o 7 (sMov (K (.int .i64 0)))])
 (.ret))
 (.exit 0)))))))))))
noncomputable def b29 (E : Env) : CT :=
 .seq (.reg [o 3 (sBox (X 0)),
  o 6 (sMov (K (.nilSl))),
  o 7 (sMov (K (.int .i64 0)))])
 (.seq (.reg [o 8 (sMov (K (.nilSl)))])
 (.seq (.skip)
 (.seq (.block 0 (.loop (l29x0 E)))
 (.seq (.reg [o 6 (sMov (K (.nilSl))),
  o 7 (sMov (K (.int .i64 0)))])
 (.ret)))))
theorem c29 (args : T) (h : AHeap) : (envL prog).call 29 args h = trim h (fin [.tmp 6, .tmp 7] (runC (envL prog) (b29 (envL prog)) (args ++ List.replicate (57 - args.length) .undef) h)) :=
 call_tr (fn := Go.Proofs.Try.f29) tab29 (by kernel_rfl) (by rfl) (by kernel_rfl) (fun t h => by kernel_rfl) rfl args h
def tab30 : Nat → Cert := fun i => bif Nat.beq i 4 then ⟨8, 23, 9165388243191988480, 9169047417889227008, 12259965468725265036955487269614814821474832414154948616, 20461030936963860421145368252195227362813844389905⟩ else ⟨0, 0, 0, 0, 0, 0⟩
noncomputable def b30 (E : Env) : CT :=
 .seq (.reg [o 3 (sBox (X 0)),
  o 5 (sBox (X 2)),
  o 6 (sMov (K (.int .i64 0)))])
 (.seq (.reg [o 10 (sLoad 51 true (X 5)),
  o 11 (sCall E 51 [(X 10)]),
  o 9 (sMov (X 11)),
  o 12 (sExtract (X 9) 0),
  o 13 (sExtract (X 9) 1),
  o 7 (sAlloc (rep 64 (.int .u8 0))),
  u (sStore 64 (X 7) (X 12)),
  o 8 (sMov (X 13))])
 (.seq (.seq (.reg [o 14 (sMov (X 8)),
  o 15 (sBin .neq .none (X 14) (K (.int .i64 0)))])
 (.ite (X 15)
 (.seq (.reg [o 6 (sMov (K (.int .i64 1)))])
 (.ret))
 (.skip)))
 (.seq (.drw [.op (o 16 (sFieldAddr 0 (X 3))),
  .rd 1 (o 17 (sLoad 1 false (X 16))),
  .op (o 18 (sLoad 3 true (X 3))),
  .op (o 19 (sMov (X 1))),
  .rd 5 (o 21 (sLoad 64 true (X 7))),
  .hv 12 (o 20 (sCall E 52 [(X 18), (X 19)])),
  .hv 63 (o 22 (sCall E 16 [(X 17), (K (.int .i64 0)), (X 20), (X 21)])),
  .op (o 6 (sMov (X 22)))])
 (.ret))))
theorem c30 (args : T) (h : AHeap) : (envL prog).call 30 args h = trim h (fin [.tmp 6] (runC (envL prog) (b30 (envL prog)) (args ++ List.replicate (23 - args.length) .undef) h)) :=
 call_tr (fn := Go.Proofs.Try.f30) tab30 (by kernel_rfl) (by rfl) (by kernel_rfl) (fun t h => by kernel_rfl) rfl args h
def tab31 : Nat → Cert := fun i => ⟨0, 0, 0, 0, 0, 0⟩
noncomputable def b31 (E : Env) : CT :=
 .seq (.reg [o 4 (sMov (K (.int .i64 0)))])
 (.seq (.reg [o 7 (sMov (X 0)),
  o 8 (sMov (X 1)),
  o 9 (sCall E 33 [(X 7), (X 8)]),
  o 5 (sMov (X 9))])
 (.seq (.seq (.reg [o 10 (sMov (X 5)),
  o 11 (sBin .eql .ptr (X 10) (K (.nilPtr)))])
 (.ite (X 11)
 (.seq (.reg [o 4 (sMov (K (.int .i64 1)))])
 (.ret))
 (.skip)))
 (.seq (.seq (.reg [o 12 (sMov (X 0)),
  o 13 (sCall E 36 [(X 12)]),
  o 6 (sMov (X 13))])
 (.seq (.reg [o 14 (sMov (X 6)),
  o 15 (sBin .neq .none (X 14) (K (.int .i64 0)))])
 (.ite (X 15)
 (.seq (.reg [o 16 (sMov (X 6)),
  o 4 (sMov (X 16))])
 (.ret))
 (.skip))))
 (.seq (.reg [o 17 (sMov (X 5)),
  o 18 (sCall E 53 [(X 17)]),
  o 4 (sMov (X 18))])
 (.ret)))))
theorem c31 (args : T) (h : AHeap) : (envL prog).call 31 args h = trim h (fin [.tmp 4] (runC (envL prog) (b31 (envL prog)) (args ++ List.replicate (19 - args.length) .undef) h)) :=
 call_tr (fn := Go.Proofs.Try.f31) tab31 (by kernel_rfl) (by rfl) (by kernel_rfl) (fun t h => by kernel_rfl) rfl args h
def tab32 : Nat → Cert := fun i => ⟨0, 0, 0, 0, 0, 0⟩
noncomputable def b32 (E : Env) : CT :=
 .seq (.reg [o 2 (sMov (K (.nilPtr))),
  o 3 (sMov (K (.int .i64 0)))])
 (.seq (.seq (.reg [o 4 (sMov (X 0)),
  o 5 (sBin .lss .none (X 4) (K (.int .i64 1))),
  o 6 (sMov (X 5)),
  og 6 false 7 (sMov (X 0)),
  og 6 false 8 (sBin .gtr .none (X 7) (K (.int .i64 4096))),
  o 9 (sPick (X 6) (K (.bool true)) (X 8))])
 (.ite (X 9)
 (.seq (.reg [o 2 (sMov (K (.nilPtr))),
  o 3 (sMov (K (.int .i64 1)))])
 (.ret))
 (.skip)))
 (.seq (.reg [o 10 (sMov (X 0)),
  o 11 (sMake (ty 65 true 88 (rep 64 (.int .u8 0) ++ [.nilSl])) (X 10) (X 10)),
  o 12 (sBuild [.nilSl] [(0, 1, (X 11))]),
  o 13 (sBox (X 12)),
  o 2 (sMov (X 13)),
  o 3 (sMov (K (.int .i64 0)))])
 (.ret)))
theorem c32 (args : T) (h : AHeap) : (envL prog).call 32 args h = trim h (fin [.tmp 2, .tmp 3] (runC (envL prog) (b32 (envL prog)) (args ++ List.replicate (14 - args.length) .undef) h)) :=
 call_tr (fn := Go.Proofs.Try.f32) tab32 (by kernel_rfl) (by rfl) (by kernel_rfl) (fun t h => by kernel_rfl) rfl args h
def tab33 : Nat → Cert := fun i => ⟨0, 0, 0, 0, 0, 0⟩
noncomputable def aq33x0 (E : Env) : CT :=
 .seq (.reg [o 5 (sMov (X 9))])
 (.reg [o 6 (sMov (X 10))])
noncomputable def bq33x0 (E : Env) : CT :=
 .block 1 (.seq (.reg [o 11 (sMov (X 5)),
  o 12 (sLoad 1 false (X 3)),
  o 13 (sBin .eql .none (X 11) (X 12))])
 (.ite (X 13)
 (.seq (.reg [o 14 (sMov (X 6)),
  u (sStore 1 (X 4) (X 14))])
 (.ret))
 (.skip)))
noncomputable def kaq33x0 : Code := (nthRange Go.Proofs.Try.f33 0).1
noncomputable def kbq33x0 : Code := (nthRange Go.Proofs.Try.f33 0).2
theorem eaq33x0 (E : Env) (t : T) (h : AHeap) : evalCode prog E kaq33x0 t h = runC E (aq33x0 E) t h := code_tr tab33 (by kernel_rfl) t h
theorem ebq33x0 (E : Env) (t : T) (h : AHeap) : evalCode prog E kbq33x0 t h = runC E (bq33x0 E) t h := code_tr tab33 (by kernel_rfl) t h
noncomputable def b33 (E : Env) : CT :=
 .seq (.reg [o 3 (sBox (X 1)),
  o 4 (sAlloc [.nilPtr])])
 (.seq (.seq (.reg [o 7 (sMov (X 0)),
  o 8 (sCall E 43 [(X 7)])])
 (.block 0 (.range (X 8) [9, 10] kaq33x0 kbq33x0)))
 (.seq (.reg [u (sStore 1 (X 4) (K (.nilPtr)))])
 (.ret)))
theorem c33 (args : T) (h : AHeap) : (envL prog).call 33 args h = trim h (fin [.cell 4 1 false] (runC (envL prog) (b33 (envL prog)) (args ++ List.replicate (15 - args.length) .undef) h)) :=
 call_tr (fn := Go.Proofs.Try.f33) tab33 (by kernel_rfl) (by rfl) (by kernel_rfl) (fun t h => by kernel_rfl) rfl args h
def tab34 : Nat → Cert := fun i => ⟨0, 0, 0, 0, 0, 0⟩
noncomputable def b34 (E : Env) : CT :=
 .seq (.reg [o 2 (sMov (K (.int .i64 0)))])
 (.seq (.seq (.reg [o 3 (sMov (X 0)),
  o 4 (sBin .eql .ptr (X 3) (K (.nilPtr)))])
 (.ite (X 4)
 (.seq (.reg [o 2 (sMov (K (.int .i64 0)))])
 (.ret))
 (.skip)))
 (.seq (.reg [o 5 (sMov (X 0)),
  o 6 (sNil (X 5)),
  o 7 (sFieldAddr 0 (X 6)),
  o 8 (sLoad 1 false (X 7)),
  o 9 (sLenSl (X 8)),
  o 2 (sMov (X 9))])
 (.ret)))
theorem c34 (args : T) (h : AHeap) : (envL prog).call 34 args h = trim h (fin [.tmp 2] (runC (envL prog) (b34 (envL prog)) (args ++ List.replicate (10 - args.length) .undef) h)) :=
 call_tr (fn := Go.Proofs.Try.f34) tab34 (by kernel_rfl) (by rfl) (by kernel_rfl) (fun t h => by kernel_rfl) rfl args h
def tab35 : Nat → Cert := fun i => ⟨0, 0, 0, 0, 0, 0⟩
noncomputable def b35 (E : Env) : CT :=
 .seq (.reg [o 4 (sAlloc (rep 64 (.int .u8 0))),
  o 5 (sMov (K (.int .i64 0)))])
 (.seq (.reg [o 7 (sMov (X 0)),
  o 8 (sMov (X 1)),
  o 9 (sCall E 54 [(X 7), (X 8)]),
  o 6 (sMov (X 9))])
 (.seq (.seq (.reg [o 10 (sMov (X 6)),
  o 11 (sBin .eql .ptr (X 10) (K (.nilPtr)))])
 (.ite (X 11)
 (.seq (.reg [o 12 (sBuild (rep 64 (.int .u8 0)) []),
  u (sStore 64 (X 4) (X 12)),
  o 5 (sMov (K (.int .i64 1)))])
 (.ret))
 (.skip)))
 (.seq (.reg [o 13 (sMov (X 6)),
  o 14 (sCall E 55 [(X 13)]),
  u (sStore 64 (X 4) (X 14)),
  o 5 (sMov (K (.int .i64 0)))])
 (.ret))))
theorem c35 (args : T) (h : AHeap) : (envL prog).call 35 args h = trim h (fin [.cell 4 64 true, .tmp 5] (runC (envL prog) (b35 (envL prog)) (args ++ List.replicate (15 - args.length) .undef) h)) :=
 call_tr (fn := Go.Proofs.Try.f35) tab35 (by kernel_rfl) (by rfl) (by kernel_rfl) (fun t h => by kernel_rfl) rfl args h
def tab36 : Nat → Cert := fun i => ⟨0, 0, 0, 0, 0, 0⟩
noncomputable def b36 (E : Env) : CT :=
 .seq (.reg [o 2 (sMov (K (.int .i64 0)))])
 (.seq (.seq (.reg [o 3 (sMov (X 0)),
  o 4 (sNil (X 3)),
  o 5 (sFieldAddr 2 (X 4)),
  o 6 (sLoad 1 false (X 5)),
  o 7 (sBin .eql .none (X 6) (K (.int .i64 0)))])
 (.ite (X 7)
 (.reg [o 8 (sMov (X 0)),
  o 9 (sNil (X 8)),
  o 10 (sFieldAddr 3 (X 9)),
  u (sStore 1 (X 10) (K (.bool true)))])
 (.skip)))
 (.seq (.seq (.reg [o 11 (sMov (X 0)),
  o 12 (sNil (X 11)),
  o 13 (sFieldAddr 3 (X 12)),
  o 14 (sLoad 1 false (X 13))])
 (.ite (X 14)
 (.seq (.reg [o 2 (sMov (K (.int .i64 14)))])
 (.ret))
 (.skip)))
 (.seq (.seq (.reg [o 15 (sMov (X 0)),
  o 16 (sNil (X 15)),
  o 17 (sFieldAddr 2 (X 16)),
  o 18 (sLoad 1 false (X 17)),
  o 19 (sBin .gtr .none (X 18) (K (.int .i64 0)))])
 (.ite (X 19)
 (.reg [o 20 (sMov (X 0)),
  o 21 (sNil (X 20)),
  o 22 (sFieldAddr 2 (X 21)),
  o 23 (sLoad 1 false (X 22)),
  o 24 (sBin .sub .none (X 23) (K (.int .i64 1))),
  o 25 (sNil (X 20)),
  o 26 (sFieldAddr 2 (X 25)),
  u (sStore 1 (X 26) (X 24))])
 (.skip)))
 (.seq (.reg [o 27 (sMov (X 0)),
  o 28 (sNil (X 27)),
  o 29 (sFieldAddr 4 (X 28)),
  o 30 (sLoad 1 false (X 29)),
  o 31 (sBin .add .none (X 30) (K (.int .i64 1))),
  o 32 (sNil (X 27)),
  o 33 (sFieldAddr 4 (X 32)),
  u (sStore 1 (X 33) (X 31))])
 (.seq (.reg [o 2 (sMov (K (.int .i64 0)))])
 (.ret))))))
theorem c36 (args : T) (h : AHeap) : (envL prog).call 36 args h = trim h (fin [.tmp 2] (runC (envL prog) (b36 (envL prog)) (args ++ List.replicate (34 - args.length) .undef) h)) :=
 call_tr (fn := Go.Proofs.Try.f36) tab36 (by kernel_rfl) (by rfl) (by kernel_rfl) (fun t h => by kernel_rfl) rfl args h
def tab37 : Nat → Cert := fun i => bif Nat.beq i 4 then ⟨11, 23, 995946886283180634205326102042247168, 1328253885236360925894167555163029504, 9046257403024474642745891070367194849503528791528831247145346129545083748480, 4730826141736959139064151423576870844857888906453658510699790350⟩ else ⟨0, 0, 0, 0, 0, 0⟩
noncomputable def b37 (E : Env) : CT :=
 .seq (.reg [o 5 (sBox (X 2)),
  o 6 (sMov (K (.int .i64 0)))])
 (.seq (.reg [o 8 (sMov (X 0)),
  o 9 (sMov (X 1)),
  o 10 (sCall E 54 [(X 8), (X 9)]),
  o 7 (sMov (X 10))])
 (.seq (.seq (.reg [o 11 (sMov (X 7)),
  o 12 (sBin .eql .ptr (X 11) (K (.nilPtr)))])
 (.ite (X 12)
 (.seq (.reg [o 6 (sMov (K (.int .i64 1)))])
 (.ret))
 (.skip)))
 (.seq (.drw [.op (o 13 (sMov (X 7))),
  .op (o 14 (sMov (X 7))),
  .op (o 15 (sNil (X 14))),
  .op (o 16 (sFieldAddr 64 (X 15))),
  .op (o 17 (sLoad 1 false (X 16))),
  .op (o 18 (sLoad 64 true (X 5))),
  .op (o 19 (sBuildSl 64 1 (rep 64 (.int .u8 0)) [(0, 64, (X 18))])),
  .hv 126 (o 20 (sApp (ty 64 true 64 (rep 64 (.int .u8 0))) (X 17) (X 19))),
  .op (o 21 (sNil (X 13))),
  .op (o 22 (sFieldAddr 64 (X 21))),
  .hv 1023 (u (sStore 1 (X 22) (X 20)))])
 (.seq (.reg [o 6 (sMov (K (.int .i64 0)))])
 (.ret)))))
theorem c37 (args : T) (h : AHeap) : (envL prog).call 37 args h = trim h (fin [.tmp 6] (runC (envL prog) (b37 (envL prog)) (args ++ List.replicate (23 - args.length) .undef) h)) :=
 call_tr (fn := Go.Proofs.Try.f37) tab37 (by kernel_rfl) (by rfl) (by kernel_rfl) (fun t h => by kernel_rfl) rfl args h
def tab38 : Nat → Cert := fun i => bif Nat.beq i 3 then ⟨8, 16, 9169065001552445696, 9169081515701698816, 2596168236496938192585941328068609, 20769425137969943126070643896614923⟩ else ⟨0, 0, 0, 0, 0, 0⟩
noncomputable def b38 (E : Env) : CT :=
 .seq (.reg [o 2 (sMov (K (.nilPtr))),
  o 3 (sMov (K (.int .i64 0)))])
 (.seq (.seq (.reg [o 4 (sMov (X 0)),
  o 5 (sBin .lss .none (X 4) (K (.int .i64 1))),
  o 6 (sMov (X 5)),
  og 6 false 7 (sMov (X 0)),
  og 6 false 8 (sBin .gtr .none (X 7) (K (.int .i64 4096))),
  o 9 (sPick (X 6) (K (.bool true)) (X 8))])
 (.ite (X 9)
 (.seq (.reg [o 2 (sMov (K (.nilPtr))),
  o 3 (sMov (K (.int .i64 1)))])
 (.ret))
 (.skip)))
 (.seq (.drw [.op (o 10 (sMov (X 0))),
  .op (o 11 (sMake (ty 64 true 64 (rep 64 (.int .u8 0))) (X 10) (X 10))),
  .op (o 12 (sMov (X 0))),
  .op (o 13 (sMake (ty 1 false 24 [.nilSl]) (X 12) (X 12))),
  .op (o 14 (sBuild [.nilSl, .nilSl] [(0, 1, (X 11)), (1, 1, (X 13))])),
  .op (o 15 (sBox (X 14))),
  .op (o 2 (sMov (X 15))),
  .op (o 3 (sMov (K (.int .i64 0))))])
 (.ret)))
theorem c38 (args : T) (h : AHeap) : (envL prog).call 38 args h = trim h (fin [.tmp 2, .tmp 3] (runC (envL prog) (b38 (envL prog)) (args ++ List.replicate (16 - args.length) .undef) h)) :=
 call_tr (fn := Go.Proofs.Try.f38) tab38 (by kernel_rfl) (by rfl) (by kernel_rfl) (fun t h => by kernel_rfl) rfl args h
def tab39 : Nat → Cert := fun i => ⟨0, 0, 0, 0, 0, 0⟩
noncomputable def b39 (E : Env) : CT :=
 .seq (.reg [o 8 (sMov (K (.bool false)))])
 (.seq (.reg [o 9 (sMov (X 0)),
  o 10 (sBin .neq .ptr (X 9) (K (.nilPtr))),
  o 11 (sMov (X 10)),
  og 11 true 12 (sMov (X 1)),
  og 11 true 13 (sBin .geq .none (X 12) (K (.int .i64 0))),
  o 14 (sPick (X 11) (X 13) (K (.bool false))),
  o 15 (sMov (X 14)),
  og 15 true 16 (sMov (X 2)),
  og 15 true 17 (sBin .geq .none (X 16) (K (.int .i64 2))),
  o 18 (sPick (X 15) (X 17) (K (.bool false))),
  o 19 (sMov (X 18)),
  og 19 true 20 (sMov (X 2)),
  og 19 true 21 (sBin .leq .none (X 20) (K (.int .i64 256))),
  o 22 (sPick (X 19) (X 21) (K (.bool false))),
  o 23 (sMov (X 22)),
  og 23 true 24 (sMov (X 1)),
  og 23 true 25 (sMov (X 0)),
  og 23 true 26 (sNil (X 25)),
  og 23 true 27 (sFieldAddr 0 (X 26)),
  og 23 true 28 (sIdxAddrA 2 1 (X 27) (K (.int .i64 0))),
  og 23 true 29 (sLoad 1 false (X 28)),
  og 23 true 30 (sNil (X 29)),
  og 23 true 31 (sFieldAddr 0 (X 30)),
  og 23 true 32 (sLoad 1 false (X 31)),
  og 23 true 33 (sLenSl (X 32)),
  og 23 true 34 (sBin .leq .none (X 24) (X 33)),
  o 35 (sPick (X 23) (X 34) (K (.bool false))),
  o 36 (sMov (X 35)),
  og 36 true 37 (sMov (X 2)),
  og 36 true 38 (sMov (X 0)),
  og 36 true 39 (sNil (X 38)),
  og 36 true 40 (sFieldAddr 0 (X 39)),
  og 36 true 41 (sIdxAddrA 2 1 (X 40) (K (.int .i64 0))),
  og 36 true 42 (sLoad 1 false (X 41)),
  og 36 true 43 (sNil (X 42)),
  og 36 true 44 (sFieldAddr 0 (X 43)),
  og 36 true 45 (sLoad 1 false (X 44)),
  og 36 true 46 (sLenSl (X 45)),
  og 36 true 47 (sMov (X 1)),
  og 36 true 48 (sBin .sub .none (X 46) (X 47)),
  og 36 true 49 (sBin .leq .none (X 37) (X 48)),
  o 50 (sPick (X 36) (X 49) (K (.bool false))),
  o 51 (sMov (X 50)),
  og 51 true 52 (sMov (X 3)),
  og 51 true 53 (sBin .geq .none (X 52) (K (.int .i64 0))),
  o 54 (sPick (X 51) (X 53) (K (.bool false))),
  o 55 (sMov (X 54)),
  og 55 true 56 (sMov (X 3)),
  og 55 true 57 (sMov (X 2)),
  og 55 true 58 (sBin .lss .none (X 56) (X 57)),
  o 59 (sPick (X 55) (X 58) (K (.bool false))),
  o 8 (sMov (X 59))])
 (.ret))
theorem c39 (args : T) (h : AHeap) : (envL prog).call 39 args h = trim h (fin [.tmp 8] (runC (envL prog) (b39 (envL prog)) (args ++ List.replicate (60 - args.length) .undef) h)) :=
 call_tr (fn := Go.Proofs.Try.f39) tab39 (by kernel_rfl) (by rfl) (by kernel_rfl) (fun t h => by kernel_rfl) rfl args h
def tab40 : Nat → Cert := fun i => ⟨0, 0, 0, 0, 0, 0⟩
noncomputable def b40 (E : Env) : CT :=
 .seq (.reg [o 4 (sMov (K (.int .i64 0)))])
 (.seq (.seq (.reg [o 5 (sMov (X 1)),
  o 6 (sBin .lss .none (X 5) (K (.int .i64 0))),
  o 7 (sMov (X 6)),
  og 7 false 8 (sMov (X 1)),
  og 7 false 9 (sBin .gtr .none (X 8) (K (.int .i64 1))),
  o 10 (sPick (X 7) (K (.bool true)) (X 9))])
 (.ite (X 10)
 (.seq (.reg [o 4 (sMov (K (.int .i64 1)))])
 (.ret))
 (.skip)))
 (.seq (.seq (.reg [o 11 (sMov (X 0)),
  o 12 (sCall E 47 [(X 11)]),
  o 13 (sUn .not (X 12))])
 (.ite (X 13)
 (.seq (.reg [o 4 (sMov (K (.int .i64 14)))])
 (.ret))
 (.skip)))
 (.seq (.reg [o 14 (sMov (X 0)),
  o 15 (sMov (X 1)),
  o 16 (sNil (X 14)),
  o 17 (sFieldAddr 0 (X 16)),
  o 18 (sIdxAddrA 2 1 (X 17) (X 15)),
  o 19 (sLoad 1 false (X 18)),
  o 20 (sCall E 56 [(X 19)])])
 (.seq (.reg [o 4 (sMov (K (.int .i64 0)))])
 (.ret)))))
theorem c40 (args : T) (h : AHeap) : (envL prog).call 40 args h = trim h (fin [.tmp 4] (runC (envL prog) (b40 (envL prog)) (args ++ List.replicate (21 - args.length) .undef) h)) :=
 call_tr (fn := Go.Proofs.Try.f40) tab40 (by kernel_rfl) (by rfl) (by kernel_rfl) (fun t h => by kernel_rfl) rfl args h
def tab41 : Nat → Cert := fun i => bif Nat.beq i 3 then ⟨9, 28, 1204831219454517667430912, 1205375831031731303744000, 3618502795827366953002685471137310771426444922040586429189533421666966700034, 134799736147894786528467411103443863008774372855255629045478792888341⟩ else bif Nat.beq i 4 then ⟨10, 37, 632780863763850536154535297024, 632895711716729695124045430784, 1202453802385670739491387509710636926756692504390145349018019389949400046861606505877569845463846524784924950544, 87490028996031122670206936280901218232388791912295872045088926372135104872568498539493599563256692765⟩ else ⟨0, 0, 0, 0, 0, 0⟩
noncomputable def b41 (E : Env) : CT :=
 .seq (.reg [o 1 (sBox (X 0)),
  o 2 (sAlloc (rep 64 (.int .u8 0))),
  o 3 (sMov (K (.int .i64 0)))])
 (.seq (.seq (.reg [o 6 (sFieldAddr 0 (X 1)),
  o 7 (sLoad 1 false (X 6)),
  o 8 (sBin .eql .none (X 7) (K (.int .u8 0))),
  o 9 (sMov (X 8)),
  og 9 false 10 (sFieldAddr 2 (X 1)),
  og 9 false 11 (sLoad 1 false (X 10)),
  og 9 false 12 (sBin .lss .none (X 11) (K (.int .i64 0))),
  o 13 (sPick (X 9) (K (.bool true)) (X 12)),
  o 14 (sMov (X 13)),
  og 14 false 15 (sFieldAddr 2 (X 1)),
  og 14 false 16 (sLoad 1 false (X 15)),
  og 14 false 17 (sBin .gtr .none (X 16) (K (.int .i64 65535))),
  o 18 (sPick (X 14) (K (.bool true)) (X 17))])
 (.ite (X 18)
 (.seq (.reg [o 19 (sBuild (rep 64 (.int .u8 0)) []),
  u (sStore 64 (X 2) (X 19)),
  o 3 (sMov (K (.int .i64 11)))])
 (.ret))
 (.skip)))
 (.seq (.drw [.op (o 20 (sFieldAddr 0 (X 1))),
  .rd 1 (o 21 (sLoad 1 false (X 20))),
  .op (o 22 (sBuildSl 1 1 [.int .u8 0] [(0, 1, (X 21))])),
  .op (o 23 (sFieldAddr 1 (X 1))),
  .op (o 24 (sLoad 1 false (X 23))),
  .op (o 25 (sConv (.int .u64) (X 24))),
  .hv 56 (o 26 (sCall E 57 [(X 25), (K (.int .i64 4))])),
  .hv 127 (o 27 (sApp (ty 1 false 1 [.int .u8 0]) (X 22) (X 26))),
  .op (o 4 (sMov (X 27)))])
 (.seq (.drw [.op (o 28 (sMov (X 4))),
  .op (o 29 (sFieldAddr 2 (X 1))),
  .op (o 30 (sLoad 1 false (X 29))),
  .op (o 31 (sConv (.int .u64) (X 30))),
  .op (o 34 (sFieldAddr 3 (X 1))),
  .rd 7 (o 35 (sSliceA 48 1 (X 34) none none none)),
  .hv 14 (o 32 (sCall E 57 [(X 31), (K (.int .i64 2))])),
  .hv 31 (o 33 (sApp (ty 1 false 1 [.int .u8 0]) (X 28) (X 32))),
  .hv 255 (o 36 (sApp (ty 1 false 1 [.int .u8 0]) (X 33) (X 35))),
  .op (o 4 (sMov (X 36)))])
 (.seq (.reg [o 37 (sMov (X 4)),
  o 38 (sMov (X 4)),
  o 39 (sCall E 58 [(X 38)]),
  o 40 (sCall E 57 [(X 39), (K (.int .i64 8))]),
  o 41 (sApp (ty 1 false 1 [.int .u8 0]) (X 37) (X 40)),
  o 4 (sMov (X 41))])
 (.seq (.reg [o 5 (sAlloc (rep 64 (.int .u8 0)))])
 (.seq (.reg [o 42 (sSliceA 64 1 (X 5) none none none),
  o 43 (sMov (X 4)),
  o 44 (sCopy (ty 1 false 1 [.int .u8 0]) (X 42) (X 43))])
 (.seq (.reg [o 45 (sLoad 64 true (X 5)),
  u (sStore 64 (X 2) (X 45)),
  o 3 (sMov (K (.int .i64 0)))])
 (.ret))))))))
theorem c41 (args : T) (h : AHeap) : (envL prog).call 41 args h = trim h (fin [.cell 2 64 true, .tmp 3] (runC (envL prog) (b41 (envL prog)) (args ++ List.replicate (46 - args.length) .undef) h)) :=
 call_tr (fn := Go.Proofs.Try.f41) tab41 (by kernel_rfl) (by rfl) (by kernel_rfl) (fun t h => by kernel_rfl) rfl args h
def tab42 : Nat → Cert := fun i => ⟨0, 0, 0, 0, 0, 0⟩
noncomputable def l42x0 (E : Env) : CT :=
 .seq (.seq (.reg [o 18 (sMov (X 13)),
  o 19 (sMov (X 2)),
  o 20 (sBin .lss .none (X 18) (X 19))])
 (.ite (X 20)
 (.skip)
 (.exit 0)))
 (.seq (.block 1 (.seq (.reg [o 24 (sMov (X 0)),
  o 25 (sMov (X 1)),
  o 26 (sMov (X 3)),
  o 27 (sMov (X 13)),
  o 28 (sBin .add .none (X 26) (X 27)),
  o 29 (sMov (X 2)),
  o 30 (sBin .rem .none (X 28) (X 29)),
  o 31 (sBin .add .none (X 25) (X 30)),
  o 32 (sCall E 59 [(X 24), (K (.int .i64 0)), (X 31)]),
  o 23 (sMov (X 32)),
  o 33 (sExtract (X 23) 0),
  o 34 (sExtract (X 23) 1),
  o 14 (sAlloc (rep 64 (.int .u8 0))),
  u (sStore 64 (X 14) (X 33)),
  o 15 (sMov (X 34))])
 (.seq (.seq (.reg [o 35 (sMov (X 15)),
  o 36 (sBin .neq .none (X 35) (K (.int .i64 0)))])
 (.ite (X 36)
 (.seq (.reg [o 37 (sMov (X 15)),
  o 10 (sMov (K (.nilSl))),
  o 11 (sMov (X 37))])
 (.ret))
 (.skip)))
 (.seq (.reg [o 39 (sLoad 64 true (X 14)),
  o 40 (sCall E 60 [(X 39)]),
  o 38 (sMov (X 40)),
  o 41 (sExtract (X 38) 0),
  o 42 (sExtract (X 38) 1),
  o 16 (sAlloc ([.int .u8 0, .int .u32 0, .int .i64 0] ++ rep 48 (.int .u8 0))),
  u (sStore 51 (X 16) (X 41)),
  o 17 (sMov (X 42))])
 (.seq (.seq (.reg [o 43 (sMov (X 17)),
  o 44 (sBin .neq .none (X 43) (K (.int .i64 0))),
  o 45 (sMov (X 44)),
  og 45 false 46 (sFieldAddr 1 (X 16)),
  og 45 false 47 (sLoad 1 false (X 46)),
  og 45 false 48 (sMov (X 4)),
  og 45 false 49 (sBin .neq .none (X 47) (X 48)),
  o 50 (sPick (X 45) (K (.bool true)) (X 49))])
 (.ite (X 50)
 (.seq (.reg [o 10 (sMov (K (.nilSl))),
  o 11 (sMov (K (.int .i64 0)))])
 (.ret))
 (.skip)))
 (.seq (.seq (.reg [o 51 (sFieldAddr 0 (X 16)),
  o 52 (sLoad 1 false (X 51)),
  o 53 (sBin .eql .none (X 52) (K (.int .u8 67)))])
 (.ite (X 53)
 (.seq (.seq (.reg [o 54 (sMov (X 13)),
  o 55 (sBin .lss .none (X 54) (K (.int .i64 1))),
  o 56 (sMov (X 55)),
  og 56 false 57 (sFieldAddr 2 (X 16)),
  og 56 false 58 (sLoad 1 false (X 57)),
  og 56 false 59 (sMov (X 13)),
  og 56 false 60 (sBin .neq .none (X 58) (X 59)),
  o 61 (sPick (X 56) (K (.bool true)) (X 60)),
  o 62 (sMov (X 61)),
  og 62 false 63 (sFieldAddr 3 (X 16)),
  og 62 false 64 (sLoad 48 true (X 63)),
  og 62 false 65 (sBuild (rep 48 (.int .u8 0)) []),
  og 62 false 66 (sBin .neq (.flat 48) (X 64) (X 65)),
  o 67 (sPick (X 62) (K (.bool true)) (X 66))])
 (.ite (X 67)
 (.seq (.reg [o 10 (sMov (K (.nilSl))),
  o 11 (sMov (K (.int .i64 0)))])
 (.ret))
 (.skip)))
 (.seq (.reg [o 68 (sMov (X 12)),
  o 10 (sMov (X 68)),
  o 11 (sMov (K (.int .i64 0)))])
 (.ret)))
 (.skip)))
 (.seq (.seq (.reg [o 69 (sFieldAddr 0 (X 16)),
  o 70 (sLoad 1 false (X 69)),
  o 71 (sBin .neq .none (X 70) (K (.int .u8 73)))])
 (.ite (X 71)
 (.seq (.reg [o 10 (sMov (K (.nilSl))),
  o 11 (sMov (K (.int .i64 0)))])
 (.ret))
 (.skip)))
 (.reg [o 72 (sMov (X 12)),
  o 73 (sFieldAddr 2 (X 16)),
  o 74 (sLoad 1 false (X 73)),
  o 75 (sFieldAddr 3 (X 16)),
  o 76 (sLoad 48 true (X 75)),
  o 77 (sBuild ([.int .i64 0] ++ rep 48 (.int .u8 0)) [(0, 1, (X 74)), (1, 48, (X 76))]),
  o 78 (sBuildSl 49 1 ([.int .i64 0] ++ rep 48 (.int .u8 0)) [(0, 49, (X 77))]),
  o 79 (sApp (ty 49 true 56 ([.int .i64 0] ++ rep 48 (.int .u8 0))) (X 72) (X 78)),
  o 12 (sMov (X 79))]))))))))
 (.reg [o 21 (sMov (X 13)),
  o 22 (sBin .add .none (X 21) (K (.int .i64 1))),
  o 13 (sMov (X 22))]))
noncomputable def b42 (E : Env) : CT :=
 .seq (.reg [o 10 (sMov (K (.nilSl))),
  o 11 (sMov (K (.int .i64 0)))])
 (.seq (.reg [o 12 (sMov (K (.nilSl)))])
 (.seq (.seq (.reg [o 13 (sMov (K (.int .i64 0)))])
 (.block 0 (.loop (l42x0 E))))
 (.seq (.reg [o 10 (sMov (K (.nilSl))),
  o 11 (sMov (K (.int .i64 0)))])
 (.ret))))
theorem c42 (args : T) (h : AHeap) : (envL prog).call 42 args h = trim h (fin [.tmp 10, .tmp 11] (runC (envL prog) (b42 (envL prog)) (args ++ List.replicate (80 - args.length) .undef) h)) :=
 call_tr (fn := Go.Proofs.Try.f42) tab42 (by kernel_rfl) (by rfl) (by kernel_rfl) (fun t h => by kernel_rfl) rfl args h
def tab43 : Nat → Cert := fun i => ⟨0, 0, 0, 0, 0, 0⟩
noncomputable def b43 (E : Env) : CT :=
 .seq (.reg [o 1 (sBox (X 0)),
  o 2 (sMov (K (.nilFn)))])
 (.seq (.reg [o 3 (sFun 61 [(X 1)]),
  o 2 (sMov (X 3))])
 (.ret))
theorem c43 (args : T) (h : AHeap) : (envL prog).call 43 args h = trim h (fin [.tmp 2] (runC (envL prog) (b43 (envL prog)) (args ++ List.replicate (4 - args.length) .undef) h)) :=
 call_tr (fn := Go.Proofs.Try.f43) tab43 (by kernel_rfl) (by rfl) (by kernel_rfl) (fun t h => by kernel_rfl) rfl args h
def tab44 : Nat → Cert := fun i => bif Nat.beq i 5 then ⟨15, 27, 26958403959549888149344569025392404666591617643737292647416287232000, 26958403959549888150062485068446689780652572650192482284576362758144, 41316003051598356482886883493448511707212038774026870031769154374169712594675733412590313231018312710636208542748751429640, 32108981546607407300751618644398465448199415814395691204548850747716658886647120157906909070873166656569359⟩ else bif Nat.beq i 6 then ⟨16, 42, 32568512803470550645393573733809859160744000307194366821566735572094439915520, 57894719432808791170548164174149555654123880036824808451965444550301809901568, 9798364629532431727371310397152280956259830051646665248346911002130553142684651277069887421851185631079593245071208888103544659086898087434058495659370836742086673845205465351121406252158624020165558304, 191586861872849574526409803849566035996408737687059191989839270643305954303005315111254799628450083587106228976032587859035377870022762624278392373795345829949058750264695825209319422829789212⟩ else ⟨0, 0, 0, 0, 0, 0⟩
noncomputable def aq44x0 (E : Env) : CT :=
 .reg [o 5 (sMov (X 10))]
noncomputable def bq44x0 (E : Env) : CT :=
 .block 1 (.seq (.reg [o 6 (sMov (K (.int .i64 0)))])
 (.seq (.seq (.reg [o 11 (sLoad 1 false (X 3)),
  o 12 (sLenSl (X 11)),
  o 13 (sBin .gtr .none (X 12) (K (.int .i64 0)))])
 (.ite (X 13)
 (.drw [.op (o 14 (sLoad 1 false (X 3))),
  .op (o 15 (sIdxAddrS 1 (X 14) (K (.int .i64 0)))),
  .op (o 16 (sLoad 1 false (X 15))),
  .op (o 17 (sConv (.int .i64) (X 16))),
  .op (o 18 (sMov (X 5))),
  .op (o 19 (sNil (X 18))),
  .op (o 20 (sFieldAddr 64 (X 19))),
  .op (o 21 (sLoad 1 false (X 20))),
  .op (o 22 (sLenSl (X 21))),
  .op (o 23 (sBin .add .none (X 22) (K (.int .i64 1)))),
  .op (o 24 (sBin .rem .none (X 17) (X 23))),
  .op (o 25 (sLoad 1 false (X 3))),
  .op (o 26 (sSliceS 1 (X 25) (some (K (.int .i64 1))) none none)),
  .op (o 6 (sMov (X 24))),
  .hv 16383 (u (sStore 1 (X 3) (X 26)))])
 (.skip)))
 (.drw [.op (o 27 (sMov (X 5))),
  .op (o 28 (sMov (X 5))),
  .op (o 29 (sNil (X 28))),
  .op (o 30 (sFieldAddr 0 (X 29))),
  .op (o 31 (sLoad 64 true (X 30))),
  .op (o 32 (sBuildSl 64 1 (rep 64 (.int .u8 0)) [(0, 64, (X 31))])),
  .op (o 33 (sMov (X 5))),
  .op (o 34 (sNil (X 33))),
  .op (o 35 (sFieldAddr 64 (X 34))),
  .op (o 36 (sLoad 1 false (X 35))),
  .op (o 37 (sBuildSl 1 2 [.nilSl] [(0, 1, (X 32)), (1, 1, (X 36))])),
  .op (o 39 (sMov (X 6))),
  .hv 2046 (o 38 (sCall E 64 [(X 37)])),
  .op (o 40 (sIdxAddrS 64 (X 38) (X 39))),
  .op (o 41 (sLoad 64 true (X 40))),
  .hv 32767 (o 42 (sCall E 63 [(X 27), (X 41)]))])))
noncomputable def kaq44x0 : Code := (nthRange Go.Proofs.Try.f44 0).1
noncomputable def kbq44x0 : Code := (nthRange Go.Proofs.Try.f44 0).2
theorem eaq44x0 (E : Env) (t : T) (h : AHeap) : evalCode prog E kaq44x0 t h = runC E (aq44x0 E) t h := code_tr tab44 (by kernel_rfl) t h
theorem ebq44x0 (E : Env) (t : T) (h : AHeap) : evalCode prog E kbq44x0 t h = runC E (bq44x0 E) t h := code_tr tab44 (by kernel_rfl) t h
noncomputable def b44 (E : Env) : CT :=
 .seq (.reg [o 3 (sBox (X 1))])
 (.seq (.reg [o 7 (sMov (X 0)),
  o 8 (sCall E 62 [(X 7)])])
 (.block 0 (.range (X 8) [9, 10] kaq44x0 kbq44x0)))
theorem c44 (args : T) (h : AHeap) : (envL prog).call 44 args h = trim h (fin [] (runC (envL prog) (b44 (envL prog)) (args ++ List.replicate (43 - args.length) .undef) h)) :=
 call_tr (fn := Go.Proofs.Try.f44) tab44 (by kernel_rfl) (by rfl) (by kernel_rfl) (fun t h => by kernel_rfl) rfl args h
def tab45 : Nat → Cert := fun i => bif Nat.beq i 6 then ⟨16, 39, 57894499060520572822206693729840612444508050374589910384563499322703075082240, 57894719459756422063657474061976869316426297229181806460504787096150080487424, 34808659497271368703709807154164128511636959166120170916028166739065474856820324973162510843581250686427501689647349109247543708999209022870666279355202710985799429306889812936156034105346, 1013065324442819602576778102405587808709489878877588893422334018261659087869740997942213510734047807652583088156853100891436557520847740564791578429061086656357146605051376042009⟩ else bif Nat.beq i 8 then ⟨18, 58, 17087798509174176143800907977037213708092101194253355522027936777744683374665566101302543586164736, 17087798509205198181906215676793245915741783790343326690573317261216964907056515600971145031188480, 141376340743604082394857044398831513403190636248554811725723324938359309249223681215442001639674562883364092683753288315903619064551512021592500628865968454935764436150368876654679323166743900936576431919310617497826167019934499854421208647316829630444318341894887226507159086460338610282146708757408013133279133697, 131602448565233486841366306897175439468872248735296479600467313270307969522335160580297276307215704020650407327718792977953500413000671032501398717606397410098044978754325587462300153137645984123243351797293015519657324374672383414647893395308507237369492751656203446411334535610410⟩ else ⟨0, 0, 0, 0, 0, 0⟩
noncomputable def l45x0 (E : Env) : CT :=
 .seq (.seq (.reg [o 10 (sMov (X 5)),
  o 11 (sMov (X 4)),
  o 12 (sLenSl (X 11)),
  o 13 (sBin .lss .none (X 10) (X 12))])
 (.ite (X 13)
 (.skip)
 (.exit 0)))
 (.seq (.block 1 (.seq (.reg [o 16 (sMov (X 4)),
  o 17 (sMov (X 5)),
  o 18 (sIdxAddrS 1 (X 16) (X 17)),
  o 19 (sLoad 1 false (X 18)),
  o 6 (sMov (X 19))])
 (.seq (.seq (.reg [o 20 (sMov (X 5)),
  o 21 (sMov (X 1)),
  o 22 (sLenSl (X 21)),
  o 23 (sBin .lss .none (X 20) (X 22))])
 (.ite (X 23)
 (.seq (.drw [.op (o 24 (sMov (X 1))),
  .op (o 25 (sMov (X 5))),
  .op (o 26 (sIdxAddrS 1 (X 24) (X 25))),
  .op (o 27 (sLoad 1 false (X 26))),
  .op (o 28 (sConv (.int .i64) (X 27))),
  .op (o 29 (sMov (X 0))),
  .op (o 30 (sNil (X 29))),
  .op (o 31 (sFieldAddr 1 (X 30))),
  .op (o 32 (sLoad 1 false (X 31))),
  .op (o 33 (sMov (X 6))),
  .op (o 34 (sIdxAddrS 1 (X 32) (X 33))),
  .op (o 35 (sLoad 1 false (X 34))),
  .op (o 36 (sLenSl (X 35))),
  .op (o 37 (sBin .add .none (X 36) (K (.int .i64 1)))),
  .op (o 38 (sBin .rem .none (X 28) (X 37))),
  .op (o 7 (sMov (X 38)))])
 (.seq (.reg [o 39 (sMov (X 7)),
  o 40 (sBin .gtr .none (X 39) (K (.int .i64 0)))])
 (.ite (X 40)
 (.drw [.op (o 41 (sMov (X 0))),
  .op (o 42 (sNil (X 41))),
  .op (o 43 (sFieldAddr 0 (X 42))),
  .op (o 44 (sLoad 1 false (X 43))),
  .op (o 45 (sMov (X 6))),
  .op (o 46 (sMov (X 0))),
  .op (o 47 (sNil (X 46))),
  .op (o 48 (sFieldAddr 1 (X 47))),
  .op (o 49 (sLoad 1 false (X 48))),
  .op (o 50 (sMov (X 6))),
  .op (o 51 (sIdxAddrS 1 (X 49) (X 50))),
  .op (o 52 (sLoad 1 false (X 51))),
  .op (o 53 (sMov (X 7))),
  .op (o 54 (sBin .sub .none (X 53) (K (.int .i64 1)))),
  .op (o 55 (sIdxAddrS 64 (X 52) (X 54))),
  .op (o 56 (sLoad 64 true (X 55))),
  .op (o 57 (sIdxAddrS 64 (X 44) (X 45))),
  .hv 131071 (u (sStore 64 (X 57) (X 56)))])
 (.skip))))
 (.skip)))
 (.reg [o 58 (sMov (X 0)),
  o 59 (sNil (X 58)),
  o 60 (sFieldAddr 1 (X 59)),
  o 61 (sLoad 1 false (X 60)),
  o 62 (sMov (X 6)),
  o 63 (sIdxAddrS 1 (X 61) (X 62)),
  u (sStore 1 (X 63) (K (.nilSl)))]))))
 (.reg [o 14 (sMov (X 5)),
  o 15 (sBin .add .none (X 14) (K (.int .i64 1))),
  o 5 (sMov (X 15))]))
noncomputable def b45 (E : Env) : CT :=
 .seq (.reg [o 8 (sMov (X 0)),
  o 9 (sCall E 65 [(X 8)]),
  o 4 (sMov (X 9))])
 (.seq (.reg [o 5 (sMov (K (.int .i64 0)))])
 (.block 0 (.loop (l45x0 E))))
theorem c45 (args : T) (h : AHeap) : (envL prog).call 45 args h = trim h (fin [] (runC (envL prog) (b45 (envL prog)) (args ++ List.replicate (64 - args.length) .undef) h)) :=
 call_tr (fn := Go.Proofs.Try.f45) tab45 (by kernel_rfl) (by rfl) (by kernel_rfl) (fun t h => by kernel_rfl) rfl args h
def tab46 : Nat → Cert := fun i => ⟨0, 0, 0, 0, 0, 0⟩
noncomputable def b46 (E : Env) : CT :=
 .seq (.reg [o 6 (sMov (K (.bool false)))])
 (.seq (.reg [o 7 (sMov (X 1)),
  o 8 (sBin .geq .none (X 7) (K (.int .i64 0))),
  o 9 (sMov (X 8)),
  og 9 true 10 (sMov (X 1)),
  og 9 true 11 (sBin .leq .none (X 10) (K (.int .i64 1))),
  o 12 (sPick (X 9) (X 11) (K (.bool false))),
  o 13 (sMov (X 12)),
  og 13 true 14 (sMov (X 0)),
  og 13 true 15 (sMov (X 1)),
  og 13 true 16 (sNil (X 14)),
  og 13 true 17 (sFieldAddr 0 (X 16)),
  og 13 true 18 (sIdxAddrA 2 1 (X 17) (X 15)),
  og 13 true 19 (sLoad 1 false (X 18)),
  og 13 true 20 (sMov (X 2)),
  og 13 true 21 (sCall E 66 [(X 19), (X 20)]),
  o 22 (sPick (X 13) (X 21) (K (.bool false))),
  o 6 (sMov (X 22))])
 (.ret))
theorem c46 (args : T) (h : AHeap) : (envL prog).call 46 args h = trim h (fin [.tmp 6] (runC (envL prog) (b46 (envL prog)) (args ++ List.replicate (23 - args.length) .undef) h)) :=
 call_tr (fn := Go.Proofs.Try.f46) tab46 (by kernel_rfl) (by rfl) (by kernel_rfl) (fun t h => by kernel_rfl) rfl args h
def tab47 : Nat → Cert := fun i => ⟨0, 0, 0, 0, 0, 0⟩
noncomputable def b47 (E : Env) : CT :=
 .seq (.reg [o 2 (sMov (K (.bool false)))])
 (.seq (.seq (.reg [o 3 (sMov (X 0)),
  o 4 (sNil (X 3)),
  o 5 (sFieldAddr 3 (X 4)),
  o 6 (sLoad 1 false (X 5))])
 (.ite (X 6)
 (.seq (.reg [o 2 (sMov (K (.bool false)))])
 (.ret))
 (.skip)))
 (.seq (.seq (.reg [o 7 (sMov (X 0)),
  o 8 (sNil (X 7)),
  o 9 (sFieldAddr 2 (X 8)),
  o 10 (sLoad 1 false (X 9)),
  o 11 (sBin .eql .none (X 10) (K (.int .i64 0)))])
 (.ite (X 11)
 (.seq (.reg [o 12 (sMov (X 0)),
  o 13 (sNil (X 12)),
  o 14 (sFieldAddr 3 (X 13)),
  u (sStore 1 (X 14) (K (.bool true)))])
 (.seq (.reg [o 2 (sMov (K (.bool false)))])
 (.ret)))
 (.skip)))
 (.seq (.seq (.reg [o 15 (sMov (X 0)),
  o 16 (sNil (X 15)),
  o 17 (sFieldAddr 2 (X 16)),
  o 18 (sLoad 1 false (X 17)),
  o 19 (sBin .gtr .none (X 18) (K (.int .i64 0)))])
 (.ite (X 19)
 (.reg [o 20 (sMov (X 0)),
  o 21 (sNil (X 20)),
  o 22 (sFieldAddr 2 (X 21)),
  o 23 (sLoad 1 false (X 22)),
  o 24 (sBin .sub .none (X 23) (K (.int .i64 1))),
  o 25 (sNil (X 20)),
  o 26 (sFieldAddr 2 (X 25)),
  u (sStore 1 (X 26) (X 24))])
 (.skip)))
 (.seq (.reg [o 27 (sMov (X 0)),
  o 28 (sNil (X 27)),
  o 29 (sFieldAddr 4 (X 28)),
  o 30 (sLoad 1 false (X 29)),
  o 31 (sBin .add .none (X 30) (K (.int .i64 1))),
  o 32 (sNil (X 27)),
  o 33 (sFieldAddr 4 (X 32)),
  u (sStore 1 (X 33) (X 31))])
 (.seq (.reg [o 2 (sMov (K (.bool true)))])
 (.ret))))))
theorem c47 (args : T) (h : AHeap) : (envL prog).call 47 args h = trim h (fin [.tmp 2] (runC (envL prog) (b47 (envL prog)) (args ++ List.replicate (34 - args.length) .undef) h)) :=
 call_tr (fn := Go.Proofs.Try.f47) tab47 (by kernel_rfl) (by rfl) (by kernel_rfl) (fun t h => by kernel_rfl) rfl args h
def tab48 : Nat → Cert := fun i => bif Nat.beq i 1 then ⟨19, 24, 2348535863523853791105450200773008654696971239293617030742810327048833271327759456797687635722100800311787520, 2348535863524653743281500658797942481951153136368985958260569294988113290916584953977976583696198478837841920, 139553035065772008243529579064217877882448948171486683807796901488523703184153732212569022935129305120331076380493891883384153040228450305, 15865344157212160559858749964676423192414779041927635345369528807001250860304164426822665433518008844716299280835006496243719⟩ else ⟨0, 0, 0, 0, 0, 0⟩
noncomputable def b48 (E : Env) : CT :=
 .seq (.reg [o 5 (sBox (X 2))])
 (.drw [.op (o 6 (sMov (X 0))),
  .op (o 7 (sNil (X 6))),
  .op (o 8 (sFieldAddr 1 (X 7))),
  .rd 3 (o 9 (sLoad 1 false (X 8))),
  .op (o 10 (sMov (X 1))),
  .op (o 11 (sBuildSl 64 0 (rep 64 (.int .u8 0)) [])),
  .op (o 12 (sMov (X 0))),
  .op (o 13 (sNil (X 12))),
  .op (o 14 (sFieldAddr 1 (X 13))),
  .op (o 15 (sLoad 1 false (X 14))),
  .op (o 16 (sMov (X 1))),
  .op (o 17 (sIdxAddrS 1 (X 15) (X 16))),
  .op (o 18 (sLoad 1 false (X 17))),
  .rd 14 (o 20 (sLoad 64 true (X 5))),
  .op (o 21 (sBuildSl 64 1 (rep 64 (.int .u8 0)) [(0, 64, (X 20))])),
  .hv 8160 (o 19 (sApp (ty 64 true 64 (rep 64 (.int .u8 0))) (X 11) (X 18))),
  .hv 65504 (o 22 (sApp (ty 64 true 64 (rep 64 (.int .u8 0))) (X 19) (X 21))),
  .op (o 23 (sIdxAddrS 1 (X 9) (X 10))),
  .hv 262143 (u (sStore 1 (X 23) (X 22)))])
theorem c48 (args : T) (h : AHeap) : (envL prog).call 48 args h = trim h (fin [] (runC (envL prog) (b48 (envL prog)) (args ++ List.replicate (24 - args.length) .undef) h)) :=
 call_tr (fn := Go.Proofs.Try.f48) tab48 (by kernel_rfl) (by rfl) (by kernel_rfl) (fun t h => by kernel_rfl) rfl args h
def tab49 : Nat → Cert := fun i => ⟨0, 0, 0, 0, 0, 0⟩
noncomputable def b49 (E : Env) : CT :=
 .seq (.reg [o 4 (sMov (K (.int .i64 0)))])
 (.seq (.reg [o 5 (sMov (X 0)),
  o 6 (sMov (X 1)),
  o 7 (sCall E 33 [(X 5), (X 6)]),
  o 8 (sCall E 34 [(X 7)]),
  o 4 (sMov (X 8))])
 (.ret))
theorem c49 (args : T) (h : AHeap) : (envL prog).call 49 args h = trim h (fin [.tmp 4] (runC (envL prog) (b49 (envL prog)) (args ++ List.replicate (9 - args.length) .undef) h)) :=
 call_tr (fn := Go.Proofs.Try.f49) tab49 (by kernel_rfl) (by rfl) (by kernel_rfl) (fun t h => by kernel_rfl) rfl args h
def tab50 : Nat → Cert := fun i => bif Nat.beq i 1 then ⟨12, 19, 11145947599272415426319051049023380488458240, 11145947599277408019301084222786500751790080, 215679779125708411280124299989734837695378353205502724816359087144964, 6582018229305776364563673202989529201893575392723175648128401420⟩ else ⟨0, 0, 0, 0, 0, 0⟩
noncomputable def b50 (E : Env) : CT :=
 .seq (.reg [o 2 (sBox (X 0)),
  o 4 (sAlloc ([.int .u8 0, .int .u32 0, .int .i64 0] ++ rep 48 (.int .u8 0))),
  o 5 (sMov (K (.int .i64 0)))])
 (.seq (.drw [.op (o 11 (sFieldAddr 0 (X 2))),
  .rd 1 (o 12 (sLoad 1 false (X 11))),
  .op (o 13 (sLoad 3 true (X 2))),
  .op (o 14 (sMov (X 1))),
  .op (o 6 (sAlloc (rep 64 (.int .u8 0)))),
  .hv 12 (o 15 (sCall E 52 [(X 13), (X 14)])),
  .hv 31 (o 16 (sCall E 15 [(X 12), (K (.int .i64 0)), (X 15)])),
  .op (o 10 (sMov (X 16))),
  .op (o 17 (sExtract (X 10) 0)),
  .op (o 18 (sExtract (X 10) 1)),
  .hv 767 (u (sStore 64 (X 6) (X 17))),
  .op (o 7 (sMov (X 18)))])
 (.seq (.seq (.reg [o 19 (sMov (X 7)),
  o 20 (sBin .neq .none (X 19) (K (.int .i64 0)))])
 (.ite (X 20)
 (.seq (.reg [o 21 (sBuild ([.int .u8 0, .int .u32 0, .int .i64 0] ++ rep 48 (.int .u8 0)) []),
  o 22 (sMov (X 7)),
  u (sStore 51 (X 4) (X 21)),
  o 5 (sMov (X 22))])
 (.ret))
 (.skip)))
 (.seq (.reg [o 24 (sLoad 64 true (X 6)),
  o 25 (sCall E 67 [(X 24)]),
  o 23 (sMov (X 25)),
  o 26 (sExtract (X 23) 0),
  o 27 (sExtract (X 23) 1),
  o 8 (sAlloc ([.int .u8 0, .int .u32 0, .int .i64 0] ++ rep 48 (.int .u8 0))),
  u (sStore 51 (X 8) (X 26)),
  o 9 (sMov (X 27))])
 (.seq (.reg [o 28 (sLoad 51 true (X 8)),
  u (sStore 51 (X 4) (X 28)),
  o 5 (sMov (K (.int .i64 0)))])
 (.ret)))))
theorem c50 (args : T) (h : AHeap) : (envL prog).call 50 args h = trim h (fin [.cell 4 51 true, .tmp 5] (runC (envL prog) (b50 (envL prog)) (args ++ List.replicate (29 - args.length) .undef) h)) :=
 call_tr (fn := Go.Proofs.Try.f50) tab50 (by kernel_rfl) (by rfl) (by kernel_rfl) (fun t h => by kernel_rfl) rfl args h
def tab51 : Nat → Cert := fun i => bif Nat.beq i 3 then ⟨16, 35, 57894526236596036054102216008482104483436123116371973785223273237020632219648, 57894719459769162069146520466190651187916787896686767623482984047170088402944, 1886981212438229866761805842837787843605093289383302725905796446503706605049098716136589006303471204711884953819759108618117852663610314803523557901609294702197105229826, 549183812922332245245040427627451736898204523672442558751659547132529489466239648189258142711064070404050468212255458578552232909754819908674597985809973903381⟩ else bif Nat.beq i 5 then ⟨7, 41, 145756166029312, 278110951964672, 128216146886929921927850503196036924230834827715905375395617552476794585257445855068192, 4749284910126405380633972412599523917002015105179543337250422380877188169764⟩ else ⟨0, 0, 0, 0, 0, 0⟩
noncomputable def b51 (E : Env) : CT :=
 .seq (.reg [o 1 (sBox (X 0)),
  o 2 (sAlloc (rep 64 (.int .u8 0))),
  o 3 (sMov (K (.int .i64 0)))])
 (.seq (.seq (.reg [o 6 (sFieldAddr 0 (X 1)),
  o 7 (sLoad 1 false (X 6)),
  o 8 (sBin .eql .none (X 7) (K (.int .u8 0))),
  o 9 (sMov (X 8)),
  og 9 false 10 (sFieldAddr 2 (X 1)),
  og 9 false 11 (sLoad 1 false (X 10)),
  og 9 false 12 (sBin .lss .none (X 11) (K (.int .i64 0))),
  o 13 (sPick (X 9) (K (.bool true)) (X 12)),
  o 14 (sMov (X 13)),
  og 14 false 15 (sFieldAddr 2 (X 1)),
  og 14 false 16 (sLoad 1 false (X 15)),
  og 14 false 17 (sBin .gtr .none (X 16) (K (.int .i64 65535))),
  o 18 (sPick (X 14) (K (.bool true)) (X 17))])
 (.ite (X 18)
 (.seq (.reg [o 19 (sBuild (rep 64 (.int .u8 0)) []),
  u (sStore 64 (X 2) (X 19)),
  o 3 (sMov (K (.int .i64 11)))])
 (.ret))
 (.skip)))
 (.seq (.drw [.op (o 20 (sFieldAddr 0 (X 1))),
  .rd 1 (o 21 (sLoad 1 false (X 20))),
  .op (o 22 (sBuildSl 1 1 [.int .u8 0] [(0, 1, (X 21))])),
  .op (o 23 (sFieldAddr 1 (X 1))),
  .op (o 24 (sLoad 1 false (X 23))),
  .op (o 25 (sConv (.int .u64) (X 24))),
  .op (o 27 (sFieldAddr 2 (X 1))),
  .rd 8 (o 28 (sLoad 1 false (X 27))),
  .rd 9 (o 29 (sConv (.int .u64) (X 28))),
  .op (o 31 (sFieldAddr 3 (X 1))),
  .rd 12 (o 32 (sSliceA 48 1 (X 31) none none none)),
  .hv 56 (o 26 (sCall E 69 [(X 25), (K (.int .i64 4))])),
  .hv 1016 (o 30 (sCall E 69 [(X 29), (K (.int .i64 2))])),
  .op (o 33 (sBuildSl 1 4 [.nilSl] [(0, 1, (X 22)), (1, 1, (X 26)), (2, 1, (X 30)), (3, 1, (X 32))])),
  .hv 16383 (o 34 (sCall E 68 [(X 33)])),
  .op (o 4 (sMov (X 34)))])
 (.seq (.reg [o 5 (sAlloc (rep 64 (.int .u8 0)))])
 (.seq (.drw [.rd 0 (o 35 (sSliceA 64 1 (X 5) none none none)),
  .op (o 36 (sMov (X 4))),
  .op (o 37 (sMov (X 4))),
  .hv 4 (o 38 (sCall E 70 [(X 37)])),
  .hv 12 (o 39 (sCall E 69 [(X 38), (K (.int .i64 8))])),
  .hv 30 (o 40 (sApp (ty 1 false 1 [.int .u8 0]) (X 36) (X 39))),
  .hv 63 (o 41 (sCopy (ty 1 false 1 [.int .u8 0]) (X 35) (X 40)))])
 (.seq (.reg [o 42 (sLoad 64 true (X 5)),
  u (sStore 64 (X 2) (X 42)),
  o 3 (sMov (K (.int .i64 0)))])
 (.ret))))))
theorem c51 (args : T) (h : AHeap) : (envL prog).call 51 args h = trim h (fin [.cell 2 64 true, .tmp 3] (runC (envL prog) (b51 (envL prog)) (args ++ List.replicate (43 - args.length) .undef) h)) :=
 call_tr (fn := Go.Proofs.Try.f51) tab51 (by kernel_rfl) (by rfl) (by kernel_rfl) (fun t h => by kernel_rfl) rfl args h
def tab52 : Nat → Cert := fun i => bif Nat.beq i 1 then ⟨8, 12, 9160906616617304320, 9169078187034935552, 39619219929807351788096061444, 96770746651916688771018758⟩ else ⟨0, 0, 0, 0, 0, 0⟩
noncomputable def b52 (E : Env) : CT :=
 .seq (.reg [o 2 (sBox (X 0)),
  o 4 (sMov (K (.int .i64 0)))])
 (.seq (.drw [.op (o 5 (sFieldAddr 1 (X 2))),
  .op (o 6 (sLoad 1 false (X 5))),
  .op (o 7 (sMov (X 1))),
  .op (o 8 (sFieldAddr 2 (X 2))),
  .op (o 9 (sLoad 1 false (X 8))),
  .op (o 10 (sBin .rem .none (X 7) (X 9))),
  .op (o 11 (sBin .add .none (X 6) (X 10))),
  .op (o 4 (sMov (X 11)))])
 (.ret))
theorem c52 (args : T) (h : AHeap) : (envL prog).call 52 args h = trim h (fin [.tmp 4] (runC (envL prog) (b52 (envL prog)) (args ++ List.replicate (12 - args.length) .undef) h)) :=
 call_tr (fn := Go.Proofs.Try.f52) tab52 (by kernel_rfl) (by rfl) (by kernel_rfl) (fun t h => by kernel_rfl) rfl args h
def tab53 : Nat → Cert := fun i => ⟨0, 0, 0, 0, 0, 0⟩
noncomputable def aq53x0 (E : Env) : CT :=
 .reg [o 4 (sMov (X 10))]
noncomputable def bq53x0 (E : Env) : CT :=
 .block 1 (.reg [o 11 (sMov (X 4)),
  o 12 (sMov (X 4)),
  o 13 (sCall E 55 [(X 12)]),
  o 14 (sCall E 63 [(X 11), (X 13)])])
noncomputable def kaq53x0 : Code := (nthRange Go.Proofs.Try.f53 0).1
noncomputable def kbq53x0 : Code := (nthRange Go.Proofs.Try.f53 0).2
theorem eaq53x0 (E : Env) (t : T) (h : AHeap) : evalCode prog E kaq53x0 t h = runC E (aq53x0 E) t h := code_tr tab53 (by kernel_rfl) t h
theorem ebq53x0 (E : Env) (t : T) (h : AHeap) : evalCode prog E kbq53x0 t h = runC E (bq53x0 E) t h := code_tr tab53 (by kernel_rfl) t h
noncomputable def b53 (E : Env) : CT :=
 .seq (.reg [o 2 (sMov (K (.int .i64 0)))])
 (.seq (.seq (.reg [o 5 (sMov (X 0)),
  o 6 (sBin .eql .ptr (X 5) (K (.nilPtr)))])
 (.ite (X 6)
 (.seq (.reg [o 2 (sMov (K (.int .i64 1)))])
 (.ret))
 (.skip)))
 (.seq (.seq (.reg [o 7 (sMov (X 0)),
  o 8 (sCall E 62 [(X 7)])])
 (.block 0 (.range (X 8) [9, 10] kaq53x0 kbq53x0)))
 (.seq (.reg [o 2 (sMov (K (.int .i64 0)))])
 (.ret))))
theorem c53 (args : T) (h : AHeap) : (envL prog).call 53 args h = trim h (fin [.tmp 2] (runC (envL prog) (b53 (envL prog)) (args ++ List.replicate (15 - args.length) .undef) h)) :=
 call_tr (fn := Go.Proofs.Try.f53) tab53 (by kernel_rfl) (by rfl) (by kernel_rfl) (fun t h => by kernel_rfl) rfl args h
def tab54 : Nat → Cert := fun i => ⟨0, 0, 0, 0, 0, 0⟩
noncomputable def b54 (E : Env) : CT :=
 .seq (.reg [o 4 (sMov (K (.nilPtr)))])
 (.seq (.seq (.reg [o 5 (sMov (X 1)),
  o 6 (sBin .lss .none (X 5) (K (.int .i64 0))),
  o 7 (sMov (X 6)),
  og 7 false 8 (sMov (X 1)),
  og 7 false 9 (sMov (X 0)),
  og 7 false 10 (sCall E 34 [(X 9)]),
  og 7 false 11 (sBin .geq .none (X 8) (X 10)),
  o 12 (sPick (X 7) (K (.bool true)) (X 11))])
 (.ite (X 12)
 (.seq (.reg [o 4 (sMov (K (.nilPtr)))])
 (.ret))
 (.skip)))
 (.seq (.reg [o 13 (sMov (X 0)),
  o 14 (sNil (X 13)),
  o 15 (sFieldAddr 0 (X 14)),
  o 16 (sLoad 1 false (X 15)),
  o 17 (sMov (X 1)),
  o 18 (sIdxAddrS 65 (X 16) (X 17)),
  o 4 (sMov (X 18))])
 (.ret)))
theorem c54 (args : T) (h : AHeap) : (envL prog).call 54 args h = trim h (fin [.tmp 4] (runC (envL prog) (b54 (envL prog)) (args ++ List.replicate (19 - args.length) .undef) h)) :=
 call_tr (fn := Go.Proofs.Try.f54) tab54 (by kernel_rfl) (by rfl) (by kernel_rfl) (fun t h => by kernel_rfl) rfl args h
def tab55 : Nat → Cert := fun i => ⟨0, 0, 0, 0, 0, 0⟩
noncomputable def b55 (E : Env) : CT :=
 .seq (.reg [o 2 (sAlloc (rep 64 (.int .u8 0)))])
 (.seq (.seq (.reg [o 4 (sMov (X 0)),
  o 5 (sNil (X 4)),
  o 6 (sFieldAddr 64 (X 5)),
  o 7 (sLoad 1 false (X 6)),
  o 8 (sLenSl (X 7)),
  o 3 (sMov (X 8))])
 (.seq (.reg [o 9 (sMov (X 3)),
  o 10 (sBin .gtr .none (X 9) (K (.int .i64 0)))])
 (.ite (X 10)
 (.seq (.reg [o 11 (sMov (X 0)),
  o 12 (sNil (X 11)),
  o 13 (sFieldAddr 64 (X 12)),
  o 14 (sLoad 1 false (X 13)),
  o 15 (sMov (X 3)),
  o 16 (sBin .sub .none (X 15) (K (.int .i64 1))),
  o 17 (sIdxAddrS 64 (X 14) (X 16)),
  o 18 (sLoad 64 true (X 17)),
  u (sStore 64 (X 2) (X 18))])
 (.ret))
 (.skip))))
 (.seq (.reg [o 19 (sMov (X 0)),
  o 20 (sNil (X 19)),
  o 21 (sFieldAddr 0 (X 20)),
  o 22 (sLoad 64 true (X 21)),
  u (sStore 64 (X 2) (X 22))])
 (.ret)))
theorem c55 (args : T) (h : AHeap) : (envL prog).call 55 args h = trim h (fin [.cell 2 64 true] (runC (envL prog) (b55 (envL prog)) (args ++ List.replicate (23 - args.length) .undef) h)) :=
 call_tr (fn := Go.Proofs.Try.f55) tab55 (by kernel_rfl) (by rfl) (by kernel_rfl) (fun t h => by kernel_rfl) rfl args h
def tab56 : Nat → Cert := fun i => bif Nat.beq i 3 then ⟨10, 21, 632895749495626639788784747520, 632895749495626639792007021568, 1234128454770867664476151711140822793051635822594139542387687425, 7857036370411782195135753838658542811253232176726029⟩ else ⟨0, 0, 0, 0, 0, 0⟩
noncomputable def l56x0 (E : Env) : CT :=
 .seq (.seq (.reg [o 3 (sMov (X 2)),
  o 4 (sMov (X 0)),
  o 5 (sNil (X 4)),
  o 6 (sFieldAddr 0 (X 5)),
  o 7 (sLoad 1 false (X 6)),
  o 8 (sLenSl (X 7)),
  o 9 (sBin .lss .none (X 3) (X 8))])
 (.ite (X 9)
 (.skip)
 (.exit 0)))
 (.seq (.block 1 (.seq (.drw [.op (o 12 (sMov (X 0))),
  .op (o 13 (sNil (X 12))),
  .op (o 14 (sFieldAddr 0 (X 13))),
  .rd 3 (o 15 (sLoad 1 false (X 14))),
  .op (o 16 (sMov (X 2))),
  .op (o 17 (sMov (X 0))),
  .op (o 18 (sMov (X 2))),
  .hv 96 (o 19 (sCall E 26 [(X 17), (X 18)])),
  .op (o 20 (sIdxAddrS 64 (X 15) (X 16))),
  .hv 511 (u (sStore 64 (X 20) (X 19)))])
 (.reg [o 21 (sMov (X 0)),
  o 22 (sNil (X 21)),
  o 23 (sFieldAddr 1 (X 22)),
  o 24 (sLoad 1 false (X 23)),
  o 25 (sMov (X 2)),
  o 26 (sIdxAddrS 1 (X 24) (X 25)),
  u (sStore 1 (X 26) (K (.nilSl)))])))
 (.reg [o 10 (sMov (X 2)),
  o 11 (sBin .add .none (X 10) (K (.int .i64 1))),
  o 2 (sMov (X 11))]))
noncomputable def b56 (E : Env) : CT :=
 .seq (.reg [o 2 (sMov (K (.int .i64 0)))])
 (.block 0 (.loop (l56x0 E)))
theorem c56 (args : T) (h : AHeap) : (envL prog).call 56 args h = trim h (fin [] (runC (envL prog) (b56 (envL prog)) (args ++ List.replicate (27 - args.length) .undef) h)) :=
 call_tr (fn := Go.Proofs.Try.f56) tab56 (by kernel_rfl) (by rfl) (by kernel_rfl) (fun t h => by kernel_rfl) rfl args h
def tab57 : Nat → Cert := fun i => ⟨0, 0, 0, 0, 0, 0⟩
noncomputable def l57x0 (E : Env) : CT :=
 .seq (.seq (.reg [o 15 (sMov (X 6)),
  o 16 (sMov (X 1)),
  o 17 (sBin .lss .none (X 15) (X 16)),
  o 18 (sMov (X 17)),
  og 18 true 19 (sMov (X 6)),
  og 18 true 20 (sBin .lss .none (X 19) (K (.int .i64 8))),
  o 21 (sPick (X 18) (X 20) (K (.bool false)))])
 (.ite (X 21)
 (.skip)
 (.exit 0)))
 (.seq (.block 1 (.reg [o 24 (sMov (X 5)),
  o 25 (sMov (X 6)),
  o 26 (sMov (X 0)),
  o 27 (sMov (X 6)),
  o 28 (sBin .mul .none (K (.int .i64 8)) (X 27)),
  o 29 (sConv (.int .u64) (X 28)),
  o 30 (sBin .shr .none (X 26) (X 29)),
  o 31 (sConv (.int .u8) (X 30)),
  o 32 (sIdxAddrS 1 (X 24) (X 25)),
  u (sStore 1 (X 32) (X 31))]))
 (.reg [o 22 (sMov (X 6)),
  o 23 (sBin .add .none (X 22) (K (.int .i64 1))),
  o 6 (sMov (X 23))]))
noncomputable def b57 (E : Env) : CT :=
 .seq (.reg [o 4 (sMov (K (.nilSl)))])
 (.seq (.seq (.reg [o 7 (sMov (X 1)),
  o 8 (sBin .lss .none (X 7) (K (.int .i64 1))),
  o 9 (sMov (X 8)),
  og 9 false 10 (sMov (X 1)),
  og 9 false 11 (sBin .gtr .none (X 10) (K (.int .i64 16))),
  o 12 (sPick (X 9) (K (.bool true)) (X 11))])
 (.ite (X 12)
 (.seq (.reg [o 4 (sMov (K (.nilSl)))])
 (.ret))
 (.skip)))
 (.seq (.reg [o 13 (sMov (X 1)),
  o 14 (sMake (ty 1 false 1 [.int .u8 0]) (X 13) (X 13)),
  o 5 (sMov (X 14))])
 (.seq (.seq (.reg [o 6 (sMov (K (.int .i64 0)))])
 (.block 0 (.loop (l57x0 E))))
 (.seq (.reg [o 33 (sMov (X 5)),
  o 4 (sMov (X 33))])
 (.ret)))))
theorem c57 (args : T) (h : AHeap) : (envL prog).call 57 args h = trim h (fin [.tmp 4] (runC (envL prog) (b57 (envL prog)) (args ++ List.replicate (34 - args.length) .undef) h)) :=
 call_tr (fn := Go.Proofs.Try.f57) tab57 (by kernel_rfl) (by rfl) (by kernel_rfl) (fun t h => by kernel_rfl) rfl args h
def tab58 : Nat → Cert := fun i => ⟨0, 0, 0, 0, 0, 0⟩
noncomputable def b58 (E : Env) : CT :=
 .seq (.reg [o 2 (sMov (K (.int .u64 0)))])
 (.seq (.reg [o 3 (sMov (X 0)),
  o 4 (sCall E 71 [(K (.int .u64 14695981039346656037)), (X 3)]),
  o 2 (sMov (X 4))])
 (.ret))
theorem c58 (args : T) (h : AHeap) : (envL prog).call 58 args h = trim h (fin [.tmp 2] (runC (envL prog) (b58 (envL prog)) (args ++ List.replicate (5 - args.length) .undef) h)) :=
 call_tr (fn := Go.Proofs.Try.f58) tab58 (by kernel_rfl) (by rfl) (by kernel_rfl) (fun t h => by kernel_rfl) rfl args h
def tab59 : Nat → Cert := fun i => ⟨0, 0, 0, 0, 0, 0⟩
noncomputable def b59 (E : Env) : CT :=
 .seq (.reg [o 6 (sAlloc (rep 64 (.int .u8 0))),
  o 7 (sMov (K (.int .i64 0)))])
 (.seq (.seq (.reg [o 8 (sMov (X 0)),
  o 9 (sMov (X 1)),
  o 10 (sMov (X 2)),
  o 11 (sCall E 46 [(X 8), (X 9), (X 10)]),
  o 12 (sUn .not (X 11))])
 (.ite (X 12)
 (.seq (.reg [o 13 (sBuild (rep 64 (.int .u8 0)) []),
  u (sStore 64 (X 6) (X 13)),
  o 7 (sMov (K (.int .i64 1)))])
 (.ret))
 (.skip)))
 (.seq (.seq (.reg [o 14 (sMov (X 0)),
  o 15 (sNil (X 14)),
  o 16 (sFieldAddr 3 (X 15)),
  o 17 (sLoad 1 false (X 16))])
 (.ite (X 17)
 (.seq (.reg [o 18 (sBuild (rep 64 (.int .u8 0)) []),
  u (sStore 64 (X 6) (X 18)),
  o 7 (sMov (K (.int .i64 14)))])
 (.ret))
 (.skip)))
 (.seq (.reg [o 19 (sMov (X 0)),
  o 20 (sMov (X 1)),
  o 21 (sNil (X 19)),
  o 22 (sFieldAddr 0 (X 21)),
  o 23 (sIdxAddrA 2 1 (X 22) (X 20)),
  o 24 (sLoad 1 false (X 23)),
  o 25 (sMov (X 2)),
  o 26 (sCall E 26 [(X 24), (X 25)]),
  u (sStore 64 (X 6) (X 26)),
  o 7 (sMov (K (.int .i64 0)))])
 (.ret))))
theorem c59 (args : T) (h : AHeap) : (envL prog).call 59 args h = trim h (fin [.cell 6 64 true, .tmp 7] (runC (envL prog) (b59 (envL prog)) (args ++ List.replicate (27 - args.length) .undef) h)) :=
 call_tr (fn := Go.Proofs.Try.f59) tab59 (by kernel_rfl) (by rfl) (by kernel_rfl) (fun t h => by kernel_rfl) rfl args h
def tab60 : Nat → Cert := fun i => bif Nat.beq i 1 then ⟨11, 16, 1327929966764767957949164068790077440, 1327930000505283415631632568349100032, 47913869684615560679028485234377268077969995420663810, 111509170588409412811107876504659801854771208⟩ else bif Nat.beq i 2 then ⟨4, 19, 24592, 28688, 56668397795019858116624, 2882308984206786577⟩ else ⟨0, 0, 0, 0, 0, 0⟩
noncomputable def b60 (E : Env) : CT :=
 .seq (.reg [o 1 (sBox (X 0)),
  o 2 (sAlloc ([.int .u8 0, .int .u32 0, .int .i64 0] ++ rep 48 (.int .u8 0))),
  o 3 (sMov (K (.int .i64 0)))])
 (.seq (.drw [.op (o 7 (sIdxAddrA 64 1 (X 1) (K (.int .i64 0)))),
  .rd 1 (o 8 (sLoad 1 false (X 7))),
  .op (o 9 (sSliceA 64 1 (X 1) (some (K (.int .i64 1))) (some (K (.int .i64 5))) none)),
  .rd 5 (o 12 (sSliceA 64 1 (X 1) (some (K (.int .i64 5))) (some (K (.int .i64 7))) none)),
  .op (o 4 (sAlloc ([.int .u8 0, .int .u32 0, .int .i64 0] ++ rep 48 (.int .u8 0)))),
  .hv 4 (o 10 (sCall E 72 [(X 9)])),
  .rd 4 (o 11 (sConv (.int .u32) (X 10))),
  .hv 44 (o 13 (sCall E 72 [(X 12)])),
  .op (o 14 (sConv (.int .i64) (X 13))),
  .op (o 15 (sBuild ([.int .u8 0, .int .u32 0, .int .i64 0] ++ rep 48 (.int .u8 0)) [(0, 1, (X 8)), (1, 1, (X 11)), (2, 1, (X 14))])),
  .hv 1023 (u (sStore 51 (X 4) (X 15)))])
 (.seq (.drw [.op (o 16 (sFieldAddr 3 (X 4))),
  .op (o 17 (sSliceA 48 1 (X 16) none none none)),
  .op (o 18 (sSliceA 64 1 (X 1) (some (K (.int .i64 7))) (some (K (.int .i64 55))) none)),
  .hv 7 (o 19 (sCopy (ty 1 false 1 [.int .u8 0]) (X 17) (X 18)))])
 (.seq (.reg [o 21 (sLoad 51 true (X 4)),
  o 22 (sCall E 41 [(X 21)]),
  o 20 (sMov (X 22)),
  o 23 (sExtract (X 20) 0),
  o 24 (sExtract (X 20) 1),
  o 5 (sAlloc (rep 64 (.int .u8 0))),
  u (sStore 64 (X 5) (X 23)),
  o 6 (sMov (X 24))])
 (.seq (.seq (.reg [o 25 (sMov (X 6)),
  o 26 (sBin .neq .none (X 25) (K (.int .i64 0))),
  o 27 (sMov (X 26)),
  og 27 false 28 (sLoad 64 true (X 5)),
  og 27 false 29 (sLoad 64 true (X 1)),
  og 27 false 30 (sBin .neq (.flat 64) (X 28) (X 29)),
  o 31 (sPick (X 27) (K (.bool true)) (X 30))])
 (.ite (X 31)
 (.seq (.reg [o 32 (sBuild ([.int .u8 0, .int .u32 0, .int .i64 0] ++ rep 48 (.int .u8 0)) []),
  u (sStore 51 (X 2) (X 32)),
  o 3 (sMov (K (.int .i64 11)))])
 (.ret))
 (.skip)))
 (.seq (.reg [o 33 (sLoad 51 true (X 4)),
  u (sStore 51 (X 2) (X 33)),
  o 3 (sMov (K (.int .i64 0)))])
 (.ret))))))
theorem c60 (args : T) (h : AHeap) : (envL prog).call 60 args h = trim h (fin [.cell 2 51 true, .tmp 3] (runC (envL prog) (b60 (envL prog)) (args ++ List.replicate (34 - args.length) .undef) h)) :=
 call_tr (fn := Go.Proofs.Try.f60) tab60 (by kernel_rfl) (by rfl) (by kernel_rfl) (fun t h => by kernel_rfl) rfl args h
def tab61 : Nat → Cert := fun i => ⟨0, 0, 0, 0, 0, 0⟩
noncomputable def l61x0 (E : Env) : CT :=
 .seq (.reg [o 12 (sBin .lss .none (X 11) (K (.int .i64 2)))])
 (.seq (.ite (X 12)
 (.skip)
 (.exit 0))
 (.seq (.block 1 (.seq (.reg [o 13 (sMov (X 11)),
  o 14 (sIdxA 2 1 false (X 10) (X 11)),
  o 3 (sMov (X 13)),
  o 4 (sMov (X 14))])
 (.seq (.reg [o 15 (sMov (X 0)),
  o 16 (sMov (X 3)),
  o 17 (sMov (X 4)),
  o 18 (sCallV E (X 15) [(X 16), (X 17)]),
  o 19 (sUn .not (X 18))])
 (.ite (X 19)
 (.ret)
 (.skip)))))
 (.reg [o 20 (sBin .add .none (X 11) (K (.int .i64 1))),
  o 11 (sMov (X 20))])))
noncomputable def b61 (E : Env) : CT :=
 .seq (.seq (.reg [o 5 (sLoad 1 false (X 1)),
  o 6 (sBin .eql .ptr (X 5) (K (.nilPtr)))])
 (.ite (X 6)
 (.ret)
 (.skip)))
 (.seq (.reg [o 7 (sLoad 1 false (X 1)),
  o 8 (sNil (X 7)),
  o 9 (sFieldAddr 0 (X 8)),
  o 10 (sLoad 2 true (X 9)),
  o 11 (sMov (K (.int .i64 0)))])
 (.block 0 (.loop (l61x0 E))))
theorem c61 (args : T) (h : AHeap) : (envL prog).call 61 args h = trim h (fin [] (runC (envL prog) (b61 (envL prog)) (args ++ List.replicate (21 - args.length) .undef) h)) :=
 call_tr (fn := Go.Proofs.Try.f61) tab61 (by kernel_rfl) (by rfl) (by kernel_rfl) (fun t h => by kernel_rfl) rfl args h
def tab62 : Nat → Cert := fun i => ⟨0, 0, 0, 0, 0, 0⟩
noncomputable def b62 (E : Env) : CT :=
 .seq (.reg [o 1 (sBox (X 0)),
  o 2 (sMov (K (.nilFn)))])
 (.seq (.reg [o 3 (sFun 73 [(X 1)]),
  o 2 (sMov (X 3))])
 (.ret))
theorem c62 (args : T) (h : AHeap) : (envL prog).call 62 args h = trim h (fin [.tmp 2] (runC (envL prog) (b62 (envL prog)) (args ++ List.replicate (4 - args.length) .undef) h)) :=
 call_tr (fn := Go.Proofs.Try.f62) tab62 (by kernel_rfl) (by rfl) (by kernel_rfl) (fun t h => by kernel_rfl) rfl args h
def tab63 : Nat → Cert := fun i => ⟨0, 0, 0, 0, 0, 0⟩
noncomputable def b63 (E : Env) : CT :=
 .seq (.reg [o 3 (sBox (X 1))])
 (.reg [o 4 (sMov (X 0)),
  o 5 (sMov (X 0)),
  o 6 (sLoad 64 true (X 3)),
  o 7 (sNil (X 4)),
  o 8 (sFieldAddr 0 (X 7)),
  u (sStore 64 (X 8) (X 6)),
  o 9 (sNil (X 5)),
  o 10 (sFieldAddr 64 (X 9)),
  u (sStore 1 (X 10) (K (.nilSl)))])
theorem c63 (args : T) (h : AHeap) : (envL prog).call 63 args h = trim h (fin [] (runC (envL prog) (b63 (envL prog)) (args ++ List.replicate (11 - args.length) .undef) h)) :=
 call_tr (fn := Go.Proofs.Try.f63) tab63 (by kernel_rfl) (by rfl) (by kernel_rfl) (fun t h => by kernel_rfl) rfl args h
def tab64 : Nat → Cert := fun i => ⟨0, 0, 0, 0, 0, 0⟩
noncomputable def l64x0 (E : Env) : CT :=
 .seq (.reg [o 12 (sBin .lss .none (X 11) (X 10))])
 (.seq (.ite (X 12)
 (.skip)
 (.exit 0))
 (.seq (.block 1 (.seq (.reg [o 13 (sIdxAddrS 1 (X 9) (X 11)),
  o 14 (sLoad 1 false (X 13)),
  o 5 (sMov (X 14))])
 (.seq (.reg [o 15 (sMov (X 3)),
  o 16 (sMov (X 5)),
  o 17 (sLenSl (X 16)),
  o 18 (sBin .add .none (X 15) (X 17)),
  o 3 (sMov (X 18))])
 (.seq (.reg [o 19 (sMov (X 3)),
  o 20 (sBin .lss .none (X 19) (K (.int .i64 0)))])
 (.ite (X 20)
 (.reg [o 21 (sNone),
  u (sNone)])
 (.skip))))))
 (.reg [o 22 (sBin .add .none (X 11) (K (.int .i64 1))),
  o 11 (sMov (X 22))])))
noncomputable def l64x1 (E : Env) : CT :=
 .seq (.reg [o 28 (sBin .lss .none (X 27) (X 26))])
 (.seq (.ite (X 28)
 (.skip)
 (.exit 2))
 (.seq (.block 3 (.seq (.reg [o 29 (sIdxAddrS 1 (X 25) (X 27)),
  o 30 (sLoad 1 false (X 29)),
  o 8 (sMov (X 30))])
 (.reg [o 31 (sMov (X 6)),
  o 32 (sMov (X 8)),
  o 33 (sApp (ty 64 true 64 (rep 64 (.int .u8 0))) (X 31) (X 32)),
  o 6 (sMov (X 33))])))
 (.reg [o 34 (sBin .add .none (X 27) (K (.int .i64 1))),
  o 27 (sMov (X 34))])))
noncomputable def b64 (E : Env) : CT :=
 .seq (.reg [o 2 (sMov (K (.nilSl)))])
 (.seq (.reg [o 3 (sMov (K (.int .i64 0)))])
 (.seq (.seq (.reg [o 9 (sMov (X 0)),
  o 10 (sLenSl (X 9)),
  o 11 (sMov (K (.int .i64 0)))])
 (.block 0 (.loop (l64x0 E))))
 (.seq (.reg [o 23 (sMov (X 3)),
  o 24 (sCall E 74 [(K (.nilSl)), (X 23)]),
  o 6 (sMov (X 24))])
 (.seq (.seq (.reg [o 25 (sMov (X 0)),
  o 26 (sLenSl (X 25)),
  o 27 (sMov (K (.int .i64 0)))])
 (.block 2 (.loop (l64x1 E))))
 (.seq (.reg [o 35 (sMov (X 6)),
  o 2 (sMov (X 35))])
 (.ret))))))
theorem c64 (args : T) (h : AHeap) : (envL prog).call 64 args h = trim h (fin [.tmp 2] (runC (envL prog) (b64 (envL prog)) (args ++ List.replicate (36 - args.length) .undef) h)) :=
 call_tr (fn := Go.Proofs.Try.f64) tab64 (by kernel_rfl) (by rfl) (by kernel_rfl) (fun t h => by kernel_rfl) rfl args h
def tab65 : Nat → Cert := fun i => ⟨0, 0, 0, 0, 0, 0⟩
noncomputable def l65x0 (E : Env) : CT :=
 .seq (.seq (.reg [o 5 (sMov (X 4)),
  o 6 (sMov (X 0)),
  o 7 (sNil (X 6)),
  o 8 (sFieldAddr 0 (X 7)),
  o 9 (sLoad 1 false (X 8)),
  o 10 (sLenSl (X 9)),
  o 11 (sBin .lss .none (X 5) (X 10))])
 (.ite (X 11)
 (.skip)
 (.exit 0)))
 (.seq (.block 1 (.seq (.reg [o 14 (sMov (X 0)),
  o 15 (sNil (X 14)),
  o 16 (sFieldAddr 1 (X 15)),
  o 17 (sLoad 1 false (X 16)),
  o 18 (sMov (X 4)),
  o 19 (sIdxAddrS 1 (X 17) (X 18)),
  o 20 (sLoad 1 false (X 19)),
  o 21 (sLenSl (X 20)),
  o 22 (sBin .gtr .none (X 21) (K (.int .i64 0)))])
 (.ite (X 22)
 (.reg [o 23 (sMov (X 3)),
  o 24 (sMov (X 4)),
  o 25 (sBuildSl 1 1 [.int .i64 0] [(0, 1, (X 24))]),
  o 26 (sApp (ty 1 false 8 [.int .i64 0]) (X 23) (X 25)),
  o 3 (sMov (X 26))])
 (.skip))))
 (.reg [o 12 (sMov (X 4)),
  o 13 (sBin .add .none (X 12) (K (.int .i64 1))),
  o 4 (sMov (X 13))]))
noncomputable def b65 (E : Env) : CT :=
 .seq (.reg [o 2 (sMov (K (.nilSl)))])
 (.seq (.reg [o 3 (sMov (K (.nilSl)))])
 (.seq (.seq (.reg [o 4 (sMov (K (.int .i64 0)))])
 (.block 0 (.loop (l65x0 E))))
 (.seq (.reg [o 27 (sMov (X 3)),
  o 2 (sMov (X 27))])
 (.ret))))
theorem c65 (args : T) (h : AHeap) : (envL prog).call 65 args h = trim h (fin [.tmp 2] (runC (envL prog) (b65 (envL prog)) (args ++ List.replicate (28 - args.length) .undef) h)) :=
 call_tr (fn := Go.Proofs.Try.f65) tab65 (by kernel_rfl) (by rfl) (by kernel_rfl) (fun t h => by kernel_rfl) rfl args h
def tab66 : Nat → Cert := fun i => ⟨0, 0, 0, 0, 0, 0⟩
noncomputable def b66 (E : Env) : CT :=
 .seq (.reg [o 4 (sMov (K (.bool false)))])
 (.seq (.reg [o 5 (sMov (X 1)),
  o 6 (sBin .geq .none (X 5) (K (.int .i64 0))),
  o 7 (sMov (X 6)),
  og 7 true 8 (sMov (X 1)),
  og 7 true 9 (sMov (X 0)),
  og 7 true 10 (sNil (X 9)),
  og 7 true 11 (sFieldAddr 0 (X 10)),
  og 7 true 12 (sLoad 1 false (X 11)),
  og 7 true 13 (sLenSl (X 12)),
  og 7 true 14 (sBin .lss .none (X 8) (X 13)),
  o 15 (sPick (X 7) (X 14) (K (.bool false))),
  o 4 (sMov (X 15))])
 (.ret))
theorem c66 (args : T) (h : AHeap) : (envL prog).call 66 args h = trim h (fin [.tmp 4] (runC (envL prog) (b66 (envL prog)) (args ++ List.replicate (16 - args.length) .undef) h)) :=
 call_tr (fn := Go.Proofs.Try.f66) tab66 (by kernel_rfl) (by rfl) (by kernel_rfl) (fun t h => by kernel_rfl) rfl args h
def tab67 : Nat → Cert := fun i => bif Nat.beq i 1 then ⟨11, 16, 1327929966764767957949164068790077440, 1327930000505283415631632568349100032, 47913869684615560679028485234377268077969995420663810, 111509170588409412811107876504659801854771208⟩ else bif Nat.beq i 2 then ⟨4, 19, 24592, 28688, 56668397795019858116624, 2882308984206786577⟩ else ⟨0, 0, 0, 0, 0, 0⟩
noncomputable def b67 (E : Env) : CT :=
 .seq (.reg [o 1 (sBox (X 0)),
  o 2 (sAlloc ([.int .u8 0, .int .u32 0, .int .i64 0] ++ rep 48 (.int .u8 0))),
  o 3 (sMov (K (.int .i64 0)))])
 (.seq (.drw [.op (o 7 (sIdxAddrA 64 1 (X 1) (K (.int .i64 0)))),
  .rd 1 (o 8 (sLoad 1 false (X 7))),
  .op (o 9 (sSliceA 64 1 (X 1) (some (K (.int .i64 1))) (some (K (.int .i64 5))) none)),
  .rd 5 (o 12 (sSliceA 64 1 (X 1) (some (K (.int .i64 5))) (some (K (.int .i64 7))) none)),
  .op (o 4 (sAlloc ([.int .u8 0, .int .u32 0, .int .i64 0] ++ rep 48 (.int .u8 0)))),
  .hv 4 (o 10 (sCall E 75 [(X 9)])),
  .rd 4 (o 11 (sConv (.int .u32) (X 10))),
  .hv 44 (o 13 (sCall E 75 [(X 12)])),
  .op (o 14 (sConv (.int .i64) (X 13))),
  .op (o 15 (sBuild ([.int .u8 0, .int .u32 0, .int .i64 0] ++ rep 48 (.int .u8 0)) [(0, 1, (X 8)), (1, 1, (X 11)), (2, 1, (X 14))])),
  .hv 1023 (u (sStore 51 (X 4) (X 15)))])
 (.seq (.drw [.op (o 16 (sFieldAddr 3 (X 4))),
  .op (o 17 (sSliceA 48 1 (X 16) none none none)),
  .op (o 18 (sSliceA 64 1 (X 1) (some (K (.int .i64 7))) (some (K (.int .i64 55))) none)),
  .hv 7 (o 19 (sCopy (ty 1 false 1 [.int .u8 0]) (X 17) (X 18)))])
 (.seq (.seq (.reg [o 21 (sLoad 51 true (X 4)),
  o 22 (sCall E 51 [(X 21)]),
  o 20 (sMov (X 22)),
  o 23 (sExtract (X 20) 0),
  o 24 (sExtract (X 20) 1),
  o 5 (sAlloc (rep 64 (.int .u8 0))),
  u (sStore 64 (X 5) (X 23)),
  o 6 (sMov (X 24))])
 (.seq (.reg [o 25 (sMov (X 6)),
  o 26 (sBin .neq .none (X 25) (K (.int .i64 0))),
  o 27 (sMov (X 26)),
  og 27 false 28 (sLoad 64 true (X 5)),
  og 27 false 29 (sLoad 64 true (X 1)),
  og 27 false 30 (sBin .neq (.flat 64) (X 28) (X 29)),
  o 31 (sPick (X 27) (K (.bool true)) (X 30))])
 (.ite (X 31)
 (.seq (.reg [o 32 (sBuild ([.int .u8 0, .int .u32 0, .int .i64 0] ++ rep 48 (.int .u8 0)) []),
  u (sStore 51 (X 2) (X 32)),
  o 3 (sMov (K (.int .i64 11)))])
 (.ret))
 (.skip))))
 (.seq (.reg [o 33 (sLoad 51 true (X 4)),
  u (sStore 51 (X 2) (X 33)),
  o 3 (sMov (K (.int .i64 0)))])
 (.ret)))))
theorem c67 (args : T) (h : AHeap) : (envL prog).call 67 args h = trim h (fin [.cell 2 51 true, .tmp 3] (runC (envL prog) (b67 (envL prog)) (args ++ List.replicate (34 - args.length) .undef) h)) :=
 call_tr (fn := Go.Proofs.Try.f67) tab67 (by kernel_rfl) (by rfl) (by kernel_rfl) (fun t h => by kernel_rfl) rfl args h
def tab68 : Nat → Cert := fun i => ⟨0, 0, 0, 0, 0, 0⟩
noncomputable def l68x0 (E : Env) : CT :=
 .seq (.reg [o 12 (sBin .lss .none (X 11) (X 10))])
 (.seq (.ite (X 12)
 (.skip)
 (.exit 0))
 (.seq (.block 1 (.seq (.reg [o 13 (sIdxAddrS 1 (X 9) (X 11)),
  o 14 (sLoad 1 false (X 13)),
  o 5 (sMov (X 14))])
 (.seq (.reg [o 15 (sMov (X 3)),
  o 16 (sMov (X 5)),
  o 17 (sLenSl (X 16)),
  o 18 (sBin .add .none (X 15) (X 17)),
  o 3 (sMov (X 18))])
 (.seq (.reg [o 19 (sMov (X 3)),
  o 20 (sBin .lss .none (X 19) (K (.int .i64 0)))])
 (.ite (X 20)
 (.reg [o 21 (sNone),
  u (sNone)])
 (.skip))))))
 (.reg [o 22 (sBin .add .none (X 11) (K (.int .i64 1))),
  o 11 (sMov (X 22))])))
noncomputable def l68x1 (E : Env) : CT :=
 .seq (.reg [o 28 (sBin .lss .none (X 27) (X 26))])
 (.seq (.ite (X 28)
 (.skip)
 (.exit 2))
 (.seq (.block 3 (.seq (.reg [o 29 (sIdxAddrS 1 (X 25) (X 27)),
  o 30 (sLoad 1 false (X 29)),
  o 8 (sMov (X 30))])
 (.reg [o 31 (sMov (X 6)),
  o 32 (sMov (X 8)),
  o 33 (sApp (ty 1 false 1 [.int .u8 0]) (X 31) (X 32)),
  o 6 (sMov (X 33))])))
 (.reg [o 34 (sBin .add .none (X 27) (K (.int .i64 1))),
  o 27 (sMov (X 34))])))
noncomputable def b68 (E : Env) : CT :=
 .seq (.reg [o 2 (sMov (K (.nilSl)))])
 (.seq (.reg [o 3 (sMov (K (.int .i64 0)))])
 (.seq (.seq (.reg [o 9 (sMov (X 0)),
  o 10 (sLenSl (X 9)),
  o 11 (sMov (K (.int .i64 0)))])
 (.block 0 (.loop (l68x0 E))))
 (.seq (.reg [o 23 (sMov (X 3)),
  o 24 (sCall E 76 [(K (.nilSl)), (X 23)]),
  o 6 (sMov (X 24))])
 (.seq (.seq (.reg [o 25 (sMov (X 0)),
  o 26 (sLenSl (X 25)),
  o 27 (sMov (K (.int .i64 0)))])
 (.block 2 (.loop (l68x1 E))))
 (.seq (.reg [o 35 (sMov (X 6)),
  o 2 (sMov (X 35))])
 (.ret))))))
theorem c68 (args : T) (h : AHeap) : (envL prog).call 68 args h = trim h (fin [.tmp 2] (runC (envL prog) (b68 (envL prog)) (args ++ List.replicate (36 - args.length) .undef) h)) :=
 call_tr (fn := Go.Proofs.Try.f68) tab68 (by kernel_rfl) (by rfl) (by kernel_rfl) (fun t h => by kernel_rfl) rfl args h
def tab69 : Nat → Cert := fun i => ⟨0, 0, 0, 0, 0, 0⟩
noncomputable def aq69x0 (E : Env) : CT :=
 .reg [o 6 (sMov (X 16))]
noncomputable def bq69x0 (E : Env) : CT :=
 .block 1 (.reg [o 17 (sLoad 1 false (X 5)),
  o 18 (sMov (X 6)),
  o 19 (sBuildSl 1 1 [.int .u8 0] [(0, 1, (X 18))]),
  o 20 (sApp (ty 1 false 1 [.int .u8 0]) (X 17) (X 19)),
  u (sStore 1 (X 5) (X 20))])
noncomputable def kaq69x0 : Code := (nthRange Go.Proofs.Try.f69 0).1
noncomputable def kbq69x0 : Code := (nthRange Go.Proofs.Try.f69 0).2
theorem eaq69x0 (E : Env) (t : T) (h : AHeap) : evalCode prog E kaq69x0 t h = runC E (aq69x0 E) t h := code_tr tab69 (by kernel_rfl) t h
theorem ebq69x0 (E : Env) (t : T) (h : AHeap) : evalCode prog E kbq69x0 t h = runC E (bq69x0 E) t h := code_tr tab69 (by kernel_rfl) t h
noncomputable def b69 (E : Env) : CT :=
 .seq (.reg [o 4 (sMov (K (.nilSl)))])
 (.seq (.seq (.reg [o 7 (sMov (X 1)),
  o 8 (sBin .lss .none (X 7) (K (.int .i64 1))),
  o 9 (sMov (X 8)),
  og 9 false 10 (sMov (X 1)),
  og 9 false 11 (sBin .gtr .none (X 10) (K (.int .i64 16))),
  o 12 (sPick (X 9) (K (.bool true)) (X 11))])
 (.ite (X 12)
 (.seq (.reg [o 4 (sMov (K (.nilSl)))])
 (.ret))
 (.skip)))
 (.seq (.reg [o 5 (sAlloc [.nilSl])])
 (.seq (.seq (.reg [o 13 (sMov (X 0)),
  o 14 (sMov (X 1)),
  o 15 (sCall E 77 [(X 13), (X 14)])])
 (.block 0 (.range (X 15) [16] kaq69x0 kbq69x0)))
 (.seq (.reg [o 21 (sLoad 1 false (X 5)),
  o 4 (sMov (X 21))])
 (.ret)))))
theorem c69 (args : T) (h : AHeap) : (envL prog).call 69 args h = trim h (fin [.tmp 4] (runC (envL prog) (b69 (envL prog)) (args ++ List.replicate (22 - args.length) .undef) h)) :=
 call_tr (fn := Go.Proofs.Try.f69) tab69 (by kernel_rfl) (by rfl) (by kernel_rfl) (fun t h => by kernel_rfl) rfl args h
def tab70 : Nat → Cert := fun i => ⟨0, 0, 0, 0, 0, 0⟩
noncomputable def b70 (E : Env) : CT :=
 .seq (.reg [o 2 (sMov (K (.int .u64 0)))])
 (.seq (.reg [o 3 (sMov (X 0)),
  o 4 (sCall E 78 [(K (.int .u64 14695981039346656037)), (X 3)]),
  o 2 (sMov (X 4))])
 (.ret))
theorem c70 (args : T) (h : AHeap) : (envL prog).call 70 args h = trim h (fin [.tmp 2] (runC (envL prog) (b70 (envL prog)) (args ++ List.replicate (5 - args.length) .undef) h)) :=
 call_tr (fn := Go.Proofs.Try.f70) tab70 (by kernel_rfl) (by rfl) (by kernel_rfl) (fun t h => by kernel_rfl) rfl args h
def tab71 : Nat → Cert := fun i => ⟨0, 0, 0, 0, 0, 0⟩
noncomputable def l71x0 (E : Env) : CT :=
 .seq (.seq (.reg [o 6 (sMov (X 5)),
  o 7 (sMov (X 1)),
  o 8 (sLenSl (X 7)),
  o 9 (sBin .lss .none (X 6) (X 8))])
 (.ite (X 9)
 (.skip)
 (.exit 0)))
 (.seq (.block 1 (.reg [o 12 (sMov (X 0)),
  o 13 (sMov (X 1)),
  o 14 (sMov (X 5)),
  o 15 (sIdxAddrS 1 (X 13) (X 14)),
  o 16 (sLoad 1 false (X 15)),
  o 17 (sConv (.int .u64) (X 16)),
  o 18 (sBin .xor .none (X 12) (X 17)),
  o 19 (sBin .mul .none (X 18) (K (.int .u64 1099511628211))),
  o 0 (sMov (X 19))]))
 (.reg [o 10 (sMov (X 5)),
  o 11 (sBin .add .none (X 10) (K (.int .i64 1))),
  o 5 (sMov (X 11))]))
noncomputable def b71 (E : Env) : CT :=
 .seq (.reg [o 4 (sMov (K (.int .u64 0)))])
 (.seq (.seq (.reg [o 5 (sMov (K (.int .i64 0)))])
 (.block 0 (.loop (l71x0 E))))
 (.seq (.reg [o 20 (sMov (X 0)),
  o 4 (sMov (X 20))])
 (.ret)))
theorem c71 (args : T) (h : AHeap) : (envL prog).call 71 args h = trim h (fin [.tmp 4] (runC (envL prog) (b71 (envL prog)) (args ++ List.replicate (21 - args.length) .undef) h)) :=
 call_tr (fn := Go.Proofs.Try.f71) tab71 (by kernel_rfl) (by rfl) (by kernel_rfl) (fun t h => by kernel_rfl) rfl args h
def tab72 : Nat → Cert := fun i => ⟨0, 0, 0, 0, 0, 0⟩
noncomputable def l72x0 (E : Env) : CT :=
 .seq (.seq (.reg [o 5 (sMov (X 4)),
  o 6 (sMov (X 0)),
  o 7 (sLenSl (X 6)),
  o 8 (sBin .lss .none (X 5) (X 7)),
  o 9 (sMov (X 8)),
  og 9 true 10 (sMov (X 4)),
  og 9 true 11 (sBin .lss .none (X 10) (K (.int .i64 8))),
  o 12 (sPick (X 9) (X 11) (K (.bool false)))])
 (.ite (X 12)
 (.skip)
 (.exit 0)))
 (.seq (.block 1 (.reg [o 15 (sMov (X 3)),
  o 16 (sMov (X 0)),
  o 17 (sMov (X 4)),
  o 18 (sIdxAddrS 1 (X 16) (X 17)),
  o 19 (sLoad 1 false (X 18)),
  o 20 (sConv (.int .u64) (X 19)),
  o 21 (sMov (X 4)),
  o 22 (sBin .mul .none (K (.int .i64 8)) (X 21)),
  o 23 (sConv (.int .u64) (X 22)),
  o 24 (sBin .shl .none (X 20) (X 23)),
  o 25 (sBin .add .none (X 15) (X 24)),
  o 3 (sMov (X 25))]))
 (.reg [o 13 (sMov (X 4)),
  o 14 (sBin .add .none (X 13) (K (.int .i64 1))),
  o 4 (sMov (X 14))]))
noncomputable def b72 (E : Env) : CT :=
 .seq (.reg [o 2 (sMov (K (.int .u64 0)))])
 (.seq (.reg [o 3 (sMov (K (.int .u64 0)))])
 (.seq (.seq (.reg [o 4 (sMov (K (.int .i64 0)))])
 (.block 0 (.loop (l72x0 E))))
 (.seq (.reg [o 26 (sMov (X 3)),
  o 2 (sMov (X 26))])
 (.ret))))
theorem c72 (args : T) (h : AHeap) : (envL prog).call 72 args h = trim h (fin [.tmp 2] (runC (envL prog) (b72 (envL prog)) (args ++ List.replicate (27 - args.length) .undef) h)) :=
 call_tr (fn := Go.Proofs.Try.f72) tab72 (by kernel_rfl) (by rfl) (by kernel_rfl) (fun t h => by kernel_rfl) rfl args h
def tab73 : Nat → Cert := fun i => ⟨0, 0, 0, 0, 0, 0⟩
noncomputable def l73x0 (E : Env) : CT :=
 .seq (.reg [o 8 (sBin .lss .none (X 7) (X 6))])
 (.seq (.ite (X 8)
 (.skip)
 (.exit 0))
 (.seq (.block 1 (.seq (.reg [o 9 (sMov (X 7)),
  o 3 (sMov (X 9))])
 (.seq (.reg [o 10 (sLoad 1 false (X 1)),
  o 11 (sMov (X 3)),
  o 12 (sCall E 54 [(X 10), (X 11)]),
  o 4 (sMov (X 12))])
 (.seq (.reg [o 13 (sMov (X 4)),
  o 14 (sNil (X 13)),
  o 15 (sFieldAddr 64 (X 14)),
  o 16 (sLoad 1 false (X 15)),
  o 17 (sLenSl (X 16)),
  o 18 (sBin .gtr .none (X 17) (K (.int .i64 0))),
  o 19 (sMov (X 18)),
  og 19 true 20 (sMov (X 0)),
  og 19 true 21 (sMov (X 3)),
  og 19 true 22 (sMov (X 4)),
  og 19 true 23 (sCallV E (X 20) [(X 21), (X 22)]),
  og 19 true 24 (sUn .not (X 23)),
  o 25 (sPick (X 19) (X 24) (K (.bool false)))])
 (.ite (X 25)
 (.ret)
 (.skip))))))
 (.reg [o 26 (sBin .add .none (X 7) (K (.int .i64 1))),
  o 7 (sMov (X 26))])))
noncomputable def b73 (E : Env) : CT :=
 .seq (.reg [o 5 (sLoad 1 false (X 1)),
  o 6 (sCall E 34 [(X 5)]),
  o 7 (sMov (K (.int .i64 0)))])
 (.block 0 (.loop (l73x0 E)))
theorem c73 (args : T) (h : AHeap) : (envL prog).call 73 args h = trim h (fin [] (runC (envL prog) (b73 (envL prog)) (args ++ List.replicate (27 - args.length) .undef) h)) :=
 call_tr (fn := Go.Proofs.Try.f73) tab73 (by kernel_rfl) (by rfl) (by kernel_rfl) (fun t h => by kernel_rfl) rfl args h
def tab74 : Nat → Cert := fun i => ⟨0, 0, 0, 0, 0, 0⟩
noncomputable def b74 (E : Env) : CT :=
 .seq (.reg [o 4 (sMov (K (.nilSl)))])
 (.seq (.seq (.reg [o 5 (sMov (X 1)),
  o 6 (sBin .lss .none (X 5) (K (.int .i64 0)))])
 (.ite (X 6)
 (.reg [o 7 (sNone),
  u (sNone)])
 (.skip)))
 (.seq (.seq (.reg [o 8 (sMov (X 1)),
  o 9 (sMov (X 0)),
  o 10 (sCapSl (X 9)),
  o 11 (sMov (X 0)),
  o 12 (sLenSl (X 11)),
  o 13 (sBin .sub .none (X 10) (X 12)),
  o 14 (sBin .sub .none (X 8) (X 13)),
  o 1 (sMov (X 14))])
 (.seq (.reg [o 15 (sMov (X 1)),
  o 16 (sBin .gtr .none (X 15) (K (.int .i64 0)))])
 (.ite (X 16)
 (.reg [o 17 (sMov (X 0)),
  o 18 (sMov (X 0)),
  o 19 (sCapSl (X 18)),
  o 20 (sSliceS 64 (X 17) none (some (X 19)) none),
  o 21 (sMov (X 1)),
  o 22 (sAppN (ty 64 true 64 (rep 64 (.int .u8 0))) (X 20) (X 21)),
  o 23 (sMov (X 0)),
  o 24 (sLenSl (X 23)),
  o 25 (sSliceS 64 (X 22) none (some (X 24)) none),
  o 0 (sMov (X 25))])
 (.skip))))
 (.seq (.reg [o 26 (sMov (X 0)),
  o 4 (sMov (X 26))])
 (.ret))))
theorem c74 (args : T) (h : AHeap) : (envL prog).call 74 args h = trim h (fin [.tmp 4] (runC (envL prog) (b74 (envL prog)) (args ++ List.replicate (27 - args.length) .undef) h)) :=
 call_tr (fn := Go.Proofs.Try.f74) tab74 (by kernel_rfl) (by rfl) (by kernel_rfl) (fun t h => by kernel_rfl) rfl args h
def tab75 : Nat → Cert := fun i => ⟨0, 0, 0, 0, 0, 0⟩
noncomputable def l75x0 (E : Env) : CT :=
 .seq (.reg [o 13 (sBin .lss .none (X 12) (X 11))])
 (.seq (.ite (X 13)
 (.skip)
 (.exit 0))
 (.seq (.block 1 (.seq (.reg [o 14 (sMov (X 12)),
  o 15 (sIdxAddrS 1 (X 10) (X 12)),
  o 16 (sLoad 1 false (X 15)),
  o 4 (sMov (X 14)),
  o 5 (sMov (X 16))])
 (.reg [o 17 (sMov (X 3)),
  o 18 (sMov (X 5)),
  o 19 (sConv (.int .u64) (X 18)),
  o 20 (sMov (X 4)),
  o 21 (sBin .mul .none (K (.int .i64 8)) (X 20)),
  o 22 (sBin .shl .none (X 19) (X 21)),
  o 23 (sBin .or .none (X 17) (X 22)),
  o 3 (sMov (X 23))])))
 (.reg [o 24 (sBin .add .none (X 12) (K (.int .i64 1))),
  o 12 (sMov (X 24))])))
noncomputable def b75 (E : Env) : CT :=
 .seq (.reg [o 2 (sMov (K (.int .u64 0)))])
 (.seq (.reg [o 3 (sMov (K (.int .u64 0)))])
 (.seq (.seq (.reg [o 6 (sMov (X 0)),
  o 7 (sMov (X 0)),
  o 8 (sLenSl (X 7)),
  o 9 (sMin [(X 8), (K (.int .i64 8))]),
  o 10 (sSliceS 1 (X 6) none (some (X 9)) none),
  o 11 (sLenSl (X 10)),
  o 12 (sMov (K (.int .i64 0)))])
 (.block 0 (.loop (l75x0 E))))
 (.seq (.reg [o 25 (sMov (X 3)),
  o 2 (sMov (X 25))])
 (.ret))))
theorem c75 (args : T) (h : AHeap) : (envL prog).call 75 args h = trim h (fin [.tmp 2] (runC (envL prog) (b75 (envL prog)) (args ++ List.replicate (26 - args.length) .undef) h)) :=
 call_tr (fn := Go.Proofs.Try.f75) tab75 (by kernel_rfl) (by rfl) (by kernel_rfl) (fun t h => by kernel_rfl) rfl args h
def tab76 : Nat → Cert := fun i => ⟨0, 0, 0, 0, 0, 0⟩
noncomputable def b76 (E : Env) : CT :=
 .seq (.reg [o 4 (sMov (K (.nilSl)))])
 (.seq (.seq (.reg [o 5 (sMov (X 1)),
  o 6 (sBin .lss .none (X 5) (K (.int .i64 0)))])
 (.ite (X 6)
 (.reg [o 7 (sNone),
  u (sNone)])
 (.skip)))
 (.seq (.seq (.reg [o 8 (sMov (X 1)),
  o 9 (sMov (X 0)),
  o 10 (sCapSl (X 9)),
  o 11 (sMov (X 0)),
  o 12 (sLenSl (X 11)),
  o 13 (sBin .sub .none (X 10) (X 12)),
  o 14 (sBin .sub .none (X 8) (X 13)),
  o 1 (sMov (X 14))])
 (.seq (.reg [o 15 (sMov (X 1)),
  o 16 (sBin .gtr .none (X 15) (K (.int .i64 0)))])
 (.ite (X 16)
 (.reg [o 17 (sMov (X 0)),
  o 18 (sMov (X 0)),
  o 19 (sCapSl (X 18)),
  o 20 (sSliceS 1 (X 17) none (some (X 19)) none),
  o 21 (sMov (X 1)),
  o 22 (sAppN (ty 1 false 1 [.int .u8 0]) (X 20) (X 21)),
  o 23 (sMov (X 0)),
  o 24 (sLenSl (X 23)),
  o 25 (sSliceS 1 (X 22) none (some (X 24)) none),
  o 0 (sMov (X 25))])
 (.skip))))
 (.seq (.reg [o 26 (sMov (X 0)),
  o 4 (sMov (X 26))])
 (.ret))))
theorem c76 (args : T) (h : AHeap) : (envL prog).call 76 args h = trim h (fin [.tmp 4] (runC (envL prog) (b76 (envL prog)) (args ++ List.replicate (27 - args.length) .undef) h)) :=
 call_tr (fn := Go.Proofs.Try.f76) tab76 (by kernel_rfl) (by rfl) (by kernel_rfl) (fun t h => by kernel_rfl) rfl args h
def tab77 : Nat → Cert := fun i => ⟨0, 0, 0, 0, 0, 0⟩
noncomputable def b77 (E : Env) : CT :=
 .seq (.reg [o 2 (sBox (X 0)),
  o 3 (sBox (X 1)),
  o 4 (sMov (K (.nilFn)))])
 (.seq (.reg [o 5 (sFun 79 [(X 3), (X 2)]),
  o 4 (sMov (X 5))])
 (.ret))
theorem c77 (args : T) (h : AHeap) : (envL prog).call 77 args h = trim h (fin [.tmp 4] (runC (envL prog) (b77 (envL prog)) (args ++ List.replicate (6 - args.length) .undef) h)) :=
 call_tr (fn := Go.Proofs.Try.f77) tab77 (by kernel_rfl) (by rfl) (by kernel_rfl) (fun t h => by kernel_rfl) rfl args h
def tab78 : Nat → Cert := fun i => ⟨0, 0, 0, 0, 0, 0⟩
noncomputable def aq78x0 (E : Env) : CT :=
 .reg [o 5 (sMov (X 8))]
noncomputable def bq78x0 (E : Env) : CT :=
 .block 1 (.reg [o 9 (sLoad 1 false (X 2)),
  o 10 (sMov (X 5)),
  o 11 (sConv (.int .u64) (X 10)),
  o 12 (sBin .xor .none (X 9) (X 11)),
  o 13 (sBin .mul .none (X 12) (K (.int .u64 1099511628211))),
  u (sStore 1 (X 2) (X 13))])
noncomputable def kaq78x0 : Code := (nthRange Go.Proofs.Try.f78 0).1
noncomputable def kbq78x0 : Code := (nthRange Go.Proofs.Try.f78 0).2
theorem eaq78x0 (E : Env) (t : T) (h : AHeap) : evalCode prog E kaq78x0 t h = runC E (aq78x0 E) t h := code_tr tab78 (by kernel_rfl) t h
theorem ebq78x0 (E : Env) (t : T) (h : AHeap) : evalCode prog E kbq78x0 t h = runC E (bq78x0 E) t h := code_tr tab78 (by kernel_rfl) t h
noncomputable def b78 (E : Env) : CT :=
 .seq (.reg [o 2 (sBox (X 0)),
  o 4 (sMov (K (.int .u64 0)))])
 (.seq (.seq (.reg [o 6 (sMov (X 1)),
  o 7 (sCall E 80 [(X 6)])])
 (.block 0 (.range (X 7) [8] kaq78x0 kbq78x0)))
 (.seq (.reg [o 14 (sLoad 1 false (X 2)),
  o 4 (sMov (X 14))])
 (.ret)))
theorem c78 (args : T) (h : AHeap) : (envL prog).call 78 args h = trim h (fin [.tmp 4] (runC (envL prog) (b78 (envL prog)) (args ++ List.replicate (15 - args.length) .undef) h)) :=
 call_tr (fn := Go.Proofs.Try.f78) tab78 (by kernel_rfl) (by rfl) (by kernel_rfl) (fun t h => by kernel_rfl) rfl args h
def tab79 : Nat → Cert := fun i => ⟨0, 0, 0, 0, 0, 0⟩
noncomputable def l79x0 (E : Env) : CT :=
 .seq (.reg [o 6 (sBin .lss .none (X 5) (X 4))])
 (.seq (.ite (X 6)
 (.skip)
 (.exit 0))
 (.seq (.block 1 (.seq (.seq (.reg [o 7 (sMov (X 0)),
  o 8 (sLoad 1 false (X 2)),
  o 9 (sConv (.int .u8) (X 8)),
  o 10 (sCallV E (X 7) [(X 9)]),
  o 11 (sUn .not (X 10))])
 (.ite (X 11)
 (.ret)
 (.skip)))
 (.reg [o 12 (sLoad 1 false (X 2)),
  o 13 (sBin .shr .none (X 12) (K (.int .u64 8))),
  u (sStore 1 (X 2) (X 13))])))
 (.reg [o 14 (sBin .add .none (X 5) (K (.int .i64 1))),
  o 5 (sMov (X 14))])))
noncomputable def b79 (E : Env) : CT :=
 .seq (.reg [o 4 (sLoad 1 false (X 1)),
  o 5 (sMov (K (.int .i64 0)))])
 (.block 0 (.loop (l79x0 E)))
theorem c79 (args : T) (h : AHeap) : (envL prog).call 79 args h = trim h (fin [] (runC (envL prog) (b79 (envL prog)) (args ++ List.replicate (15 - args.length) .undef) h)) :=
 call_tr (fn := Go.Proofs.Try.f79) tab79 (by kernel_rfl) (by rfl) (by kernel_rfl) (fun t h => by kernel_rfl) rfl args h
def tab80 : Nat → Cert := fun i => ⟨0, 0, 0, 0, 0, 0⟩
noncomputable def b80 (E : Env) : CT :=
 .seq (.reg [o 1 (sBox (X 0)),
  o 2 (sMov (K (.nilFn)))])
 (.seq (.reg [o 3 (sFun 81 [(X 1)]),
  o 2 (sMov (X 3))])
 (.ret))
theorem c80 (args : T) (h : AHeap) : (envL prog).call 80 args h = trim h (fin [.tmp 2] (runC (envL prog) (b80 (envL prog)) (args ++ List.replicate (4 - args.length) .undef) h)) :=
 call_tr (fn := Go.Proofs.Try.f80) tab80 (by kernel_rfl) (by rfl) (by kernel_rfl) (fun t h => by kernel_rfl) rfl args h
def tab81 : Nat → Cert := fun i => ⟨0, 0, 0, 0, 0, 0⟩
noncomputable def l81x0 (E : Env) : CT :=
 .seq (.reg [o 8 (sBin .lss .none (X 7) (X 6))])
 (.seq (.ite (X 8)
 (.skip)
 (.exit 0))
 (.seq (.block 1 (.seq (.reg [o 9 (sIdxAddrS 1 (X 5) (X 7)),
  o 10 (sLoad 1 false (X 9)),
  o 4 (sMov (X 10))])
 (.seq (.reg [o 11 (sMov (X 0)),
  o 12 (sMov (X 4)),
  o 13 (sCallV E (X 11) [(X 12)]),
  o 14 (sUn .not (X 13))])
 (.ite (X 14)
 (.ret)
 (.skip)))))
 (.reg [o 15 (sBin .add .none (X 7) (K (.int .i64 1))),
  o 7 (sMov (X 15))])))
noncomputable def b81 (E : Env) : CT :=
 .seq (.reg [o 5 (sLoad 1 false (X 1)),
  o 6 (sLenSl (X 5)),
  o 7 (sMov (K (.int .i64 0)))])
 (.block 0 (.loop (l81x0 E)))
theorem c81 (args : T) (h : AHeap) : (envL prog).call 81 args h = trim h (fin [] (runC (envL prog) (b81 (envL prog)) (args ++ List.replicate (16 - args.length) .undef) h)) :=
 call_tr (fn := Go.Proofs.Try.f81) tab81 (by kernel_rfl) (by rfl) (by kernel_rfl) (fun t h => by kernel_rfl) rfl args h
end Go.Proofs.Ytipedaadjfhdnaa.G06
