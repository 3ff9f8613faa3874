/- What the functions that RingTorn reaches answer, for every argument. No condition but those in each statement. -/
import Derived.Test.YtipedaadjfhdnaaE5
import Derived.Test.YtipedaadjfhdnaaProg
set_option maxRecDepth 100000
set_option linter.unusedVariables false
namespace Go.Proofs.Ytipedaadjfhdnaa.G06
open Go Go.Proofs.Ytipedaadjfhdnaa.Eng
noncomputable abbrev prog : Program := Go.Proofs.Try.prog
def tab7 : Nat → Cert := fun i => bif Nat.beq i 44 then ⟨13, 254, 198775641703891875736031034128795280747522571640832, 374073057817423280247527818446942985383568119701504, 5325306704939310989540558811297047029883287200520010217592794754024056458139275586478269982632933019148251515338081079350674117474300640021052608109218528332071552471038440226335672178764974579318085981512913968220176783585592535044082770783021859582638852575068917481112049667056373373191870957341044063196521718842703667593684319221224599498390537267078835056528969943231159781099627590174658560686128331387013154833508316944804327854981557786530259372204438523600865031315659887176273721954943381198189921501071518104083531238642767034928641721337665502032348498791799966883125797249978821897525225799923710878913272609103505271240893920941816738150974628324291869845468522916591678505271008754670465323294377355876515068870701820106838051090243647505413384899299682035854680028718034007697641194557692893214915638010405478046603138687394761257924157586546940145797033019295041084383299652273810250153582478265693107554852450522048283565465157638699853350257983716148425785396653206676701184, 88301272917946535708258935570279745133231799004825251421253619720532712424058561507667376326591779052810201556891913924119553280635438704821601205104458955063449605276977781522152778033075392316764377640309246887008401802313913934263270611448825341037270791987696426044075044394928771468217179541505878568315482011257579851011670486555073546436016407577045817152929908445673201889714095303795600880127695710446205417543511005900952805244901402152395070401887276040482634285343751766678741003435775910549763691044474758234352616597764986463773845696059599109586329627452939849546818780208624448536532253720105025712049016770791172253188495424008604607752299141464504308202243328255583514404169330279172829511731750310465497031728361769345702562161157377088547659916334195991574348135192647740403051351458885506192547801454028385269995241279500847898875122341318522535771795454447461633667979793860975208945216649267511539⟩ else ⟨0, 0, 0, 0, 0, 0⟩
noncomputable def l7x0 (E : Env) : CT :=
 .seq (.seq (.reg [o 60 (sMov (X 7)),
  o 61 (sFieldAddr 0 (X 1)),
  o 62 (sLoad 1 false (X 61)),
  o 63 (sLenSl (X 62)),
  o 64 (sBin .lss .none (X 60) (X 63))])
 (.ite (X 64)
 (.skip)
 (.exit 0)))
 (.seq (.block 1 (.seq (.seq (.reg [o 67 (sFieldAddr 0 (X 1)),
  o 68 (sLoad 1 false (X 67)),
  o 69 (sMov (X 7)),
  o 70 (sIdxAddrS 1 (X 68) (X 69)),
  o 71 (sLoad 1 false (X 70)),
  o 72 (sCall E 13 [(X 71), (K (.int .i64 5))]),
  o 73 (sUn .not (X 72))])
 (.ite (X 73)
 (.seq (.reg [o 74 (sCall E 12 []),
  o 2 (sMov (X 74))])
 (.ret))
 (.skip)))
 (.seq (.reg [o 76 (sFieldAddr 0 (X 1)),
  o 77 (sLoad 1 false (X 76)),
  o 78 (sMov (X 7)),
  o 79 (sIdxAddrS 1 (X 77) (X 78)),
  o 80 (sLoad 1 false (X 79)),
  o 81 (sCall E 14 [(X 80)]),
  o 75 (sMov (X 81)),
  o 82 (sExtract (X 75) 0),
  o 83 (sExtract (X 75) 1),
  o 8 (sMov (X 82)),
  o 9 (sMov (X 83))])
 (.seq (.reg [o 85 (sMov (X 3)),
  o 86 (sMov (X 5)),
  o 87 (sMov (X 6)),
  o 88 (sMov (X 8)),
  o 89 (sCall E 9 [(X 85), (K (.int .i64 4)), (K (.int .i64 60)), (X 86), (X 87), (X 88)]),
  o 84 (sMov (X 89)),
  o 90 (sExtract (X 84) 0),
  o 91 (sExtract (X 84) 1),
  o 10 (sMov (X 90)),
  o 11 (sMov (X 91))])
 (.seq (.seq (.reg [o 92 (sMov (X 11)),
  o 93 (sBin .neq .none (X 92) (K (.int .i64 0)))])
 (.ite (X 93)
 (.seq (.reg [o 2 (sMov (K (.bool false)))])
 (.ret))
 (.skip)))
 (.reg [o 94 (sMov (X 10)),
  o 95 (sMov (X 6)),
  o 96 (sBin .add .none (X 95) (K (.int .u32 1))),
  o 5 (sMov (X 94)),
  o 6 (sMov (X 96))]))))))
 (.reg [o 65 (sMov (X 7)),
  o 66 (sBin .add .none (X 65) (K (.int .i64 1))),
  o 7 (sMov (X 66))]))
noncomputable def l7x1 (E : Env) : CT :=
 .seq (.seq (.reg [o 236 (sMov (X 26)),
  o 237 (sMov (X 25)),
  o 238 (sLenSl (X 237)),
  o 239 (sBin .lss .none (X 236) (X 238))])
 (.ite (X 239)
 (.skip)
 (.exit 4)))
 (.seq (.block 5 (.seq (.drw [.op (o 242 (sFieldAddr 0 (X 22))),
  .op (o 243 (sLoad 1 false (X 242))),
  .op (o 244 (sMov (X 24))),
  .op (o 245 (sIdxAddrS 1 (X 243) (X 244))),
  .op (o 246 (sLoad 1 false (X 245))),
  .op (o 247 (sMov (X 26))),
  .op (o 248 (sIdxAddrS 49 (X 246) (X 247))),
  .op (o 249 (sLoad 49 true (X 248))),
  .op (o 250 (sMov (X 25))),
  .op (o 251 (sMov (X 26))),
  .op (o 252 (sIdxAddrS 49 (X 250) (X 251))),
  .op (o 253 (sLoad 49 true (X 252))),
  .op (o 254 (sBin .neq (.flat 49) (X 249) (X 253)))])
 (.ite (X 254)
 (.seq (.reg [o 2 (sMov (K (.bool false)))])
 (.ret))
 (.skip))))
 (.reg [o 240 (sMov (X 26)),
  o 241 (sBin .add .none (X 240) (K (.int .i64 1))),
  o 26 (sMov (X 241))]))
noncomputable def l7x2 (E : Env) : CT :=
 .seq (.seq (.reg [o 198 (sMov (X 24)),
  o 199 (sFieldAddr 0 (X 22)),
  o 200 (sLoad 1 false (X 199)),
  o 201 (sLenSl (X 200)),
  o 202 (sBin .lss .none (X 198) (X 201))])
 (.ite (X 202)
 (.skip)
 (.exit 2)))
 (.seq (.block 3 (.seq (.reg [o 205 (sMov (X 18)),
  o 25 (sMov (X 205))])
 (.seq (.seq (.reg [o 206 (sMov (X 24)),
  o 207 (sFieldAddr 0 (X 1)),
  o 208 (sLoad 1 false (X 207)),
  o 209 (sLenSl (X 208)),
  o 210 (sBin .lss .none (X 206) (X 209))])
 (.ite (X 210)
 (.reg [o 212 (sFieldAddr 0 (X 1)),
  o 213 (sLoad 1 false (X 212)),
  o 214 (sMov (X 24)),
  o 215 (sIdxAddrS 1 (X 213) (X 214)),
  o 216 (sLoad 1 false (X 215)),
  o 217 (sCall E 14 [(X 216)]),
  o 211 (sMov (X 217)),
  o 218 (sExtract (X 211) 0),
  o 219 (sExtract (X 211) 1),
  o 25 (sMov (X 218))])
 (.seq (.reg [o 220 (sMov (X 24)),
  o 221 (sBin .add .none (X 220) (K (.int .i64 1))),
  o 222 (sFieldAddr 0 (X 22)),
  o 223 (sLoad 1 false (X 222)),
  o 224 (sLenSl (X 223)),
  o 225 (sBin .lss .none (X 221) (X 224))])
 (.ite (X 225)
 (.reg [o 226 (sMov (X 12)),
  o 25 (sMov (X 226))])
 (.skip)))))
 (.seq (.seq (.reg [o 227 (sFieldAddr 0 (X 22)),
  o 228 (sLoad 1 false (X 227)),
  o 229 (sMov (X 24)),
  o 230 (sIdxAddrS 1 (X 228) (X 229)),
  o 231 (sLoad 1 false (X 230)),
  o 232 (sLenSl (X 231)),
  o 233 (sMov (X 25)),
  o 234 (sLenSl (X 233)),
  o 235 (sBin .neq .none (X 232) (X 234))])
 (.ite (X 235)
 (.seq (.reg [o 2 (sMov (K (.bool false)))])
 (.ret))
 (.skip)))
 (.seq (.reg [o 26 (sMov (K (.int .i64 0)))])
 (.block 4 (.loop (l7x1 E))))))))
 (.reg [o 203 (sMov (X 24)),
  o 204 (sBin .add .none (X 203) (K (.int .i64 1))),
  o 24 (sMov (X 204))]))
noncomputable def b7 (E : Env) : CT :=
 .seq (.reg [o 1 (sBox (X 0)),
  o 2 (sMov (K (.bool false)))])
 (.seq (.seq (.reg [o 27 (sFieldAddr 0 (X 1)),
  o 28 (sLoad 1 false (X 27)),
  o 29 (sLenSl (X 28)),
  o 30 (sBin .gtr .none (X 29) (K (.int .i64 8))),
  o 31 (sMov (X 30)),
  og 31 false 32 (sFieldAddr 1 (X 1)),
  og 31 false 33 (sLoad 1 false (X 32)),
  og 31 false 34 (sCall E 13 [(X 33), (K (.int .i64 5))]),
  og 31 false 35 (sUn .not (X 34)),
  o 36 (sPick (X 31) (K (.bool true)) (X 35)),
  o 37 (sMov (X 36)),
  og 37 false 38 (sFieldAddr 4 (X 1)),
  og 37 false 39 (sLoad 1 false (X 38)),
  og 37 false 40 (sCall E 13 [(X 39), (K (.int .i64 5))]),
  og 37 false 41 (sUn .not (X 40)),
  o 42 (sPick (X 37) (K (.bool true)) (X 41)),
  o 43 (sMov (X 42)),
  og 43 false 44 (sFieldAddr 3 (X 1)),
  og 43 false 45 (sLoad 1 false (X 44)),
  og 43 false 46 (sLenSl (X 45)),
  og 43 false 47 (sBin .gtr .none (X 46) (K (.int .i64 100))),
  o 48 (sPick (X 43) (K (.bool true)) (X 47))])
 (.ite (X 48)
 (.seq (.reg [o 49 (sCall E 12 []),
  o 2 (sMov (X 49))])
 (.ret))
 (.skip)))
 (.seq (.reg [o 51 (sCall E 11 [(K (.int .i64 70)), (K (.int .i64 1))]),
  o 50 (sMov (X 51)),
  o 52 (sExtract (X 50) 0),
  o 53 (sExtract (X 50) 1),
  o 3 (sMov (X 52)),
  o 4 (sMov (X 53))])
 (.seq (.seq (.reg [o 54 (sMov (X 4)),
  o 55 (sBin .neq .none (X 54) (K (.int .i64 0))),
  o 56 (sMov (X 55)),
  og 56 false 57 (sMov (X 3)),
  og 56 false 58 (sBin .eql .ptr (X 57) (K (.nilPtr))),
  o 59 (sPick (X 56) (K (.bool true)) (X 58))])
 (.ite (X 59)
 (.seq (.reg [o 2 (sMov (K (.bool false)))])
 (.ret))
 (.skip)))
 (.seq (.reg [o 5 (sMov (K (.int .i64 50))),
  o 6 (sMov (K (.int .u32 9)))])
 (.seq (.seq (.reg [o 7 (sMov (K (.int .i64 0)))])
 (.block 0 (.loop (l7x0 E))))
 (.seq (.reg [o 98 (sFieldAddr 1 (X 1)),
  o 99 (sLoad 1 false (X 98)),
  o 100 (sCall E 14 [(X 99)]),
  o 97 (sMov (X 100)),
  o 101 (sExtract (X 97) 0),
  o 102 (sExtract (X 97) 1),
  o 12 (sMov (X 101)),
  o 13 (sMov (X 102))])
 (.seq (.reg [o 103 (sMov (X 3)),
  o 104 (sFieldAddr 2 (X 1)),
  o 105 (sLoad 1 false (X 104)),
  o 106 (sConv (.int .i64) (X 105)),
  o 107 (sBin .rem .none (X 106) (K (.int .i64 12))),
  o 108 (sCall E 27 [(X 103), (X 107)])])
 (.seq (.reg [o 110 (sMov (X 3)),
  o 111 (sMov (X 5)),
  o 112 (sMov (X 6)),
  o 113 (sMov (X 12)),
  o 114 (sCall E 9 [(X 110), (K (.int .i64 4)), (K (.int .i64 60)), (X 111), (X 112), (X 113)]),
  o 109 (sMov (X 114)),
  o 115 (sExtract (X 109) 0),
  o 116 (sExtract (X 109) 1),
  o 14 (sMov (X 115)),
  o 15 (sMov (X 116))])
 (.seq (.reg [o 117 (sMov (X 3)),
  o 118 (sBuildSl 1 0 [.int .u8 0] []),
  o 119 (sFieldAddr 3 (X 1)),
  o 120 (sLoad 1 false (X 119)),
  o 121 (sApp (ty 1 false 1 [.int .u8 0]) (X 118) (X 120)),
  o 122 (sCall E 22 [(X 117), (X 121), (K (.nilSl))])])
 (.seq (.reg [o 124 (sMov (X 3)),
  o 125 (sCall E 8 [(X 124), (K (.int .i64 4)), (K (.int .i64 60)), (K (.int .i64 50)), (K (.int .u32 9))]),
  o 123 (sMov (X 125)),
  o 126 (sExtract (X 123) 0),
  o 127 (sExtract (X 123) 1),
  o 16 (sAlloc [.nilSl, .int .i64 0, .int .u32 0]),
  u (sStore 3 (X 16) (X 126)),
  o 17 (sMov (X 127))])
 (.seq (.seq (.reg [o 128 (sMov (X 17)),
  o 129 (sBin .neq .none (X 128) (K (.int .i64 0))),
  o 130 (sMov (X 129)),
  og 130 false 131 (sFieldAddr 0 (X 16)),
  og 130 false 132 (sLoad 1 false (X 131)),
  og 130 false 133 (sLenSl (X 132)),
  og 130 false 134 (sFieldAddr 0 (X 1)),
  og 130 false 135 (sLoad 1 false (X 134)),
  og 130 false 136 (sLenSl (X 135)),
  og 130 false 137 (sBin .neq .none (X 133) (X 136)),
  og 130 false 138 (sMov (X 137)),
  og 138 true 139 (sFieldAddr 0 (X 16)),
  og 138 true 140 (sLoad 1 false (X 139)),
  og 138 true 141 (sLenSl (X 140)),
  og 138 true 142 (sFieldAddr 0 (X 1)),
  og 138 true 143 (sLoad 1 false (X 142)),
  og 138 true 144 (sLenSl (X 143)),
  og 138 true 145 (sBin .add .none (X 144) (K (.int .i64 1))),
  og 138 true 146 (sBin .neq .none (X 141) (X 145)),
  og 130 false 147 (sPick (X 138) (X 146) (K (.bool false))),
  o 148 (sPick (X 130) (K (.bool true)) (X 147)),
  o 149 (sMov (X 148)),
  og 149 false 150 (sMov (X 15)),
  og 149 false 151 (sBin .eql .none (X 150) (K (.int .i64 0))),
  og 149 false 152 (sMov (X 151)),
  og 152 true 153 (sFieldAddr 0 (X 16)),
  og 152 true 154 (sLoad 1 false (X 153)),
  og 152 true 155 (sLenSl (X 154)),
  og 152 true 156 (sFieldAddr 0 (X 1)),
  og 152 true 157 (sLoad 1 false (X 156)),
  og 152 true 158 (sLenSl (X 157)),
  og 152 true 159 (sBin .add .none (X 158) (K (.int .i64 1))),
  og 152 true 160 (sBin .neq .none (X 155) (X 159)),
  og 149 false 161 (sPick (X 152) (X 160) (K (.bool false))),
  o 162 (sPick (X 149) (K (.bool true)) (X 161))])
 (.ite (X 162)
 (.seq (.reg [o 2 (sMov (K (.bool false)))])
 (.ret))
 (.skip)))
 (.seq (.reg [o 164 (sFieldAddr 4 (X 1)),
  o 165 (sLoad 1 false (X 164)),
  o 166 (sCall E 14 [(X 165)]),
  o 163 (sMov (X 166)),
  o 167 (sExtract (X 163) 0),
  o 168 (sExtract (X 163) 1),
  o 18 (sMov (X 167)),
  o 19 (sMov (X 168))])
 (.seq (.seq (.reg [o 170 (sMov (X 3)),
  o 171 (sFieldAddr 1 (X 16)),
  o 172 (sLoad 1 false (X 171)),
  o 173 (sFieldAddr 2 (X 16)),
  o 174 (sLoad 1 false (X 173)),
  o 175 (sMov (X 18)),
  o 176 (sCall E 9 [(X 170), (K (.int .i64 4)), (K (.int .i64 60)), (X 172), (X 174), (X 175)]),
  o 169 (sMov (X 176)),
  o 177 (sExtract (X 169) 0),
  o 178 (sExtract (X 169) 1),
  o 20 (sMov (X 177)),
  o 21 (sMov (X 178))])
 (.seq (.reg [o 179 (sMov (X 21)),
  o 180 (sBin .neq .none (X 179) (K (.int .i64 0)))])
 (.ite (X 180)
 (.seq (.reg [o 2 (sMov (K (.bool false)))])
 (.ret))
 (.skip))))
 (.seq (.reg [o 182 (sMov (X 3)),
  o 183 (sCall E 8 [(X 182), (K (.int .i64 4)), (K (.int .i64 60)), (K (.int .i64 50)), (K (.int .u32 9))]),
  o 181 (sMov (X 183)),
  o 184 (sExtract (X 181) 0),
  o 185 (sExtract (X 181) 1),
  o 22 (sAlloc [.nilSl, .int .i64 0, .int .u32 0]),
  u (sStore 3 (X 22) (X 184)),
  o 23 (sMov (X 185))])
 (.seq (.seq (.reg [o 186 (sMov (X 23)),
  o 187 (sBin .neq .none (X 186) (K (.int .i64 0))),
  o 188 (sMov (X 187)),
  og 188 false 189 (sFieldAddr 0 (X 22)),
  og 188 false 190 (sLoad 1 false (X 189)),
  og 188 false 191 (sLenSl (X 190)),
  og 188 false 192 (sFieldAddr 0 (X 16)),
  og 188 false 193 (sLoad 1 false (X 192)),
  og 188 false 194 (sLenSl (X 193)),
  og 188 false 195 (sBin .add .none (X 194) (K (.int .i64 1))),
  og 188 false 196 (sBin .neq .none (X 191) (X 195)),
  o 197 (sPick (X 188) (K (.bool true)) (X 196))])
 (.ite (X 197)
 (.seq (.reg [o 2 (sMov (K (.bool false)))])
 (.ret))
 (.skip)))
 (.seq (.seq (.reg [o 24 (sMov (K (.int .i64 0)))])
 (.block 2 (.loop (l7x2 E))))
 (.seq (.reg [o 255 (sCall E 12 []),
  o 2 (sMov (X 255))])
 (.ret))))))))))))))))))
theorem c7 (args : T) (h : AHeap) : (envL prog).call 7 args h = trim h (fin [.tmp 2] (runC (envL prog) (b7 (envL prog)) (args ++ List.replicate (256 - args.length) .undef) h)) :=
 call_tr (fn := Go.Proofs.Try.f7) tab7 (by kernel_rfl) (by rfl) (by kernel_rfl) (fun t h => by kernel_rfl) rfl args h
theorem d7 (E : Env) (args : T) (h : AHeap) : callBody prog E 7 args h = trim h (fin [.tmp 2] (runC E (b7 E) (args ++ List.replicate (256 - args.length) .undef) h)) :=
 body_tr (fn := Go.Proofs.Try.f7) tab7 (by kernel_rfl) (by rfl) (by kernel_rfl) (fun t h => by kernel_rfl) rfl args h
def tab8 : Nat → Cert := fun i => ⟨0, 0, 0, 0, 0, 0⟩
noncomputable def l8x0 (E : Env) : CT :=
 .seq (.seq (.reg [o 28 (sFieldAddr 0 (X 13)),
  o 29 (sLoad 1 false (X 28)),
  o 30 (sLenSl (X 29)),
  o 31 (sMov (X 2)),
  o 32 (sBin .lss .none (X 30) (X 31))])
 (.ite (X 32)
 (.skip)
 (.exit 0)))
 (.block 1 (.seq (.reg [o 34 (sLoad 3 true (X 12)),
  o 35 (sFieldAddr 1 (X 13)),
  o 36 (sLoad 1 false (X 35)),
  o 37 (sFieldAddr 2 (X 13)),
  o 38 (sLoad 1 false (X 37)),
  o 39 (sCall E 29 [(X 34), (X 36), (X 38)]),
  o 33 (sMov (X 39)),
  o 40 (sExtract (X 33) 0),
  o 41 (sExtract (X 33) 1),
  o 14 (sMov (X 40)),
  o 15 (sMov (X 41))])
 (.seq (.seq (.reg [o 42 (sMov (X 15)),
  o 43 (sBin .neq .none (X 42) (K (.int .i64 0)))])
 (.ite (X 43)
 (.seq (.reg [o 44 (sBuild [.nilSl, .int .i64 0, .int .u32 0] []),
  o 45 (sMov (X 15)),
  u (sStore 3 (X 10) (X 44)),
  o 11 (sMov (X 45))])
 (.ret))
 (.skip)))
 (.seq (.seq (.reg [o 46 (sMov (X 14)),
  o 47 (sLenSl (X 46)),
  o 48 (sBin .eql .none (X 47) (K (.int .i64 0)))])
 (.ite (X 48)
 (.exit 0)
 (.skip)))
 (.seq (.reg [o 49 (sFieldAddr 0 (X 13)),
  o 50 (sLoad 1 false (X 49)),
  o 51 (sMov (X 14)),
  o 52 (sBuildSl 1 1 [.nilSl] [(0, 1, (X 51))]),
  o 53 (sApp (ty 1 false 24 [.nilSl]) (X 50) (X 52)),
  o 54 (sFieldAddr 0 (X 13)),
  u (sStore 1 (X 54) (X 53))])
 (.seq (.reg [o 55 (sFieldAddr 1 (X 13)),
  o 56 (sLoad 1 false (X 55)),
  o 57 (sMov (X 14)),
  o 58 (sLenSl (X 57)),
  o 59 (sBin .add .none (X 56) (X 58)),
  o 60 (sBin .add .none (X 59) (K (.int .i64 1))),
  o 61 (sMov (X 2)),
  o 62 (sBin .rem .none (X 60) (X 61)),
  o 63 (sFieldAddr 1 (X 13)),
  u (sStore 1 (X 63) (X 62))])
 (.reg [o 64 (sFieldAddr 2 (X 13)),
  o 65 (sLoad 1 false (X 64)),
  o 66 (sBin .add .none (X 65) (K (.int .u32 1))),
  o 67 (sFieldAddr 2 (X 13)),
  u (sStore 1 (X 67) (X 66))])))))))
noncomputable def b8 (E : Env) : CT :=
 .seq (.reg [o 10 (sAlloc [.nilSl, .int .i64 0, .int .u32 0]),
  o 11 (sMov (K (.int .i64 0)))])
 (.seq (.reg [o 16 (sMov (X 0)),
  o 17 (sMov (X 1)),
  o 18 (sMov (X 2)),
  o 19 (sBuild [.nilPtr, .int .i64 0, .int .i64 0] [(0, 1, (X 16)), (1, 1, (X 17)), (2, 1, (X 18))]),
  o 12 (sAlloc [.nilPtr, .int .i64 0, .int .i64 0]),
  u (sStore 3 (X 12) (X 19))])
 (.seq (.seq (.reg [o 20 (sLoad 3 true (X 12)),
  o 21 (sMov (X 3)),
  o 22 (sCall E 28 [(X 20), (X 21)]),
  o 23 (sUn .not (X 22))])
 (.ite (X 23)
 (.seq (.reg [o 24 (sBuild [.nilSl, .int .i64 0, .int .u32 0] []),
  u (sStore 3 (X 10) (X 24)),
  o 11 (sMov (K (.int .i64 1)))])
 (.ret))
 (.skip)))
 (.seq (.reg [o 25 (sMov (X 3)),
  o 26 (sMov (X 4)),
  o 27 (sBuild [.nilSl, .int .i64 0, .int .u32 0] [(1, 1, (X 25)), (2, 1, (X 26))]),
  o 13 (sAlloc [.nilSl, .int .i64 0, .int .u32 0]),
  u (sStore 3 (X 13) (X 27))])
 (.seq (.block 0 (.loop (l8x0 E)))
 (.seq (.reg [o 68 (sLoad 3 true (X 13)),
  u (sStore 3 (X 10) (X 68)),
  o 11 (sMov (K (.int .i64 0)))])
 (.ret))))))
theorem c8 (args : T) (h : AHeap) : (envL prog).call 8 args h = trim h (fin [.cell 10 3 true, .tmp 11] (runC (envL prog) (b8 (envL prog)) (args ++ List.replicate (69 - args.length) .undef) h)) :=
 call_tr (fn := Go.Proofs.Try.f8) tab8 (by kernel_rfl) (by rfl) (by kernel_rfl) (fun t h => by kernel_rfl) rfl args h
def tab9 : Nat → Cert := fun i => ⟨0, 0, 0, 0, 0, 0⟩
noncomputable def l9x0 (E : Env) : CT :=
 .seq (.reg [o 46 (sBin .lss .none (X 45) (X 44))])
 (.seq (.ite (X 46)
 (.skip)
 (.exit 1))
 (.seq (.block 2 (.seq (.reg [o 47 (sIdxAddrS 49 (X 43) (X 45)),
  o 48 (sLoad 49 true (X 47)),
  o 16 (sAlloc ([.int .i64 0] ++ rep 48 (.int .u8 0))),
  u (sStore 49 (X 16) (X 48))])
 (.seq (.reg [o 49 (sFieldAddr 0 (X 16)),
  o 50 (sLoad 1 false (X 49)),
  o 51 (sBin .lss .none (X 50) (K (.int .i64 0))),
  o 52 (sMov (X 51)),
  og 52 false 53 (sFieldAddr 0 (X 16)),
  og 52 false 54 (sLoad 1 false (X 53)),
  og 52 false 55 (sBin .gtr .none (X 54) (K (.int .i64 65535))),
  o 56 (sPick (X 52) (K (.bool true)) (X 55))])
 (.ite (X 56)
 (.seq (.reg [o 12 (sMov (K (.int .i64 0))),
  o 13 (sMov (K (.int .i64 1)))])
 (.ret))
 (.skip)))))
 (.reg [o 57 (sBin .add .none (X 45) (K (.int .i64 1))),
  o 45 (sMov (X 57))])))
noncomputable def l9x1 (E : Env) : CT :=
 .seq (.reg [o 61 (sBin .lss .none (X 60) (X 59))])
 (.seq (.ite (X 61)
 (.skip)
 (.exit 3))
 (.seq (.block 4 (.seq (.reg [o 62 (sMov (X 60)),
  o 63 (sIdxAddrS 49 (X 58) (X 60)),
  o 64 (sLoad 49 true (X 63)),
  o 18 (sAlloc ([.int .i64 0] ++ rep 48 (.int .u8 0))),
  o 17 (sMov (X 62)),
  u (sStore 49 (X 18) (X 64))])
 (.seq (.reg [o 65 (sLoad 3 true (X 14)),
  o 66 (sMov (X 3)),
  o 67 (sMov (X 17)),
  o 68 (sBin .add .none (X 66) (X 67)),
  o 69 (sMov (X 4)),
  o 70 (sFieldAddr 0 (X 18)),
  o 71 (sLoad 1 false (X 70)),
  o 72 (sFieldAddr 1 (X 18)),
  o 73 (sLoad 48 true (X 72)),
  o 74 (sBuild ([.int .u8 0, .int .u32 0, .int .i64 0] ++ rep 48 (.int .u8 0)) [(0, 1, (K (.int .u8 73))), (1, 1, (X 69)), (2, 1, (X 71)), (3, 48, (X 73))]),
  o 75 (sCall E 30 [(X 65), (X 68), (X 74)]),
  o 19 (sMov (X 75))])
 (.seq (.reg [o 76 (sMov (X 19)),
  o 77 (sBin .neq .none (X 76) (K (.int .i64 0)))])
 (.ite (X 77)
 (.seq (.reg [o 78 (sMov (X 19)),
  o 12 (sMov (K (.int .i64 0))),
  o 13 (sMov (X 78))])
 (.ret))
 (.skip))))))
 (.reg [o 79 (sBin .add .none (X 60) (K (.int .i64 1))),
  o 60 (sMov (X 79))])))
noncomputable def b9 (E : Env) : CT :=
 .seq (.reg [o 12 (sMov (K (.int .i64 0))),
  o 13 (sMov (K (.int .i64 0)))])
 (.seq (.reg [o 23 (sMov (X 0)),
  o 24 (sMov (X 1)),
  o 25 (sMov (X 2)),
  o 26 (sBuild [.nilPtr, .int .i64 0, .int .i64 0] [(0, 1, (X 23)), (1, 1, (X 24)), (2, 1, (X 25))]),
  o 14 (sAlloc [.nilPtr, .int .i64 0, .int .i64 0]),
  u (sStore 3 (X 14) (X 26))])
 (.seq (.block 0 (.seq (.reg [o 28 (sLoad 3 true (X 14)),
  o 29 (sMov (X 3)),
  o 30 (sCall E 28 [(X 28), (X 29)]),
  o 31 (sUn .not (X 30)),
  o 27 (sMov (X 31))])
 (.ite (X 27)
 (.seq (.reg [o 12 (sMov (K (.int .i64 0))),
  o 13 (sMov (K (.int .i64 1)))])
 (.ret))
 (.seq (.reg [o 33 (sMov (X 5)),
  o 34 (sLenSl (X 33)),
  o 35 (sBin .lss .none (X 34) (K (.int .i64 1))),
  o 36 (sMov (X 35)),
  og 36 false 37 (sMov (X 5)),
  og 36 false 38 (sLenSl (X 37)),
  og 36 false 39 (sMov (X 2)),
  og 36 false 40 (sBin .sub .none (X 39) (K (.int .i64 1))),
  og 36 false 41 (sBin .gtr .none (X 38) (X 40)),
  o 42 (sPick (X 36) (K (.bool true)) (X 41)),
  o 32 (sMov (X 42))])
 (.ite (X 32)
 (.seq (.reg [o 12 (sMov (K (.int .i64 0))),
  o 13 (sMov (K (.int .i64 2)))])
 (.ret))
 (.skip))))))
 (.seq (.seq (.reg [o 43 (sMov (X 5)),
  o 44 (sLenSl (X 43)),
  o 45 (sMov (K (.int .i64 0)))])
 (.block 1 (.loop (l9x0 E))))
 (.seq (.seq (.reg [o 58 (sMov (X 5)),
  o 59 (sLenSl (X 58)),
  o 60 (sMov (K (.int .i64 0)))])
 (.block 3 (.loop (l9x1 E))))
 (.seq (.seq (.reg [o 80 (sMov (X 0)),
  o 81 (sCall E 31 [(X 80), (K (.int .i64 0))]),
  o 20 (sMov (X 81))])
 (.seq (.reg [o 82 (sMov (X 20)),
  o 83 (sBin .neq .none (X 82) (K (.int .i64 0)))])
 (.ite (X 83)
 (.seq (.reg [o 84 (sMov (X 20)),
  o 12 (sMov (K (.int .i64 0))),
  o 13 (sMov (X 84))])
 (.ret))
 (.skip))))
 (.seq (.seq (.reg [o 85 (sLoad 3 true (X 14)),
  o 86 (sMov (X 3)),
  o 87 (sMov (X 5)),
  o 88 (sLenSl (X 87)),
  o 89 (sBin .add .none (X 86) (X 88)),
  o 90 (sMov (X 4)),
  o 91 (sMov (X 5)),
  o 92 (sLenSl (X 91)),
  o 93 (sBuild ([.int .u8 0, .int .u32 0, .int .i64 0] ++ rep 48 (.int .u8 0)) [(0, 1, (K (.int .u8 67))), (1, 1, (X 90)), (2, 1, (X 92))]),
  o 94 (sCall E 30 [(X 85), (X 89), (X 93)]),
  o 21 (sMov (X 94))])
 (.seq (.reg [o 95 (sMov (X 21)),
  o 96 (sBin .neq .none (X 95) (K (.int .i64 0)))])
 (.ite (X 96)
 (.seq (.reg [o 97 (sMov (X 21)),
  o 12 (sMov (K (.int .i64 0))),
  o 13 (sMov (X 97))])
 (.ret))
 (.skip))))
 (.seq (.seq (.reg [o 98 (sMov (X 0)),
  o 99 (sCall E 31 [(X 98), (K (.int .i64 0))]),
  o 22 (sMov (X 99))])
 (.seq (.reg [o 100 (sMov (X 22)),
  o 101 (sBin .neq .none (X 100) (K (.int .i64 0)))])
 (.ite (X 101)
 (.seq (.reg [o 102 (sMov (X 22)),
  o 12 (sMov (K (.int .i64 0))),
  o 13 (sMov (X 102))])
 (.ret))
 (.skip))))
 (.seq (.reg [o 103 (sMov (X 3)),
  o 104 (sMov (X 5)),
  o 105 (sLenSl (X 104)),
  o 106 (sBin .add .none (X 103) (X 105)),
  o 107 (sBin .add .none (X 106) (K (.int .i64 1))),
  o 108 (sMov (X 2)),
  o 109 (sBin .rem .none (X 107) (X 108)),
  o 12 (sMov (X 109)),
  o 13 (sMov (K (.int .i64 0)))])
 (.ret)))))))))
theorem c9 (args : T) (h : AHeap) : (envL prog).call 9 args h = trim h (fin [.tmp 12, .tmp 13] (runC (envL prog) (b9 (envL prog)) (args ++ List.replicate (110 - args.length) .undef) h)) :=
 call_tr (fn := Go.Proofs.Try.f9) tab9 (by kernel_rfl) (by rfl) (by kernel_rfl) (fun t h => by kernel_rfl) rfl args h
def tab10 : Nat → Cert := fun i => ⟨0, 0, 0, 0, 0, 0⟩
noncomputable def l10x0 (E : Env) : CT :=
 .seq (.seq (.reg [o 9 (sMov (X 6)),
  o 10 (sBin .lss .none (X 9) (K (.int .i64 48)))])
 (.ite (X 10)
 (.skip)
 (.exit 0)))
 (.seq (.block 1 (.reg [o 13 (sMov (X 6)),
  o 14 (sMov (X 1)),
  o 15 (sFieldAddr 1 (X 5)),
  o 16 (sIdxAddrA 48 1 (X 15) (X 13)),
  u (sStore 1 (X 16) (X 14))]))
 (.reg [o 11 (sMov (X 6)),
  o 12 (sBin .add .none (X 11) (K (.int .i64 1))),
  o 6 (sMov (X 12))]))
noncomputable def b10 (E : Env) : CT :=
 .seq (.reg [o 4 (sAlloc ([.int .i64 0] ++ rep 48 (.int .u8 0)))])
 (.seq (.reg [o 7 (sMov (X 0)),
  o 8 (sBuild ([.int .i64 0] ++ rep 48 (.int .u8 0)) [(0, 1, (X 7))]),
  o 5 (sAlloc ([.int .i64 0] ++ rep 48 (.int .u8 0))),
  u (sStore 49 (X 5) (X 8))])
 (.seq (.seq (.reg [o 6 (sMov (K (.int .i64 0)))])
 (.block 0 (.loop (l10x0 E))))
 (.seq (.reg [o 17 (sLoad 49 true (X 5)),
  u (sStore 49 (X 4) (X 17))])
 (.ret))))
theorem c10 (args : T) (h : AHeap) : (envL prog).call 10 args h = trim h (fin [.cell 4 49 true] (runC (envL prog) (b10 (envL prog)) (args ++ List.replicate (18 - args.length) .undef) h)) :=
 call_tr (fn := Go.Proofs.Try.f10) tab10 (by kernel_rfl) (by rfl) (by kernel_rfl) (fun t h => by kernel_rfl) rfl args h
def tab11 : Nat → Cert := fun i => ⟨0, 0, 0, 0, 0, 0⟩
noncomputable def l11x0 (E : Env) : CT :=
 .seq (.reg [o 17 (sBin .lss .none (X 16) (K (.int .i64 2)))])
 (.seq (.ite (X 17)
 (.skip)
 (.exit 0))
 (.seq (.block 1 (.seq (.reg [o 18 (sMov (X 16)),
  o 19 (sIdxA 2 1 false (X 15) (X 16)),
  o 7 (sMov (X 18)),
  o 8 (sMov (X 19))])
 (.seq (.reg [o 21 (sMov (X 8)),
  o 22 (sCall E 32 [(X 21)]),
  o 20 (sMov (X 22)),
  o 23 (sExtract (X 20) 0),
  o 24 (sExtract (X 20) 1),
  o 9 (sMov (X 23)),
  o 10 (sMov (X 24))])
 (.seq (.seq (.reg [o 25 (sMov (X 10)),
  o 26 (sBin .neq .none (X 25) (K (.int .i64 0)))])
 (.ite (X 26)
 (.seq (.reg [o 27 (sMov (X 10)),
  o 4 (sMov (K (.nilPtr))),
  o 5 (sMov (X 27))])
 (.ret))
 (.skip)))
 (.reg [o 28 (sMov (X 6)),
  o 29 (sMov (X 7)),
  o 30 (sMov (X 9)),
  o 31 (sNil (X 28)),
  o 32 (sFieldAddr 0 (X 31)),
  o 33 (sIdxAddrA 2 1 (X 32) (X 29)),
  u (sStore 1 (X 33) (X 30))])))))
 (.reg [o 34 (sBin .add .none (X 16) (K (.int .i64 1))),
  o 16 (sMov (X 34))])))
noncomputable def b11 (E : Env) : CT :=
 .seq (.reg [o 4 (sMov (K (.nilPtr))),
  o 5 (sMov (K (.int .i64 0)))])
 (.seq (.reg [o 11 (sBuild [.nilPtr, .nilPtr, .int .i64 0, .bool false, .int .i64 0] [(2, 1, (K (.int .i64 (-1))))]),
  o 12 (sBox (X 11)),
  o 6 (sMov (X 12))])
 (.seq (.seq (.reg [o 13 (sMov (X 0)),
  o 14 (sMov (X 1)),
  o 15 (sBuild [.int .i64 0, .int .i64 0] [(0, 1, (X 13)), (1, 1, (X 14))]),
  o 16 (sMov (K (.int .i64 0)))])
 (.block 0 (.loop (l11x0 E))))
 (.seq (.reg [o 35 (sMov (X 6)),
  o 4 (sMov (X 35)),
  o 5 (sMov (K (.int .i64 0)))])
 (.ret))))
theorem c11 (args : T) (h : AHeap) : (envL prog).call 11 args h = trim h (fin [.tmp 4, .tmp 5] (runC (envL prog) (b11 (envL prog)) (args ++ List.replicate (36 - args.length) .undef) h)) :=
 call_tr (fn := Go.Proofs.Try.f11) tab11 (by kernel_rfl) (by rfl) (by kernel_rfl) (fun t h => by kernel_rfl) rfl args h
def tab13 : Nat → Cert := fun i => ⟨0, 0, 0, 0, 0, 0⟩
noncomputable def l13x0 (E : Env) : CT :=
 .seq (.seq (.reg [o 6 (sMov (X 5)),
  o 7 (sMov (X 0)),
  o 8 (sLenSl (X 7)),
  o 9 (sBin .lss .none (X 6) (X 8))])
 (.ite (X 9)
 (.skip)
 (.exit 0)))
 (.seq (.block 1 (.seq (.reg [o 12 (sMov (X 0)),
  o 13 (sMov (X 5)),
  o 14 (sIdxAddrS 2 (X 12) (X 13)),
  o 15 (sIdxAddrA 2 1 (X 14) (K (.int .i64 0))),
  o 16 (sLoad 1 false (X 15)),
  o 17 (sBin .lss .none (X 16) (K (.int .i64 0))),
  o 18 (sMov (X 17)),
  og 18 false 19 (sMov (X 0)),
  og 18 false 20 (sMov (X 5)),
  og 18 false 21 (sIdxAddrS 2 (X 19) (X 20)),
  og 18 false 22 (sIdxAddrA 2 1 (X 21) (K (.int .i64 0))),
  og 18 false 23 (sLoad 1 false (X 22)),
  og 18 false 24 (sBin .gtr .none (X 23) (K (.int .i64 65535))),
  o 25 (sPick (X 18) (K (.bool true)) (X 24))])
 (.ite (X 25)
 (.seq (.reg [o 4 (sMov (K (.bool false)))])
 (.ret))
 (.skip))))
 (.reg [o 10 (sMov (X 5)),
  o 11 (sBin .add .none (X 10) (K (.int .i64 1))),
  o 5 (sMov (X 11))]))
noncomputable def b13 (E : Env) : CT :=
 .seq (.reg [o 4 (sMov (K (.bool false)))])
 (.seq (.seq (.reg [o 5 (sMov (K (.int .i64 0)))])
 (.block 0 (.loop (l13x0 E))))
 (.seq (.reg [o 26 (sMov (X 0)),
  o 27 (sLenSl (X 26)),
  o 28 (sBin .geq .none (X 27) (K (.int .i64 1))),
  o 29 (sMov (X 28)),
  og 29 true 30 (sMov (X 0)),
  og 29 true 31 (sLenSl (X 30)),
  og 29 true 32 (sMov (X 1)),
  og 29 true 33 (sBin .leq .none (X 31) (X 32)),
  o 34 (sPick (X 29) (X 33) (K (.bool false))),
  o 4 (sMov (X 34))])
 (.ret)))
theorem c13 (args : T) (h : AHeap) : (envL prog).call 13 args h = trim h (fin [.tmp 4] (runC (envL prog) (b13 (envL prog)) (args ++ List.replicate (35 - args.length) .undef) h)) :=
 call_tr (fn := Go.Proofs.Try.f13) tab13 (by kernel_rfl) (by rfl) (by kernel_rfl) (fun t h => by kernel_rfl) rfl args h
def tab14 : Nat → Cert := fun i => bif Nat.beq i 6 then ⟨14, 26, 50210683924680097807505143525664706291779201309630114299904, 50210683947676581673795836056041029200499467758053137317888, 18788412334022417631368013541684457726328543619869426575845824943787756479078848170586425128493626132313145345, 66749598105129523055293959821920039509527030732593109364597154293123239645268581604091926413327⟩ else bif Nat.beq i 7 then ⟨14, 38, 50211455784799505812712409306415519660942895852199501365248, 50212216069073028405942548852003447555403350727914720067584, 7029552803973844244095123774527830164658304840060254688881500662287439962546942873154830311874177371462084737197401121068782855367063122009605685289472673972240, 306880369491193653880860633907348212265028584033732577412464913808326313253136531284896768531135167214835155408608561991831910078446386747276825460763⟩ else ⟨0, 0, 0, 0, 0, 0⟩
noncomputable def l14x0 (E : Env) : CT :=
 .seq (.seq (.reg [o 8 (sMov (X 6)),
  o 9 (sMov (X 0)),
  o 10 (sLenSl (X 9)),
  o 11 (sBin .lss .none (X 8) (X 10))])
 (.ite (X 11)
 (.skip)
 (.exit 0)))
 (.seq (.block 1 (.seq (.drw [.op (o 14 (sMov (X 0))),
  .op (o 15 (sMov (X 6))),
  .op (o 16 (sIdxAddrS 2 (X 14) (X 15))),
  .op (o 17 (sIdxAddrA 2 1 (X 16) (K (.int .i64 0)))),
  .op (o 18 (sLoad 1 false (X 17))),
  .op (o 19 (sMov (X 0))),
  .op (o 20 (sMov (X 6))),
  .op (o 21 (sIdxAddrS 2 (X 19) (X 20))),
  .op (o 22 (sIdxAddrA 2 1 (X 21) (K (.int .i64 1)))),
  .op (o 23 (sLoad 1 false (X 22))),
  .op (o 24 (sConv (.int .u8) (X 23))),
  .op (o 7 (sAlloc ([.int .i64 0] ++ rep 48 (.int .u8 0)))),
  .hv 2047 (o 25 (sCall E 10 [(X 18), (X 24)])),
  .hv 8191 (u (sStore 49 (X 7) (X 25)))])
 (.drw [.op (o 26 (sMov (X 4))),
  .op (o 27 (sLoad 49 true (X 7))),
  .op (o 28 (sBuildSl 49 1 ([.int .i64 0] ++ rep 48 (.int .u8 0)) [(0, 49, (X 27))])),
  .op (o 30 (sMov (X 5))),
  .op (o 31 (sFieldAddr 0 (X 7))),
  .rd 6 (o 32 (sLoad 1 false (X 31))),
  .op (o 33 (sFieldAddr 1 (X 7))),
  .rd 8 (o 34 (sLoad 48 true (X 33))),
  .op (o 35 (sBuild ([.int .i64 0] ++ rep 48 (.int .u8 0)) [(0, 1, (X 32)), (1, 48, (X 34))])),
  .op (o 36 (sBuildSl 49 1 ([.int .i64 0] ++ rep 48 (.int .u8 0)) [(0, 49, (X 35))])),
  .hv 7 (o 29 (sApp (ty 49 true 56 ([.int .i64 0] ++ rep 48 (.int .u8 0))) (X 26) (X 28))),
  .hv 2047 (o 37 (sApp (ty 49 true 56 ([.int .i64 0] ++ rep 48 (.int .u8 0))) (X 30) (X 36))),
  .op (o 4 (sMov (X 29))),
  .op (o 5 (sMov (X 37)))])))
 (.reg [o 12 (sMov (X 6)),
  o 13 (sBin .add .none (X 12) (K (.int .i64 1))),
  o 6 (sMov (X 13))]))
noncomputable def b14 (E : Env) : CT :=
 .seq (.reg [o 2 (sMov (K (.nilSl))),
  o 3 (sMov (K (.nilSl)))])
 (.seq (.reg [o 4 (sMov (K (.nilSl)))])
 (.seq (.reg [o 5 (sMov (K (.nilSl)))])
 (.seq (.seq (.reg [o 6 (sMov (K (.int .i64 0)))])
 (.block 0 (.loop (l14x0 E))))
 (.seq (.reg [o 38 (sMov (X 4)),
  o 39 (sMov (X 5)),
  o 2 (sMov (X 38)),
  o 3 (sMov (X 39))])
 (.ret)))))
theorem c14 (args : T) (h : AHeap) : (envL prog).call 14 args h = trim h (fin [.tmp 2, .tmp 3] (runC (envL prog) (b14 (envL prog)) (args ++ List.replicate (40 - args.length) .undef) h)) :=
 call_tr (fn := Go.Proofs.Try.f14) tab14 (by kernel_rfl) (by rfl) (by kernel_rfl) (fun t h => by kernel_rfl) rfl args h
def tab15 : Nat → Cert := fun i => ⟨0, 0, 0, 0, 0, 0⟩
noncomputable def b15 (E : Env) : CT :=
 .seq (.reg [o 6 (sAlloc (rep 64 (.int .u8 0))),
  o 7 (sMov (K (.int .i64 0)))])
 (.seq (.reg [o 9 (sMov (X 0)),
  o 10 (sMov (X 1)),
  o 11 (sCall E 33 [(X 9), (X 10)]),
  o 8 (sMov (X 11))])
 (.seq (.block 0 (.seq (.reg [o 13 (sMov (X 2)),
  o 14 (sBin .lss .none (X 13) (K (.int .i64 0))),
  o 15 (sMov (X 14)),
  og 15 false 16 (sMov (X 2)),
  og 15 false 17 (sMov (X 8)),
  og 15 false 18 (sCall E 34 [(X 17)]),
  og 15 false 19 (sBin .geq .none (X 16) (X 18)),
  o 20 (sPick (X 15) (K (.bool true)) (X 19)),
  o 12 (sMov (X 20))])
 (.ite (X 12)
 (.seq (.reg [o 21 (sBuild (rep 64 (.int .u8 0)) []),
  u (sStore 64 (X 6) (X 21)),
  o 7 (sMov (K (.int .i64 1)))])
 (.ret))
 (.seq (.reg [o 23 (sMov (X 0)),
  o 24 (sNil (X 23)),
  o 25 (sFieldAddr 3 (X 24)),
  o 26 (sLoad 1 false (X 25)),
  o 22 (sMov (X 26))])
 (.ite (X 22)
 (.seq (.reg [o 27 (sBuild (rep 64 (.int .u8 0)) []),
  u (sStore 64 (X 6) (X 27)),
  o 7 (sMov (K (.int .i64 14)))])
 (.ret))
 (.skip))))))
 (.seq (.reg [o 28 (sMov (X 8)),
  o 29 (sMov (X 2)),
  o 30 (sCall E 35 [(X 28), (X 29)]),
  o 31 (sExtract (X 30) 0),
  o 32 (sExtract (X 30) 1),
  u (sStore 64 (X 6) (X 31)),
  o 7 (sMov (X 32))])
 (.ret))))
theorem c15 (args : T) (h : AHeap) : (envL prog).call 15 args h = trim h (fin [.cell 6 64 true, .tmp 7] (runC (envL prog) (b15 (envL prog)) (args ++ List.replicate (33 - args.length) .undef) h)) :=
 call_tr (fn := Go.Proofs.Try.f15) tab15 (by kernel_rfl) (by rfl) (by kernel_rfl) (fun t h => by kernel_rfl) rfl args h
def tab16 : Nat → Cert := fun i => ⟨0, 0, 0, 0, 0, 0⟩
noncomputable def b16 (E : Env) : CT :=
 .seq (.reg [o 7 (sBox (X 3)),
  o 8 (sMov (K (.int .i64 0)))])
 (.seq (.reg [o 11 (sMov (X 0)),
  o 12 (sMov (X 1)),
  o 13 (sCall E 33 [(X 11), (X 12)]),
  o 9 (sMov (X 13))])
 (.seq (.seq (.reg [o 14 (sMov (X 2)),
  o 15 (sBin .lss .none (X 14) (K (.int .i64 0))),
  o 16 (sMov (X 15)),
  og 16 false 17 (sMov (X 2)),
  og 16 false 18 (sMov (X 9)),
  og 16 false 19 (sCall E 34 [(X 18)]),
  og 16 false 20 (sBin .geq .none (X 17) (X 19)),
  o 21 (sPick (X 16) (K (.bool true)) (X 20))])
 (.ite (X 21)
 (.seq (.reg [o 8 (sMov (K (.int .i64 1)))])
 (.ret))
 (.skip)))
 (.seq (.seq (.reg [o 22 (sMov (X 0)),
  o 23 (sCall E 36 [(X 22)]),
  o 10 (sMov (X 23))])
 (.seq (.reg [o 24 (sMov (X 10)),
  o 25 (sBin .neq .none (X 24) (K (.int .i64 0)))])
 (.ite (X 25)
 (.seq (.reg [o 26 (sMov (X 10)),
  o 8 (sMov (X 26))])
 (.ret))
 (.skip))))
 (.seq (.reg [o 27 (sMov (X 9)),
  o 28 (sMov (X 2)),
  o 29 (sLoad 64 true (X 7)),
  o 30 (sCall E 37 [(X 27), (X 28), (X 29)]),
  o 8 (sMov (X 30))])
 (.ret)))))
theorem c16 (args : T) (h : AHeap) : (envL prog).call 16 args h = trim h (fin [.tmp 8] (runC (envL prog) (b16 (envL prog)) (args ++ List.replicate (31 - args.length) .undef) h)) :=
 call_tr (fn := Go.Proofs.Try.f16) tab16 (by kernel_rfl) (by rfl) (by kernel_rfl) (fun t h => by kernel_rfl) rfl args h
def tab22 : Nat → Cert := fun i => ⟨0, 0, 0, 0, 0, 0⟩
noncomputable def aq22x0 (E : Env) : CT :=
 .seq (.reg [o 7 (sMov (X 14))])
 (.reg [o 8 (sMov (X 15))])
noncomputable def bq22x0 (E : Env) : CT :=
 .block 1 (.reg [o 16 (sMov (X 8)),
  o 17 (sMov (X 7)),
  o 18 (sIdxAddrA 2 1 (X 6) (X 17)),
  o 19 (sLoad 1 false (X 18)),
  o 20 (sCall E 44 [(X 16), (X 19)])])
noncomputable def kaq22x0 : Code := (nthRange Go.Proofs.Try.f22 0).1
noncomputable def kbq22x0 : Code := (nthRange Go.Proofs.Try.f22 0).2
theorem eaq22x0 (E : Env) (t : T) (h : AHeap) : evalCode prog E kaq22x0 t h = runC E (aq22x0 E) t h := code_tr tab22 (by kernel_rfl) t h
theorem ebq22x0 (E : Env) (t : T) (h : AHeap) : evalCode prog E kbq22x0 t h = runC E (bq22x0 E) t h := code_tr tab22 (by kernel_rfl) t h
noncomputable def b22 (E : Env) : CT :=
 .seq (.reg [o 9 (sMov (X 1)),
  o 10 (sMov (X 2)),
  o 11 (sBuild [.nilSl, .nilSl] [(0, 1, (X 9)), (1, 1, (X 10))]),
  o 6 (sAlloc [.nilSl, .nilSl]),
  u (sStore 2 (X 6) (X 11))])
 (.seq (.seq (.reg [o 12 (sMov (X 0)),
  o 13 (sCall E 43 [(X 12)])])
 (.block 0 (.range (X 13) [14, 15] kaq22x0 kbq22x0)))
 (.seq (.reg [o 21 (sMov (X 0)),
  o 22 (sBin .neq .ptr (X 21) (K (.nilPtr)))])
 (.ite (X 22)
 (.reg [o 23 (sMov (X 0)),
  o 24 (sMov (X 0)),
  o 25 (sNil (X 23)),
  o 26 (sFieldAddr 2 (X 25)),
  u (sStore 1 (X 26) (K (.int .i64 (-1)))),
  o 27 (sNil (X 24)),
  o 28 (sFieldAddr 3 (X 27)),
  u (sStore 1 (X 28) (K (.bool false)))])
 (.skip))))
theorem c22 (args : T) (h : AHeap) : (envL prog).call 22 args h = trim h (fin [] (runC (envL prog) (b22 (envL prog)) (args ++ List.replicate (29 - args.length) .undef) h)) :=
 call_tr (fn := Go.Proofs.Try.f22) tab22 (by kernel_rfl) (by rfl) (by kernel_rfl) (fun t h => by kernel_rfl) rfl args h
def tab27 : Nat → Cert := fun i => ⟨0, 0, 0, 0, 0, 0⟩
noncomputable def b27 (E : Env) : CT :=
 .seq (.reg [o 4 (sMov (X 0)),
  o 5 (sBin .neq .ptr (X 4) (K (.nilPtr)))])
 (.ite (X 5)
 (.reg [o 6 (sMov (X 0)),
  o 7 (sMov (X 1)),
  o 8 (sMax [(X 7), (K (.int .i64 (-1)))]),
  o 9 (sNil (X 6)),
  o 10 (sFieldAddr 2 (X 9)),
  u (sStore 1 (X 10) (X 8))])
 (.skip))
theorem c27 (args : T) (h : AHeap) : (envL prog).call 27 args h = trim h (fin [] (runC (envL prog) (b27 (envL prog)) (args ++ List.replicate (11 - args.length) .undef) h)) :=
 call_tr (fn := Go.Proofs.Try.f27) tab27 (by kernel_rfl) (by rfl) (by kernel_rfl) (fun t h => by kernel_rfl) rfl args h
def tab28 : Nat → Cert := fun i => bif Nat.beq i 1 then ⟨40, 44, 22231208238511954693791635505643642846788176773302414558142927572161239648442306429806238258918727072676467948374011643091230145167404957305942419263317378438217465457612556990215438502764753332334121462208251582096663950370723014770199954866319277049833867111415334019952325335472564313058304750442427130113213827124508715092881071964732212814508963663265691437166576338403443499175146070782308897252506306080589804578161814784775788455093948814600981343458621104796415110636634112, 22231208238516693560847921067604661342152092377178953204785134156938679379154374651950759311207697838879438268397437118795610396341732458636609160660181864753751687858092232808604533339055453557499704631901066801827036443489681180183061426634361918930424741276684970382754003902888464888754126922675457001618016020051441416335903948599821469894818889190250431086467268103740037353488844827943731538970212315588383225814825712366303727217454130167771398309777054584441650653775790080, 32490947240481712452659754842873392568580137419215020482718849810648155848839165426482457838096700363626807216190660538620735154343263341472156410085434851253754775968588335404655650808087553441453361154099318742067700089210277909696468647094767088692032689449232627159593612733983636773201177801216683605811799643831268151485621891763172906623328829094025940830163514855069167721830457235302771314430533511512257531479107696364299156545536472027794920895306367810169409702386935971116691798960638260522209776132036505488366501892, 18468965231759843833450395033743348617397710083311179021756473938840184870392491000366175954420911956666087354347902173734539226476028179805261343779673224225700536145817686768355151836742998731720514350085509787127125659780017864511037098758978834570995829688423416794744990991099837536230481492538356910325584831633486180348570277616632652634358320685501444668013731225926010567002047936260979642540200965716007998706034973620172322657589266479479500243321825120261592513082964130958599969345788728942627376672538630⟩ else ⟨0, 0, 0, 0, 0, 0⟩
noncomputable def b28 (E : Env) : CT :=
 .seq (.reg [o 2 (sBox (X 0)),
  o 4 (sMov (K (.bool false)))])
 (.seq (.drw [.op (o 5 (sFieldAddr 0 (X 2))),
  .op (o 6 (sLoad 1 false (X 5))),
  .op (o 7 (sBin .neq .ptr (X 6) (K (.nilPtr)))),
  .op (o 8 (sMov (X 7))),
  .op (og 8 true 9 (sFieldAddr 1 (X 2))),
  .op (og 8 true 10 (sLoad 1 false (X 9))),
  .op (og 8 true 11 (sBin .geq .none (X 10) (K (.int .i64 0)))),
  .op (o 12 (sPick (X 8) (X 11) (K (.bool false)))),
  .op (o 13 (sMov (X 12))),
  .op (og 13 true 14 (sFieldAddr 2 (X 2))),
  .op (og 13 true 15 (sLoad 1 false (X 14))),
  .op (og 13 true 16 (sBin .geq .none (X 15) (K (.int .i64 2)))),
  .op (o 17 (sPick (X 13) (X 16) (K (.bool false)))),
  .op (o 18 (sMov (X 17))),
  .op (og 18 true 19 (sFieldAddr 2 (X 2))),
  .op (og 18 true 20 (sLoad 1 false (X 19))),
  .op (og 18 true 21 (sBin .leq .none (X 20) (K (.int .i64 256)))),
  .op (o 22 (sPick (X 18) (X 21) (K (.bool false)))),
  .op (o 23 (sMov (X 22))),
  .op (og 23 true 24 (sFieldAddr 1 (X 2))),
  .rd 20 (og 23 true 25 (sLoad 1 false (X 24))),
  .op (og 23 true 26 (sFieldAddr 0 (X 2))),
  .op (og 23 true 27 (sLoad 1 false (X 26))),
  .op (og 23 true 29 (sFieldAddr 2 (X 2))),
  .rd 25 (og 23 true 30 (sLoad 1 false (X 29))),
  .hv 6815743 (og 23 true 28 (sCall E 49 [(X 27), (K (.int .i64 0))])),
  .op (og 23 true 31 (sBin .sub .none (X 28) (X 30))),
  .op (og 23 true 32 (sBin .leq .none (X 25) (X 31))),
  .op (o 33 (sPick (X 23) (X 32) (K (.bool false)))),
  .op (o 34 (sMov (X 33))),
  .op (og 34 true 35 (sMov (X 1))),
  .op (og 34 true 36 (sBin .geq .none (X 35) (K (.int .i64 0)))),
  .op (o 37 (sPick (X 34) (X 36) (K (.bool false)))),
  .op (o 38 (sMov (X 37))),
  .op (og 38 true 39 (sMov (X 1))),
  .op (og 38 true 40 (sFieldAddr 2 (X 2))),
  .op (og 38 true 41 (sLoad 1 false (X 40))),
  .op (og 38 true 42 (sBin .lss .none (X 39) (X 41))),
  .op (o 43 (sPick (X 38) (X 42) (K (.bool false)))),
  .op (o 4 (sMov (X 43)))])
 (.ret))
theorem c28 (args : T) (h : AHeap) : (envL prog).call 28 args h = trim h (fin [.tmp 4] (runC (envL prog) (b28 (envL prog)) (args ++ List.replicate (44 - args.length) .undef) h)) :=
 call_tr (fn := Go.Proofs.Try.f28) tab28 (by kernel_rfl) (by rfl) (by kernel_rfl) (fun t h => by kernel_rfl) rfl args h
def tab29 : Nat → Cert := fun i => ⟨0, 0, 0, 0, 0, 0⟩
noncomputable def l29x0 (E : Env) : CT :=
 .block 1 (.seq (.reg [o 12 (sLoad 3 true (X 3)),
  o 13 (sMov (X 1)),
  o 14 (sMov (X 8)),
  o 15 (sLenSl (X 14)),
  o 16 (sBin .add .none (X 13) (X 15)),
  o 17 (sCall E 50 [(X 12), (X 16)]),
  o 11 (sMov (X 17)),
  o 18 (sExtract (X 11) 0),
  o 19 (sExtract (X 11) 1),
  o 9 (sAlloc ([.int .u8 0, .int .u32 0, .int .i64 0] ++ rep 48 (.int .u8 0))),
  u (sStore 51 (X 9) (X 18)),
  o 10 (sMov (X 19))])
 (.block 2 (.seq (.reg [o 21 (sMov (X 10)),
  o 22 (sBin .neq .none (X 21) (K (.int .i64 0))),
  o 20 (sMov (X 22))])
 (.ite (X 20)
 (.seq (.reg [o 23 (sMov (X 10)),
  o 6 (sMov (K (.nilSl))),
  o 7 (sMov (X 23))])
 (.ret))
 (.seq (.reg [o 25 (sFieldAddr 1 (X 9)),
  o 26 (sLoad 1 false (X 25)),
  o 27 (sMov (X 2)),
  o 28 (sBin .neq .none (X 26) (X 27)),
  o 24 (sMov (X 28))])
 (.ite (X 24)
 (.exit 0)
 (.seq (.reg [o 30 (sFieldAddr 0 (X 9)),
  o 31 (sLoad 1 false (X 30)),
  o 32 (sBin .eql .none (X 31) (K (.int .u8 73))),
  o 33 (sMov (X 32)),
  og 33 true 34 (sMov (X 8)),
  og 33 true 35 (sLenSl (X 34)),
  og 33 true 36 (sFieldAddr 2 (X 3)),
  og 33 true 37 (sLoad 1 false (X 36)),
  og 33 true 38 (sBin .sub .none (X 37) (K (.int .i64 1))),
  og 33 true 39 (sBin .lss .none (X 35) (X 38)),
  o 40 (sPick (X 33) (X 39) (K (.bool false))),
  o 29 (sMov (X 40))])
 (.ite (X 29)
 (.reg [o 41 (sMov (X 8)),
  o 42 (sFieldAddr 2 (X 9)),
  o 43 (sLoad 1 false (X 42)),
  o 44 (sFieldAddr 3 (X 9)),
  o 45 (sLoad 48 true (X 44)),
  o 46 (sBuild ([.int .i64 0] ++ rep 48 (.int .u8 0)) [(0, 1, (X 43)), (1, 48, (X 45))]),
  o 47 (sBuildSl 49 1 ([.int .i64 0] ++ rep 48 (.int .u8 0)) [(0, 49, (X 46))]),
  o 48 (sApp (ty 49 true 56 ([.int .i64 0] ++ rep 48 (.int .u8 0))) (X 41) (X 47)),
  o 8 (sMov (X 48))])
 (.seq (.reg [o 50 (sLoad 51 true (X 9)),
  o 51 (sMov (X 2)),
  o 52 (sMov (X 8)),
  o 53 (sLenSl (X 52)),
  o 54 (sBuild ([.int .u8 0, .int .u32 0, .int .i64 0] ++ rep 48 (.int .u8 0)) [(0, 1, (K (.int .u8 67))), (1, 1, (X 51)), (2, 1, (X 53))]),
  o 55 (sBin .eql (.flat 51) (X 50) (X 54)),
  o 49 (sMov (X 55))])
 (.ite (X 49)
 (.seq (.reg [o 56 (sMov (X 8)),
  o 6 (sMov (X 56)),
  o 7 (sMov (K (.int .i64 0)))])
 (.ret))
 (.exit 0)))))))))))
noncomputable def b29 (E : Env) : CT :=
 .seq (.reg [o 3 (sBox (X 0)),
  o 6 (sMov (K (.nilSl))),
  o 7 (sMov (K (.int .i64 0)))])
 (.seq (.reg [o 8 (sMov (K (.nilSl)))])
 (.seq (.skip)
 (.seq (.block 0 (.loop (l29x0 E)))
 (.seq (.reg [o 6 (sMov (K (.nilSl))),
  o 7 (sMov (K (.int .i64 0)))])
 (.ret)))))
theorem c29 (args : T) (h : AHeap) : (envL prog).call 29 args h = trim h (fin [.tmp 6, .tmp 7] (runC (envL prog) (b29 (envL prog)) (args ++ List.replicate (57 - args.length) .undef) h)) :=
 call_tr (fn := Go.Proofs.Try.f29) tab29 (by kernel_rfl) (by rfl) (by kernel_rfl) (fun t h => by kernel_rfl) rfl args h
def tab30 : Nat → Cert := fun i => bif Nat.beq i 4 then ⟨8, 23, 9165388243191988480, 9169047417889227008, 12259965468725265036955487269614814821474832414154948616, 20461030936963860421145368252195227362813844389905⟩ else ⟨0, 0, 0, 0, 0, 0⟩
noncomputable def b30 (E : Env) : CT :=
 .seq (.reg [o 3 (sBox (X 0)),
  o 5 (sBox (X 2)),
  o 6 (sMov (K (.int .i64 0)))])
 (.seq (.reg [o 10 (sLoad 51 true (X 5)),
  o 11 (sCall E 51 [(X 10)]),
  o 9 (sMov (X 11)),
  o 12 (sExtract (X 9) 0),
  o 13 (sExtract (X 9) 1),
  o 7 (sAlloc (rep 64 (.int .u8 0))),
  u (sStore 64 (X 7) (X 12)),
  o 8 (sMov (X 13))])
 (.seq (.seq (.reg [o 14 (sMov (X 8)),
  o 15 (sBin .neq .none (X 14) (K (.int .i64 0)))])
 (.ite (X 15)
 (.seq (.reg [o 6 (sMov (K (.int .i64 1)))])
 (.ret))
 (.skip)))
 (.seq (.drw [.op (o 16 (sFieldAddr 0 (X 3))),
  .rd 1 (o 17 (sLoad 1 false (X 16))),
  .op (o 18 (sLoad 3 true (X 3))),
  .op (o 19 (sMov (X 1))),
  .rd 5 (o 21 (sLoad 64 true (X 7))),
  .hv 12 (o 20 (sCall E 52 [(X 18), (X 19)])),
  .hv 63 (o 22 (sCall E 16 [(X 17), (K (.int .i64 0)), (X 20), (X 21)])),
  .op (o 6 (sMov (X 22)))])
 (.ret))))
theorem c30 (args : T) (h : AHeap) : (envL prog).call 30 args h = trim h (fin [.tmp 6] (runC (envL prog) (b30 (envL prog)) (args ++ List.replicate (23 - args.length) .undef) h)) :=
 call_tr (fn := Go.Proofs.Try.f30) tab30 (by kernel_rfl) (by rfl) (by kernel_rfl) (fun t h => by kernel_rfl) rfl args h
def tab31 : Nat → Cert := fun i => ⟨0, 0, 0, 0, 0, 0⟩
noncomputable def b31 (E : Env) : CT :=
 .seq (.reg [o 4 (sMov (K (.int .i64 0)))])
 (.seq (.reg [o 7 (sMov (X 0)),
  o 8 (sMov (X 1)),
  o 9 (sCall E 33 [(X 7), (X 8)]),
  o 5 (sMov (X 9))])
 (.seq (.seq (.reg [o 10 (sMov (X 5)),
  o 11 (sBin .eql .ptr (X 10) (K (.nilPtr)))])
 (.ite (X 11)
 (.seq (.reg [o 4 (sMov (K (.int .i64 1)))])
 (.ret))
 (.skip)))
 (.seq (.seq (.reg [o 12 (sMov (X 0)),
  o 13 (sCall E 36 [(X 12)]),
  o 6 (sMov (X 13))])
 (.seq (.reg [o 14 (sMov (X 6)),
  o 15 (sBin .neq .none (X 14) (K (.int .i64 0)))])
 (.ite (X 15)
 (.seq (.reg [o 16 (sMov (X 6)),
  o 4 (sMov (X 16))])
 (.ret))
 (.skip))))
 (.seq (.reg [o 17 (sMov (X 5)),
  o 18 (sCall E 53 [(X 17)]),
  o 4 (sMov (X 18))])
 (.ret)))))
theorem c31 (args : T) (h : AHeap) : (envL prog).call 31 args h = trim h (fin [.tmp 4] (runC (envL prog) (b31 (envL prog)) (args ++ List.replicate (19 - args.length) .undef) h)) :=
 call_tr (fn := Go.Proofs.Try.f31) tab31 (by kernel_rfl) (by rfl) (by kernel_rfl) (fun t h => by kernel_rfl) rfl args h
def tab32 : Nat → Cert := fun i => ⟨0, 0, 0, 0, 0, 0⟩
noncomputable def b32 (E : Env) : CT :=
 .seq (.reg [o 2 (sMov (K (.nilPtr))),
  o 3 (sMov (K (.int .i64 0)))])
 (.seq (.seq (.reg [o 4 (sMov (X 0)),
  o 5 (sBin .lss .none (X 4) (K (.int .i64 1))),
  o 6 (sMov (X 5)),
  og 6 false 7 (sMov (X 0)),
  og 6 false 8 (sBin .gtr .none (X 7) (K (.int .i64 4096))),
  o 9 (sPick (X 6) (K (.bool true)) (X 8))])
 (.ite (X 9)
 (.seq (.reg [o 2 (sMov (K (.nilPtr))),
  o 3 (sMov (K (.int .i64 1)))])
 (.ret))
 (.skip)))
 (.seq (.reg [o 10 (sMov (X 0)),
  o 11 (sMake (ty 65 true 88 (rep 64 (.int .u8 0) ++ [.nilSl])) (X 10) (X 10)),
  o 12 (sBuild [.nilSl] [(0, 1, (X 11))]),
  o 13 (sBox (X 12)),
  o 2 (sMov (X 13)),
  o 3 (sMov (K (.int .i64 0)))])
 (.ret)))
theorem c32 (args : T) (h : AHeap) : (envL prog).call 32 args h = trim h (fin [.tmp 2, .tmp 3] (runC (envL prog) (b32 (envL prog)) (args ++ List.replicate (14 - args.length) .undef) h)) :=
 call_tr (fn := Go.Proofs.Try.f32) tab32 (by kernel_rfl) (by rfl) (by kernel_rfl) (fun t h => by kernel_rfl) rfl args h
def tab33 : Nat → Cert := fun i => ⟨0, 0, 0, 0, 0, 0⟩
noncomputable def aq33x0 (E : Env) : CT :=
 .seq (.reg [o 5 (sMov (X 9))])
 (.reg [o 6 (sMov (X 10))])
noncomputable def bq33x0 (E : Env) : CT :=
 .block 1 (.seq (.reg [o 11 (sMov (X 5)),
  o 12 (sLoad 1 false (X 3)),
  o 13 (sBin .eql .none (X 11) (X 12))])
 (.ite (X 13)
 (.seq (.reg [o 14 (sMov (X 6)),
  u (sStore 1 (X 4) (X 14))])
 (.ret))
 (.skip)))
noncomputable def kaq33x0 : Code := (nthRange Go.Proofs.Try.f33 0).1
noncomputable def kbq33x0 : Code := (nthRange Go.Proofs.Try.f33 0).2
theorem eaq33x0 (E : Env) (t : T) (h : AHeap) : evalCode prog E kaq33x0 t h = runC E (aq33x0 E) t h := code_tr tab33 (by kernel_rfl) t h
theorem ebq33x0 (E : Env) (t : T) (h : AHeap) : evalCode prog E kbq33x0 t h = runC E (bq33x0 E) t h := code_tr tab33 (by kernel_rfl) t h
noncomputable def b33 (E : Env) : CT :=
 .seq (.reg [o 3 (sBox (X 1)),
  o 4 (sAlloc [.nilPtr])])
 (.seq (.seq (.reg [o 7 (sMov (X 0)),
  o 8 (sCall E 43 [(X 7)])])
 (.block 0 (.range (X 8) [9, 10] kaq33x0 kbq33x0)))
 (.seq (.reg [u (sStore 1 (X 4) (K (.nilPtr)))])
 (.ret)))
theorem c33 (args : T) (h : AHeap) : (envL prog).call 33 args h = trim h (fin [.cell 4 1 false] (runC (envL prog) (b33 (envL prog)) (args ++ List.replicate (15 - args.length) .undef) h)) :=
 call_tr (fn := Go.Proofs.Try.f33) tab33 (by kernel_rfl) (by rfl) (by kernel_rfl) (fun t h => by kernel_rfl) rfl args h
def tab34 : Nat → Cert := fun i => ⟨0, 0, 0, 0, 0, 0⟩
noncomputable def b34 (E : Env) : CT :=
 .seq (.reg [o 2 (sMov (K (.int .i64 0)))])
 (.seq (.seq (.reg [o 3 (sMov (X 0)),
  o 4 (sBin .eql .ptr (X 3) (K (.nilPtr)))])
 (.ite (X 4)
 (.seq (.reg [o 2 (sMov (K (.int .i64 0)))])
 (.ret))
 (.skip)))
 (.seq (.reg [o 5 (sMov (X 0)),
  o 6 (sNil (X 5)),
  o 7 (sFieldAddr 0 (X 6)),
  o 8 (sLoad 1 false (X 7)),
  o 9 (sLenSl (X 8)),
  o 2 (sMov (X 9))])
 (.ret)))
theorem c34 (args : T) (h : AHeap) : (envL prog).call 34 args h = trim h (fin [.tmp 2] (runC (envL prog) (b34 (envL prog)) (args ++ List.replicate (10 - args.length) .undef) h)) :=
 call_tr (fn := Go.Proofs.Try.f34) tab34 (by kernel_rfl) (by rfl) (by kernel_rfl) (fun t h => by kernel_rfl) rfl args h
def tab35 : Nat → Cert := fun i => ⟨0, 0, 0, 0, 0, 0⟩
noncomputable def b35 (E : Env) : CT :=
 .seq (.reg [o 4 (sAlloc (rep 64 (.int .u8 0))),
  o 5 (sMov (K (.int .i64 0)))])
 (.seq (.reg [o 7 (sMov (X 0)),
  o 8 (sMov (X 1)),
  o 9 (sCall E 54 [(X 7), (X 8)]),
  o 6 (sMov (X 9))])
 (.seq (.seq (.reg [o 10 (sMov (X 6)),
  o 11 (sBin .eql .ptr (X 10) (K (.nilPtr)))])
 (.ite (X 11)
 (.seq (.reg [o 12 (sBuild (rep 64 (.int .u8 0)) []),
  u (sStore 64 (X 4) (X 12)),
  o 5 (sMov (K (.int .i64 1)))])
 (.ret))
 (.skip)))
 (.seq (.reg [o 13 (sMov (X 6)),
  o 14 (sCall E 55 [(X 13)]),
  u (sStore 64 (X 4) (X 14)),
  o 5 (sMov (K (.int .i64 0)))])
 (.ret))))
theorem c35 (args : T) (h : AHeap) : (envL prog).call 35 args h = trim h (fin [.cell 4 64 true, .tmp 5] (runC (envL prog) (b35 (envL prog)) (args ++ List.replicate (15 - args.length) .undef) h)) :=
 call_tr (fn := Go.Proofs.Try.f35) tab35 (by kernel_rfl) (by rfl) (by kernel_rfl) (fun t h => by kernel_rfl) rfl args h
def tab36 : Nat → Cert := fun i => ⟨0, 0, 0, 0, 0, 0⟩
noncomputable def b36 (E : Env) : CT :=
 .seq (.reg [o 2 (sMov (K (.int .i64 0)))])
 (.seq (.seq (.reg [o 3 (sMov (X 0)),
  o 4 (sNil (X 3)),
  o 5 (sFieldAddr 2 (X 4)),
  o 6 (sLoad 1 false (X 5)),
  o 7 (sBin .eql .none (X 6) (K (.int .i64 0)))])
 (.ite (X 7)
 (.reg [o 8 (sMov (X 0)),
  o 9 (sNil (X 8)),
  o 10 (sFieldAddr 3 (X 9)),
  u (sStore 1 (X 10) (K (.bool true)))])
 (.skip)))
 (.seq (.seq (.reg [o 11 (sMov (X 0)),
  o 12 (sNil (X 11)),
  o 13 (sFieldAddr 3 (X 12)),
  o 14 (sLoad 1 false (X 13))])
 (.ite (X 14)
 (.seq (.reg [o 2 (sMov (K (.int .i64 14)))])
 (.ret))
 (.skip)))
 (.seq (.seq (.reg [o 15 (sMov (X 0)),
  o 16 (sNil (X 15)),
  o 17 (sFieldAddr 2 (X 16)),
  o 18 (sLoad 1 false (X 17)),
  o 19 (sBin .gtr .none (X 18) (K (.int .i64 0)))])
 (.ite (X 19)
 (.reg [o 20 (sMov (X 0)),
  o 21 (sNil (X 20)),
  o 22 (sFieldAddr 2 (X 21)),
  o 23 (sLoad 1 false (X 22)),
  o 24 (sBin .sub .none (X 23) (K (.int .i64 1))),
  o 25 (sNil (X 20)),
  o 26 (sFieldAddr 2 (X 25)),
  u (sStore 1 (X 26) (X 24))])
 (.skip)))
 (.seq (.reg [o 27 (sMov (X 0)),
  o 28 (sNil (X 27)),
  o 29 (sFieldAddr 4 (X 28)),
  o 30 (sLoad 1 false (X 29)),
  o 31 (sBin .add .none (X 30) (K (.int .i64 1))),
  o 32 (sNil (X 27)),
  o 33 (sFieldAddr 4 (X 32)),
  u (sStore 1 (X 33) (X 31))])
 (.seq (.reg [o 2 (sMov (K (.int .i64 0)))])
 (.ret))))))
theorem c36 (args : T) (h : AHeap) : (envL prog).call 36 args h = trim h (fin [.tmp 2] (runC (envL prog) (b36 (envL prog)) (args ++ List.replicate (34 - args.length) .undef) h)) :=
 call_tr (fn := Go.Proofs.Try.f36) tab36 (by kernel_rfl) (by rfl) (by kernel_rfl) (fun t h => by kernel_rfl) rfl args h
def tab37 : Nat → Cert := fun i => bif Nat.beq i 4 then ⟨11, 23, 995946886283180634205326102042247168, 1328253885236360925894167555163029504, 9046257403024474642745891070367194849503528791528831247145346129545083748480, 4730826141736959139064151423576870844857888906453658510699790350⟩ else ⟨0, 0, 0, 0, 0, 0⟩
noncomputable def b37 (E : Env) : CT :=
 .seq (.reg [o 5 (sBox (X 2)),
  o 6 (sMov (K (.int .i64 0)))])
 (.seq (.reg [o 8 (sMov (X 0)),
  o 9 (sMov (X 1)),
  o 10 (sCall E 54 [(X 8), (X 9)]),
  o 7 (sMov (X 10))])
 (.seq (.seq (.reg [o 11 (sMov (X 7)),
  o 12 (sBin .eql .ptr (X 11) (K (.nilPtr)))])
 (.ite (X 12)
 (.seq (.reg [o 6 (sMov (K (.int .i64 1)))])
 (.ret))
 (.skip)))
 (.seq (.drw [.op (o 13 (sMov (X 7))),
  .op (o 14 (sMov (X 7))),
  .op (o 15 (sNil (X 14))),
  .op (o 16 (sFieldAddr 64 (X 15))),
  .op (o 17 (sLoad 1 false (X 16))),
  .op (o 18 (sLoad 64 true (X 5))),
  .op (o 19 (sBuildSl 64 1 (rep 64 (.int .u8 0)) [(0, 64, (X 18))])),
  .hv 126 (o 20 (sApp (ty 64 true 64 (rep 64 (.int .u8 0))) (X 17) (X 19))),
  .op (o 21 (sNil (X 13))),
  .op (o 22 (sFieldAddr 64 (X 21))),
  .hv 1023 (u (sStore 1 (X 22) (X 20)))])
 (.seq (.reg [o 6 (sMov (K (.int .i64 0)))])
 (.ret)))))
theorem c37 (args : T) (h : AHeap) : (envL prog).call 37 args h = trim h (fin [.tmp 6] (runC (envL prog) (b37 (envL prog)) (args ++ List.replicate (23 - args.length) .undef) h)) :=
 call_tr (fn := Go.Proofs.Try.f37) tab37 (by kernel_rfl) (by rfl) (by kernel_rfl) (fun t h => by kernel_rfl) rfl args h
def tab43 : Nat → Cert := fun i => ⟨0, 0, 0, 0, 0, 0⟩
noncomputable def b43 (E : Env) : CT :=
 .seq (.reg [o 1 (sBox (X 0)),
  o 2 (sMov (K (.nilFn)))])
 (.seq (.reg [o 3 (sFun 61 [(X 1)]),
  o 2 (sMov (X 3))])
 (.ret))
theorem c43 (args : T) (h : AHeap) : (envL prog).call 43 args h = trim h (fin [.tmp 2] (runC (envL prog) (b43 (envL prog)) (args ++ List.replicate (4 - args.length) .undef) h)) :=
 call_tr (fn := Go.Proofs.Try.f43) tab43 (by kernel_rfl) (by rfl) (by kernel_rfl) (fun t h => by kernel_rfl) rfl args h
def tab44 : Nat → Cert := fun i => bif Nat.beq i 5 then ⟨15, 27, 26958403959549888149344569025392404666591617643737292647416287232000, 26958403959549888150062485068446689780652572650192482284576362758144, 41316003051598356482886883493448511707212038774026870031769154374169712594675733412590313231018312710636208542748751429640, 32108981546607407300751618644398465448199415814395691204548850747716658886647120157906909070873166656569359⟩ else bif Nat.beq i 6 then ⟨16, 42, 32568512803470550645393573733809859160744000307194366821566735572094439915520, 57894719432808791170548164174149555654123880036824808451965444550301809901568, 9798364629532431727371310397152280956259830051646665248346911002130553142684651277069887421851185631079593245071208888103544659086898087434058495659370836742086673845205465351121406252158624020165558304, 191586861872849574526409803849566035996408737687059191989839270643305954303005315111254799628450083587106228976032587859035377870022762624278392373795345829949058750264695825209319422829789212⟩ else ⟨0, 0, 0, 0, 0, 0⟩
noncomputable def aq44x0 (E : Env) : CT :=
 .reg [o 5 (sMov (X 10))]
noncomputable def bq44x0 (E : Env) : CT :=
 .block 1 (.seq (.reg [o 6 (sMov (K (.int .i64 0)))])
 (.seq (.seq (.reg [o 11 (sLoad 1 false (X 3)),
  o 12 (sLenSl (X 11)),
  o 13 (sBin .gtr .none (X 12) (K (.int .i64 0)))])
 (.ite (X 13)
 (.drw [.op (o 14 (sLoad 1 false (X 3))),
  .op (o 15 (sIdxAddrS 1 (X 14) (K (.int .i64 0)))),
  .op (o 16 (sLoad 1 false (X 15))),
  .op (o 17 (sConv (.int .i64) (X 16))),
  .op (o 18 (sMov (X 5))),
  .op (o 19 (sNil (X 18))),
  .op (o 20 (sFieldAddr 64 (X 19))),
  .op (o 21 (sLoad 1 false (X 20))),
  .op (o 22 (sLenSl (X 21))),
  .op (o 23 (sBin .add .none (X 22) (K (.int .i64 1)))),
  .op (o 24 (sBin .rem .none (X 17) (X 23))),
  .op (o 25 (sLoad 1 false (X 3))),
  .op (o 26 (sSliceS 1 (X 25) (some (K (.int .i64 1))) none none)),
  .op (o 6 (sMov (X 24))),
  .hv 16383 (u (sStore 1 (X 3) (X 26)))])
 (.skip)))
 (.drw [.op (o 27 (sMov (X 5))),
  .op (o 28 (sMov (X 5))),
  .op (o 29 (sNil (X 28))),
  .op (o 30 (sFieldAddr 0 (X 29))),
  .op (o 31 (sLoad 64 true (X 30))),
  .op (o 32 (sBuildSl 64 1 (rep 64 (.int .u8 0)) [(0, 64, (X 31))])),
  .op (o 33 (sMov (X 5))),
  .op (o 34 (sNil (X 33))),
  .op (o 35 (sFieldAddr 64 (X 34))),
  .op (o 36 (sLoad 1 false (X 35))),
  .op (o 37 (sBuildSl 1 2 [.nilSl] [(0, 1, (X 32)), (1, 1, (X 36))])),
  .op (o 39 (sMov (X 6))),
  .hv 2046 (o 38 (sCall E 64 [(X 37)])),
  .op (o 40 (sIdxAddrS 64 (X 38) (X 39))),
  .op (o 41 (sLoad 64 true (X 40))),
  .hv 32767 (o 42 (sCall E 63 [(X 27), (X 41)]))])))
noncomputable def kaq44x0 : Code := (nthRange Go.Proofs.Try.f44 0).1
noncomputable def kbq44x0 : Code := (nthRange Go.Proofs.Try.f44 0).2
theorem eaq44x0 (E : Env) (t : T) (h : AHeap) : evalCode prog E kaq44x0 t h = runC E (aq44x0 E) t h := code_tr tab44 (by kernel_rfl) t h
theorem ebq44x0 (E : Env) (t : T) (h : AHeap) : evalCode prog E kbq44x0 t h = runC E (bq44x0 E) t h := code_tr tab44 (by kernel_rfl) t h
noncomputable def b44 (E : Env) : CT :=
 .seq (.reg [o 3 (sBox (X 1))])
 (.seq (.reg [o 7 (sMov (X 0)),
  o 8 (sCall E 62 [(X 7)])])
 (.block 0 (.range (X 8) [9, 10] kaq44x0 kbq44x0)))
theorem c44 (args : T) (h : AHeap) : (envL prog).call 44 args h = trim h (fin [] (runC (envL prog) (b44 (envL prog)) (args ++ List.replicate (43 - args.length) .undef) h)) :=
 call_tr (fn := Go.Proofs.Try.f44) tab44 (by kernel_rfl) (by rfl) (by kernel_rfl) (fun t h => by kernel_rfl) rfl args h
def tab49 : Nat → Cert := fun i => ⟨0, 0, 0, 0, 0, 0⟩
noncomputable def b49 (E : Env) : CT :=
 .seq (.reg [o 4 (sMov (K (.int .i64 0)))])
 (.seq (.reg [o 5 (sMov (X 0)),
  o 6 (sMov (X 1)),
  o 7 (sCall E 33 [(X 5), (X 6)]),
  o 8 (sCall E 34 [(X 7)]),
  o 4 (sMov (X 8))])
 (.ret))
theorem c49 (args : T) (h : AHeap) : (envL prog).call 49 args h = trim h (fin [.tmp 4] (runC (envL prog) (b49 (envL prog)) (args ++ List.replicate (9 - args.length) .undef) h)) :=
 call_tr (fn := Go.Proofs.Try.f49) tab49 (by kernel_rfl) (by rfl) (by kernel_rfl) (fun t h => by kernel_rfl) rfl args h
def tab50 : Nat → Cert := fun i => bif Nat.beq i 1 then ⟨12, 19, 11145947599272415426319051049023380488458240, 11145947599277408019301084222786500751790080, 215679779125708411280124299989734837695378353205502724816359087144964, 6582018229305776364563673202989529201893575392723175648128401420⟩ else ⟨0, 0, 0, 0, 0, 0⟩
noncomputable def b50 (E : Env) : CT :=
 .seq (.reg [o 2 (sBox (X 0)),
  o 4 (sAlloc ([.int .u8 0, .int .u32 0, .int .i64 0] ++ rep 48 (.int .u8 0))),
  o 5 (sMov (K (.int .i64 0)))])
 (.seq (.drw [.op (o 11 (sFieldAddr 0 (X 2))),
  .rd 1 (o 12 (sLoad 1 false (X 11))),
  .op (o 13 (sLoad 3 true (X 2))),
  .op (o 14 (sMov (X 1))),
  .op (o 6 (sAlloc (rep 64 (.int .u8 0)))),
  .hv 12 (o 15 (sCall E 52 [(X 13), (X 14)])),
  .hv 31 (o 16 (sCall E 15 [(X 12), (K (.int .i64 0)), (X 15)])),
  .op (o 10 (sMov (X 16))),
  .op (o 17 (sExtract (X 10) 0)),
  .op (o 18 (sExtract (X 10) 1)),
  .hv 767 (u (sStore 64 (X 6) (X 17))),
  .op (o 7 (sMov (X 18)))])
 (.seq (.seq (.reg [o 19 (sMov (X 7)),
  o 20 (sBin .neq .none (X 19) (K (.int .i64 0)))])
 (.ite (X 20)
 (.seq (.reg [o 21 (sBuild ([.int .u8 0, .int .u32 0, .int .i64 0] ++ rep 48 (.int .u8 0)) []),
  o 22 (sMov (X 7)),
  u (sStore 51 (X 4) (X 21)),
  o 5 (sMov (X 22))])
 (.ret))
 (.skip)))
 (.seq (.reg [o 24 (sLoad 64 true (X 6)),
  o 25 (sCall E 67 [(X 24)]),
  o 23 (sMov (X 25)),
  o 26 (sExtract (X 23) 0),
  o 27 (sExtract (X 23) 1),
  o 8 (sAlloc ([.int .u8 0, .int .u32 0, .int .i64 0] ++ rep 48 (.int .u8 0))),
  u (sStore 51 (X 8) (X 26)),
  o 9 (sMov (X 27))])
 (.seq (.reg [o 28 (sLoad 51 true (X 8)),
  u (sStore 51 (X 4) (X 28)),
  o 5 (sMov (K (.int .i64 0)))])
 (.ret)))))
theorem c50 (args : T) (h : AHeap) : (envL prog).call 50 args h = trim h (fin [.cell 4 51 true, .tmp 5] (runC (envL prog) (b50 (envL prog)) (args ++ List.replicate (29 - args.length) .undef) h)) :=
 call_tr (fn := Go.Proofs.Try.f50) tab50 (by kernel_rfl) (by rfl) (by kernel_rfl) (fun t h => by kernel_rfl) rfl args h
def tab51 : Nat → Cert := fun i => bif Nat.beq i 3 then ⟨16, 35, 57894526236596036054102216008482104483436123116371973785223273237020632219648, 57894719459769162069146520466190651187916787896686767623482984047170088402944, 1886981212438229866761805842837787843605093289383302725905796446503706605049098716136589006303471204711884953819759108618117852663610314803523557901609294702197105229826, 549183812922332245245040427627451736898204523672442558751659547132529489466239648189258142711064070404050468212255458578552232909754819908674597985809973903381⟩ else bif Nat.beq i 5 then ⟨7, 41, 145756166029312, 278110951964672, 128216146886929921927850503196036924230834827715905375395617552476794585257445855068192, 4749284910126405380633972412599523917002015105179543337250422380877188169764⟩ else ⟨0, 0, 0, 0, 0, 0⟩
noncomputable def b51 (E : Env) : CT :=
 .seq (.reg [o 1 (sBox (X 0)),
  o 2 (sAlloc (rep 64 (.int .u8 0))),
  o 3 (sMov (K (.int .i64 0)))])
 (.seq (.seq (.reg [o 6 (sFieldAddr 0 (X 1)),
  o 7 (sLoad 1 false (X 6)),
  o 8 (sBin .eql .none (X 7) (K (.int .u8 0))),
  o 9 (sMov (X 8)),
  og 9 false 10 (sFieldAddr 2 (X 1)),
  og 9 false 11 (sLoad 1 false (X 10)),
  og 9 false 12 (sBin .lss .none (X 11) (K (.int .i64 0))),
  o 13 (sPick (X 9) (K (.bool true)) (X 12)),
  o 14 (sMov (X 13)),
  og 14 false 15 (sFieldAddr 2 (X 1)),
  og 14 false 16 (sLoad 1 false (X 15)),
  og 14 false 17 (sBin .gtr .none (X 16) (K (.int .i64 65535))),
  o 18 (sPick (X 14) (K (.bool true)) (X 17))])
 (.ite (X 18)
 (.seq (.reg [o 19 (sBuild (rep 64 (.int .u8 0)) []),
  u (sStore 64 (X 2) (X 19)),
  o 3 (sMov (K (.int .i64 11)))])
 (.ret))
 (.skip)))
 (.seq (.drw [.op (o 20 (sFieldAddr 0 (X 1))),
  .rd 1 (o 21 (sLoad 1 false (X 20))),
  .op (o 22 (sBuildSl 1 1 [.int .u8 0] [(0, 1, (X 21))])),
  .op (o 23 (sFieldAddr 1 (X 1))),
  .op (o 24 (sLoad 1 false (X 23))),
  .op (o 25 (sConv (.int .u64) (X 24))),
  .op (o 27 (sFieldAddr 2 (X 1))),
  .rd 8 (o 28 (sLoad 1 false (X 27))),
  .rd 9 (o 29 (sConv (.int .u64) (X 28))),
  .op (o 31 (sFieldAddr 3 (X 1))),
  .rd 12 (o 32 (sSliceA 48 1 (X 31) none none none)),
  .hv 56 (o 26 (sCall E 69 [(X 25), (K (.int .i64 4))])),
  .hv 1016 (o 30 (sCall E 69 [(X 29), (K (.int .i64 2))])),
  .op (o 33 (sBuildSl 1 4 [.nilSl] [(0, 1, (X 22)), (1, 1, (X 26)), (2, 1, (X 30)), (3, 1, (X 32))])),
  .hv 16383 (o 34 (sCall E 68 [(X 33)])),
  .op (o 4 (sMov (X 34)))])
 (.seq (.reg [o 5 (sAlloc (rep 64 (.int .u8 0)))])
 (.seq (.drw [.rd 0 (o 35 (sSliceA 64 1 (X 5) none none none)),
  .op (o 36 (sMov (X 4))),
  .op (o 37 (sMov (X 4))),
  .hv 4 (o 38 (sCall E 70 [(X 37)])),
  .hv 12 (o 39 (sCall E 69 [(X 38), (K (.int .i64 8))])),
  .hv 30 (o 40 (sApp (ty 1 false 1 [.int .u8 0]) (X 36) (X 39))),
  .hv 63 (o 41 (sCopy (ty 1 false 1 [.int .u8 0]) (X 35) (X 40)))])
 (.seq (.reg [o 42 (sLoad 64 true (X 5)),
  u (sStore 64 (X 2) (X 42)),
  o 3 (sMov (K (.int .i64 0)))])
 (.ret))))))
theorem c51 (args : T) (h : AHeap) : (envL prog).call 51 args h = trim h (fin [.cell 2 64 true, .tmp 3] (runC (envL prog) (b51 (envL prog)) (args ++ List.replicate (43 - args.length) .undef) h)) :=
 call_tr (fn := Go.Proofs.Try.f51) tab51 (by kernel_rfl) (by rfl) (by kernel_rfl) (fun t h => by kernel_rfl) rfl args h
def tab52 : Nat → Cert := fun i => bif Nat.beq i 1 then ⟨8, 12, 9160906616617304320, 9169078187034935552, 39619219929807351788096061444, 96770746651916688771018758⟩ else ⟨0, 0, 0, 0, 0, 0⟩
noncomputable def b52 (E : Env) : CT :=
 .seq (.reg [o 2 (sBox (X 0)),
  o 4 (sMov (K (.int .i64 0)))])
 (.seq (.drw [.op (o 5 (sFieldAddr 1 (X 2))),
  .op (o 6 (sLoad 1 false (X 5))),
  .op (o 7 (sMov (X 1))),
  .op (o 8 (sFieldAddr 2 (X 2))),
  .op (o 9 (sLoad 1 false (X 8))),
  .op (o 10 (sBin .rem .none (X 7) (X 9))),
  .op (o 11 (sBin .add .none (X 6) (X 10))),
  .op (o 4 (sMov (X 11)))])
 (.ret))
theorem c52 (args : T) (h : AHeap) : (envL prog).call 52 args h = trim h (fin [.tmp 4] (runC (envL prog) (b52 (envL prog)) (args ++ List.replicate (12 - args.length) .undef) h)) :=
 call_tr (fn := Go.Proofs.Try.f52) tab52 (by kernel_rfl) (by rfl) (by kernel_rfl) (fun t h => by kernel_rfl) rfl args h
def tab53 : Nat → Cert := fun i => ⟨0, 0, 0, 0, 0, 0⟩
noncomputable def aq53x0 (E : Env) : CT :=
 .reg [o 4 (sMov (X 10))]
noncomputable def bq53x0 (E : Env) : CT :=
 .block 1 (.reg [o 11 (sMov (X 4)),
  o 12 (sMov (X 4)),
  o 13 (sCall E 55 [(X 12)]),
  o 14 (sCall E 63 [(X 11), (X 13)])])
noncomputable def kaq53x0 : Code := (nthRange Go.Proofs.Try.f53 0).1
noncomputable def kbq53x0 : Code := (nthRange Go.Proofs.Try.f53 0).2
theorem eaq53x0 (E : Env) (t : T) (h : AHeap) : evalCode prog E kaq53x0 t h = runC E (aq53x0 E) t h := code_tr tab53 (by kernel_rfl) t h
theorem ebq53x0 (E : Env) (t : T) (h : AHeap) : evalCode prog E kbq53x0 t h = runC E (bq53x0 E) t h := code_tr tab53 (by kernel_rfl) t h
noncomputable def b53 (E : Env) : CT :=
 .seq (.reg [o 2 (sMov (K (.int .i64 0)))])
 (.seq (.seq (.reg [o 5 (sMov (X 0)),
  o 6 (sBin .eql .ptr (X 5) (K (.nilPtr)))])
 (.ite (X 6)
 (.seq (.reg [o 2 (sMov (K (.int .i64 1)))])
 (.ret))
 (.skip)))
 (.seq (.seq (.reg [o 7 (sMov (X 0)),
  o 8 (sCall E 62 [(X 7)])])
 (.block 0 (.range (X 8) [9, 10] kaq53x0 kbq53x0)))
 (.seq (.reg [o 2 (sMov (K (.int .i64 0)))])
 (.ret))))
theorem c53 (args : T) (h : AHeap) : (envL prog).call 53 args h = trim h (fin [.tmp 2] (runC (envL prog) (b53 (envL prog)) (args ++ List.replicate (15 - args.length) .undef) h)) :=
 call_tr (fn := Go.Proofs.Try.f53) tab53 (by kernel_rfl) (by rfl) (by kernel_rfl) (fun t h => by kernel_rfl) rfl args h
def tab54 : Nat → Cert := fun i => ⟨0, 0, 0, 0, 0, 0⟩
noncomputable def b54 (E : Env) : CT :=
 .seq (.reg [o 4 (sMov (K (.nilPtr)))])
 (.seq (.seq (.reg [o 5 (sMov (X 1)),
  o 6 (sBin .lss .none (X 5) (K (.int .i64 0))),
  o 7 (sMov (X 6)),
  og 7 false 8 (sMov (X 1)),
  og 7 false 9 (sMov (X 0)),
  og 7 false 10 (sCall E 34 [(X 9)]),
  og 7 false 11 (sBin .geq .none (X 8) (X 10)),
  o 12 (sPick (X 7) (K (.bool true)) (X 11))])
 (.ite (X 12)
 (.seq (.reg [o 4 (sMov (K (.nilPtr)))])
 (.ret))
 (.skip)))
 (.seq (.reg [o 13 (sMov (X 0)),
  o 14 (sNil (X 13)),
  o 15 (sFieldAddr 0 (X 14)),
  o 16 (sLoad 1 false (X 15)),
  o 17 (sMov (X 1)),
  o 18 (sIdxAddrS 65 (X 16) (X 17)),
  o 4 (sMov (X 18))])
 (.ret)))
theorem c54 (args : T) (h : AHeap) : (envL prog).call 54 args h = trim h (fin [.tmp 4] (runC (envL prog) (b54 (envL prog)) (args ++ List.replicate (19 - args.length) .undef) h)) :=
 call_tr (fn := Go.Proofs.Try.f54) tab54 (by kernel_rfl) (by rfl) (by kernel_rfl) (fun t h => by kernel_rfl) rfl args h
def tab55 : Nat → Cert := fun i => ⟨0, 0, 0, 0, 0, 0⟩
noncomputable def b55 (E : Env) : CT :=
 .seq (.reg [o 2 (sAlloc (rep 64 (.int .u8 0)))])
 (.seq (.seq (.reg [o 4 (sMov (X 0)),
  o 5 (sNil (X 4)),
  o 6 (sFieldAddr 64 (X 5)),
  o 7 (sLoad 1 false (X 6)),
  o 8 (sLenSl (X 7)),
  o 3 (sMov (X 8))])
 (.seq (.reg [o 9 (sMov (X 3)),
  o 10 (sBin .gtr .none (X 9) (K (.int .i64 0)))])
 (.ite (X 10)
 (.seq (.reg [o 11 (sMov (X 0)),
  o 12 (sNil (X 11)),
  o 13 (sFieldAddr 64 (X 12)),
  o 14 (sLoad 1 false (X 13)),
  o 15 (sMov (X 3)),
  o 16 (sBin .sub .none (X 15) (K (.int .i64 1))),
  o 17 (sIdxAddrS 64 (X 14) (X 16)),
  o 18 (sLoad 64 true (X 17)),
  u (sStore 64 (X 2) (X 18))])
 (.ret))
 (.skip))))
 (.seq (.reg [o 19 (sMov (X 0)),
  o 20 (sNil (X 19)),
  o 21 (sFieldAddr 0 (X 20)),
  o 22 (sLoad 64 true (X 21)),
  u (sStore 64 (X 2) (X 22))])
 (.ret)))
theorem c55 (args : T) (h : AHeap) : (envL prog).call 55 args h = trim h (fin [.cell 2 64 true] (runC (envL prog) (b55 (envL prog)) (args ++ List.replicate (23 - args.length) .undef) h)) :=
 call_tr (fn := Go.Proofs.Try.f55) tab55 (by kernel_rfl) (by rfl) (by kernel_rfl) (fun t h => by kernel_rfl) rfl args h
def tab61 : Nat → Cert := fun i => ⟨0, 0, 0, 0, 0, 0⟩
noncomputable def l61x0 (E : Env) : CT :=
 .seq (.reg [o 12 (sBin .lss .none (X 11) (K (.int .i64 2)))])
 (.seq (.ite (X 12)
 (.skip)
 (.exit 0))
 (.seq (.block 1 (.seq (.reg [o 13 (sMov (X 11)),
  o 14 (sIdxA 2 1 false (X 10) (X 11)),
  o 3 (sMov (X 13)),
  o 4 (sMov (X 14))])
 (.seq (.reg [o 15 (sMov (X 0)),
  o 16 (sMov (X 3)),
  o 17 (sMov (X 4)),
  o 18 (sCallV E (X 15) [(X 16), (X 17)]),
  o 19 (sUn .not (X 18))])
 (.ite (X 19)
 (.ret)
 (.skip)))))
 (.reg [o 20 (sBin .add .none (X 11) (K (.int .i64 1))),
  o 11 (sMov (X 20))])))
noncomputable def b61 (E : Env) : CT :=
 .seq (.seq (.reg [o 5 (sLoad 1 false (X 1)),
  o 6 (sBin .eql .ptr (X 5) (K (.nilPtr)))])
 (.ite (X 6)
 (.ret)
 (.skip)))
 (.seq (.reg [o 7 (sLoad 1 false (X 1)),
  o 8 (sNil (X 7)),
  o 9 (sFieldAddr 0 (X 8)),
  o 10 (sLoad 2 true (X 9)),
  o 11 (sMov (K (.int .i64 0)))])
 (.block 0 (.loop (l61x0 E))))
theorem c61 (args : T) (h : AHeap) : (envL prog).call 61 args h = trim h (fin [] (runC (envL prog) (b61 (envL prog)) (args ++ List.replicate (21 - args.length) .undef) h)) :=
 call_tr (fn := Go.Proofs.Try.f61) tab61 (by kernel_rfl) (by rfl) (by kernel_rfl) (fun t h => by kernel_rfl) rfl args h
def tab62 : Nat → Cert := fun i => ⟨0, 0, 0, 0, 0, 0⟩
noncomputable def b62 (E : Env) : CT :=
 .seq (.reg [o 1 (sBox (X 0)),
  o 2 (sMov (K (.nilFn)))])
 (.seq (.reg [o 3 (sFun 73 [(X 1)]),
  o 2 (sMov (X 3))])
 (.ret))
theorem c62 (args : T) (h : AHeap) : (envL prog).call 62 args h = trim h (fin [.tmp 2] (runC (envL prog) (b62 (envL prog)) (args ++ List.replicate (4 - args.length) .undef) h)) :=
 call_tr (fn := Go.Proofs.Try.f62) tab62 (by kernel_rfl) (by rfl) (by kernel_rfl) (fun t h => by kernel_rfl) rfl args h
def tab63 : Nat → Cert := fun i => ⟨0, 0, 0, 0, 0, 0⟩
noncomputable def b63 (E : Env) : CT :=
 .seq (.reg [o 3 (sBox (X 1))])
 (.reg [o 4 (sMov (X 0)),
  o 5 (sMov (X 0)),
  o 6 (sLoad 64 true (X 3)),
  o 7 (sNil (X 4)),
  o 8 (sFieldAddr 0 (X 7)),
  u (sStore 64 (X 8) (X 6)),
  o 9 (sNil (X 5)),
  o 10 (sFieldAddr 64 (X 9)),
  u (sStore 1 (X 10) (K (.nilSl)))])
theorem c63 (args : T) (h : AHeap) : (envL prog).call 63 args h = trim h (fin [] (runC (envL prog) (b63 (envL prog)) (args ++ List.replicate (11 - args.length) .undef) h)) :=
 call_tr (fn := Go.Proofs.Try.f63) tab63 (by kernel_rfl) (by rfl) (by kernel_rfl) (fun t h => by kernel_rfl) rfl args h
def tab64 : Nat → Cert := fun i => ⟨0, 0, 0, 0, 0, 0⟩
noncomputable def l64x0 (E : Env) : CT :=
 .seq (.reg [o 12 (sBin .lss .none (X 11) (X 10))])
 (.seq (.ite (X 12)
 (.skip)
 (.exit 0))
 (.seq (.block 1 (.seq (.reg [o 13 (sIdxAddrS 1 (X 9) (X 11)),
  o 14 (sLoad 1 false (X 13)),
  o 5 (sMov (X 14))])
 (.seq (.reg [o 15 (sMov (X 3)),
  o 16 (sMov (X 5)),
  o 17 (sLenSl (X 16)),
  o 18 (sBin .add .none (X 15) (X 17)),
  o 3 (sMov (X 18))])
 (.seq (.reg [o 19 (sMov (X 3)),
  o 20 (sBin .lss .none (X 19) (K (.int .i64 0)))])
 (.ite (X 20)
 (.reg [o 21 (sNone),
  u (sNone)])
 (.skip))))))
 (.reg [o 22 (sBin .add .none (X 11) (K (.int .i64 1))),
  o 11 (sMov (X 22))])))
noncomputable def l64x1 (E : Env) : CT :=
 .seq (.reg [o 28 (sBin .lss .none (X 27) (X 26))])
 (.seq (.ite (X 28)
 (.skip)
 (.exit 2))
 (.seq (.block 3 (.seq (.reg [o 29 (sIdxAddrS 1 (X 25) (X 27)),
  o 30 (sLoad 1 false (X 29)),
  o 8 (sMov (X 30))])
 (.reg [o 31 (sMov (X 6)),
  o 32 (sMov (X 8)),
  o 33 (sApp (ty 64 true 64 (rep 64 (.int .u8 0))) (X 31) (X 32)),
  o 6 (sMov (X 33))])))
 (.reg [o 34 (sBin .add .none (X 27) (K (.int .i64 1))),
  o 27 (sMov (X 34))])))
noncomputable def b64 (E : Env) : CT :=
 .seq (.reg [o 2 (sMov (K (.nilSl)))])
 (.seq (.reg [o 3 (sMov (K (.int .i64 0)))])
 (.seq (.seq (.reg [o 9 (sMov (X 0)),
  o 10 (sLenSl (X 9)),
  o 11 (sMov (K (.int .i64 0)))])
 (.block 0 (.loop (l64x0 E))))
 (.seq (.reg [o 23 (sMov (X 3)),
  o 24 (sCall E 74 [(K (.nilSl)), (X 23)]),
  o 6 (sMov (X 24))])
 (.seq (.seq (.reg [o 25 (sMov (X 0)),
  o 26 (sLenSl (X 25)),
  o 27 (sMov (K (.int .i64 0)))])
 (.block 2 (.loop (l64x1 E))))
 (.seq (.reg [o 35 (sMov (X 6)),
  o 2 (sMov (X 35))])
 (.ret))))))
theorem c64 (args : T) (h : AHeap) : (envL prog).call 64 args h = trim h (fin [.tmp 2] (runC (envL prog) (b64 (envL prog)) (args ++ List.replicate (36 - args.length) .undef) h)) :=
 call_tr (fn := Go.Proofs.Try.f64) tab64 (by kernel_rfl) (by rfl) (by kernel_rfl) (fun t h => by kernel_rfl) rfl args h
def tab67 : Nat → Cert := fun i => bif Nat.beq i 1 then ⟨11, 16, 1327929966764767957949164068790077440, 1327930000505283415631632568349100032, 47913869684615560679028485234377268077969995420663810, 111509170588409412811107876504659801854771208⟩ else bif Nat.beq i 2 then ⟨4, 19, 24592, 28688, 56668397795019858116624, 2882308984206786577⟩ else ⟨0, 0, 0, 0, 0, 0⟩
noncomputable def b67 (E : Env) : CT :=
 .seq (.reg [o 1 (sBox (X 0)),
  o 2 (sAlloc ([.int .u8 0, .int .u32 0, .int .i64 0] ++ rep 48 (.int .u8 0))),
  o 3 (sMov (K (.int .i64 0)))])
 (.seq (.drw [.op (o 7 (sIdxAddrA 64 1 (X 1) (K (.int .i64 0)))),
  .rd 1 (o 8 (sLoad 1 false (X 7))),
  .op (o 9 (sSliceA 64 1 (X 1) (some (K (.int .i64 1))) (some (K (.int .i64 5))) none)),
  .rd 5 (o 12 (sSliceA 64 1 (X 1) (some (K (.int .i64 5))) (some (K (.int .i64 7))) none)),
  .op (o 4 (sAlloc ([.int .u8 0, .int .u32 0, .int .i64 0] ++ rep 48 (.int .u8 0)))),
  .hv 4 (o 10 (sCall E 75 [(X 9)])),
  .rd 4 (o 11 (sConv (.int .u32) (X 10))),
  .hv 44 (o 13 (sCall E 75 [(X 12)])),
  .op (o 14 (sConv (.int .i64) (X 13))),
  .op (o 15 (sBuild ([.int .u8 0, .int .u32 0, .int .i64 0] ++ rep 48 (.int .u8 0)) [(0, 1, (X 8)), (1, 1, (X 11)), (2, 1, (X 14))])),
  .hv 1023 (u (sStore 51 (X 4) (X 15)))])
 (.seq (.drw [.op (o 16 (sFieldAddr 3 (X 4))),
  .op (o 17 (sSliceA 48 1 (X 16) none none none)),
  .op (o 18 (sSliceA 64 1 (X 1) (some (K (.int .i64 7))) (some (K (.int .i64 55))) none)),
  .hv 7 (o 19 (sCopy (ty 1 false 1 [.int .u8 0]) (X 17) (X 18)))])
 (.seq (.seq (.reg [o 21 (sLoad 51 true (X 4)),
  o 22 (sCall E 51 [(X 21)]),
  o 20 (sMov (X 22)),
  o 23 (sExtract (X 20) 0),
  o 24 (sExtract (X 20) 1),
  o 5 (sAlloc (rep 64 (.int .u8 0))),
  u (sStore 64 (X 5) (X 23)),
  o 6 (sMov (X 24))])
 (.seq (.reg [o 25 (sMov (X 6)),
  o 26 (sBin .neq .none (X 25) (K (.int .i64 0))),
  o 27 (sMov (X 26)),
  og 27 false 28 (sLoad 64 true (X 5)),
  og 27 false 29 (sLoad 64 true (X 1)),
  og 27 false 30 (sBin .neq (.flat 64) (X 28) (X 29)),
  o 31 (sPick (X 27) (K (.bool true)) (X 30))])
 (.ite (X 31)
 (.seq (.reg [o 32 (sBuild ([.int .u8 0, .int .u32 0, .int .i64 0] ++ rep 48 (.int .u8 0)) []),
  u (sStore 51 (X 2) (X 32)),
  o 3 (sMov (K (.int .i64 11)))])
 (.ret))
 (.skip))))
 (.seq (.reg [o 33 (sLoad 51 true (X 4)),
  u (sStore 51 (X 2) (X 33)),
  o 3 (sMov (K (.int .i64 0)))])
 (.ret)))))
theorem c67 (args : T) (h : AHeap) : (envL prog).call 67 args h = trim h (fin [.cell 2 51 true, .tmp 3] (runC (envL prog) (b67 (envL prog)) (args ++ List.replicate (34 - args.length) .undef) h)) :=
 call_tr (fn := Go.Proofs.Try.f67) tab67 (by kernel_rfl) (by rfl) (by kernel_rfl) (fun t h => by kernel_rfl) rfl args h
def tab68 : Nat → Cert := fun i => ⟨0, 0, 0, 0, 0, 0⟩
noncomputable def l68x0 (E : Env) : CT :=
 .seq (.reg [o 12 (sBin .lss .none (X 11) (X 10))])
 (.seq (.ite (X 12)
 (.skip)
 (.exit 0))
 (.seq (.block 1 (.seq (.reg [o 13 (sIdxAddrS 1 (X 9) (X 11)),
  o 14 (sLoad 1 false (X 13)),
  o 5 (sMov (X 14))])
 (.seq (.reg [o 15 (sMov (X 3)),
  o 16 (sMov (X 5)),
  o 17 (sLenSl (X 16)),
  o 18 (sBin .add .none (X 15) (X 17)),
  o 3 (sMov (X 18))])
 (.seq (.reg [o 19 (sMov (X 3)),
  o 20 (sBin .lss .none (X 19) (K (.int .i64 0)))])
 (.ite (X 20)
 (.reg [o 21 (sNone),
  u (sNone)])
 (.skip))))))
 (.reg [o 22 (sBin .add .none (X 11) (K (.int .i64 1))),
  o 11 (sMov (X 22))])))
noncomputable def l68x1 (E : Env) : CT :=
 .seq (.reg [o 28 (sBin .lss .none (X 27) (X 26))])
 (.seq (.ite (X 28)
 (.skip)
 (.exit 2))
 (.seq (.block 3 (.seq (.reg [o 29 (sIdxAddrS 1 (X 25) (X 27)),
  o 30 (sLoad 1 false (X 29)),
  o 8 (sMov (X 30))])
 (.reg [o 31 (sMov (X 6)),
  o 32 (sMov (X 8)),
  o 33 (sApp (ty 1 false 1 [.int .u8 0]) (X 31) (X 32)),
  o 6 (sMov (X 33))])))
 (.reg [o 34 (sBin .add .none (X 27) (K (.int .i64 1))),
  o 27 (sMov (X 34))])))
noncomputable def b68 (E : Env) : CT :=
 .seq (.reg [o 2 (sMov (K (.nilSl)))])
 (.seq (.reg [o 3 (sMov (K (.int .i64 0)))])
 (.seq (.seq (.reg [o 9 (sMov (X 0)),
  o 10 (sLenSl (X 9)),
  o 11 (sMov (K (.int .i64 0)))])
 (.block 0 (.loop (l68x0 E))))
 (.seq (.reg [o 23 (sMov (X 3)),
  o 24 (sCall E 76 [(K (.nilSl)), (X 23)]),
  o 6 (sMov (X 24))])
 (.seq (.seq (.reg [o 25 (sMov (X 0)),
  o 26 (sLenSl (X 25)),
  o 27 (sMov (K (.int .i64 0)))])
 (.block 2 (.loop (l68x1 E))))
 (.seq (.reg [o 35 (sMov (X 6)),
  o 2 (sMov (X 35))])
 (.ret))))))
theorem c68 (args : T) (h : AHeap) : (envL prog).call 68 args h = trim h (fin [.tmp 2] (runC (envL prog) (b68 (envL prog)) (args ++ List.replicate (36 - args.length) .undef) h)) :=
 call_tr (fn := Go.Proofs.Try.f68) tab68 (by kernel_rfl) (by rfl) (by kernel_rfl) (fun t h => by kernel_rfl) rfl args h
def tab69 : Nat → Cert := fun i => ⟨0, 0, 0, 0, 0, 0⟩
noncomputable def aq69x0 (E : Env) : CT :=
 .reg [o 6 (sMov (X 16))]
noncomputable def bq69x0 (E : Env) : CT :=
 .block 1 (.reg [o 17 (sLoad 1 false (X 5)),
  o 18 (sMov (X 6)),
  o 19 (sBuildSl 1 1 [.int .u8 0] [(0, 1, (X 18))]),
  o 20 (sApp (ty 1 false 1 [.int .u8 0]) (X 17) (X 19)),
  u (sStore 1 (X 5) (X 20))])
noncomputable def kaq69x0 : Code := (nthRange Go.Proofs.Try.f69 0).1
noncomputable def kbq69x0 : Code := (nthRange Go.Proofs.Try.f69 0).2
theorem eaq69x0 (E : Env) (t : T) (h : AHeap) : evalCode prog E kaq69x0 t h = runC E (aq69x0 E) t h := code_tr tab69 (by kernel_rfl) t h
theorem ebq69x0 (E : Env) (t : T) (h : AHeap) : evalCode prog E kbq69x0 t h = runC E (bq69x0 E) t h := code_tr tab69 (by kernel_rfl) t h
noncomputable def b69 (E : Env) : CT :=
 .seq (.reg [o 4 (sMov (K (.nilSl)))])
 (.seq (.seq (.reg [o 7 (sMov (X 1)),
  o 8 (sBin .lss .none (X 7) (K (.int .i64 1))),
  o 9 (sMov (X 8)),
  og 9 false 10 (sMov (X 1)),
  og 9 false 11 (sBin .gtr .none (X 10) (K (.int .i64 16))),
  o 12 (sPick (X 9) (K (.bool true)) (X 11))])
 (.ite (X 12)
 (.seq (.reg [o 4 (sMov (K (.nilSl)))])
 (.ret))
 (.skip)))
 (.seq (.reg [o 5 (sAlloc [.nilSl])])
 (.seq (.seq (.reg [o 13 (sMov (X 0)),
  o 14 (sMov (X 1)),
  o 15 (sCall E 77 [(X 13), (X 14)])])
 (.block 0 (.range (X 15) [16] kaq69x0 kbq69x0)))
 (.seq (.reg [o 21 (sLoad 1 false (X 5)),
  o 4 (sMov (X 21))])
 (.ret)))))
theorem c69 (args : T) (h : AHeap) : (envL prog).call 69 args h = trim h (fin [.tmp 4] (runC (envL prog) (b69 (envL prog)) (args ++ List.replicate (22 - args.length) .undef) h)) :=
 call_tr (fn := Go.Proofs.Try.f69) tab69 (by kernel_rfl) (by rfl) (by kernel_rfl) (fun t h => by kernel_rfl) rfl args h
def tab70 : Nat → Cert := fun i => ⟨0, 0, 0, 0, 0, 0⟩
noncomputable def b70 (E : Env) : CT :=
 .seq (.reg [o 2 (sMov (K (.int .u64 0)))])
 (.seq (.reg [o 3 (sMov (X 0)),
  o 4 (sCall E 78 [(K (.int .u64 14695981039346656037)), (X 3)]),
  o 2 (sMov (X 4))])
 (.ret))
theorem c70 (args : T) (h : AHeap) : (envL prog).call 70 args h = trim h (fin [.tmp 2] (runC (envL prog) (b70 (envL prog)) (args ++ List.replicate (5 - args.length) .undef) h)) :=
 call_tr (fn := Go.Proofs.Try.f70) tab70 (by kernel_rfl) (by rfl) (by kernel_rfl) (fun t h => by kernel_rfl) rfl args h
def tab73 : Nat → Cert := fun i => ⟨0, 0, 0, 0, 0, 0⟩
noncomputable def l73x0 (E : Env) : CT :=
 .seq (.reg [o 8 (sBin .lss .none (X 7) (X 6))])
 (.seq (.ite (X 8)
 (.skip)
 (.exit 0))
 (.seq (.block 1 (.seq (.reg [o 9 (sMov (X 7)),
  o 3 (sMov (X 9))])
 (.seq (.reg [o 10 (sLoad 1 false (X 1)),
  o 11 (sMov (X 3)),
  o 12 (sCall E 54 [(X 10), (X 11)]),
  o 4 (sMov (X 12))])
 (.seq (.reg [o 13 (sMov (X 4)),
  o 14 (sNil (X 13)),
  o 15 (sFieldAddr 64 (X 14)),
  o 16 (sLoad 1 false (X 15)),
  o 17 (sLenSl (X 16)),
  o 18 (sBin .gtr .none (X 17) (K (.int .i64 0))),
  o 19 (sMov (X 18)),
  og 19 true 20 (sMov (X 0)),
  og 19 true 21 (sMov (X 3)),
  og 19 true 22 (sMov (X 4)),
  og 19 true 23 (sCallV E (X 20) [(X 21), (X 22)]),
  og 19 true 24 (sUn .not (X 23)),
  o 25 (sPick (X 19) (X 24) (K (.bool false)))])
 (.ite (X 25)
 (.ret)
 (.skip))))))
 (.reg [o 26 (sBin .add .none (X 7) (K (.int .i64 1))),
  o 7 (sMov (X 26))])))
noncomputable def b73 (E : Env) : CT :=
 .seq (.reg [o 5 (sLoad 1 false (X 1)),
  o 6 (sCall E 34 [(X 5)]),
  o 7 (sMov (K (.int .i64 0)))])
 (.block 0 (.loop (l73x0 E)))
theorem c73 (args : T) (h : AHeap) : (envL prog).call 73 args h = trim h (fin [] (runC (envL prog) (b73 (envL prog)) (args ++ List.replicate (27 - args.length) .undef) h)) :=
 call_tr (fn := Go.Proofs.Try.f73) tab73 (by kernel_rfl) (by rfl) (by kernel_rfl) (fun t h => by kernel_rfl) rfl args h
def tab74 : Nat → Cert := fun i => ⟨0, 0, 0, 0, 0, 0⟩
noncomputable def b74 (E : Env) : CT :=
 .seq (.reg [o 4 (sMov (K (.nilSl)))])
 (.seq (.seq (.reg [o 5 (sMov (X 1)),
  o 6 (sBin .lss .none (X 5) (K (.int .i64 0)))])
 (.ite (X 6)
 (.reg [o 7 (sNone),
  u (sNone)])
 (.skip)))
 (.seq (.seq (.reg [o 8 (sMov (X 1)),
  o 9 (sMov (X 0)),
  o 10 (sCapSl (X 9)),
  o 11 (sMov (X 0)),
  o 12 (sLenSl (X 11)),
  o 13 (sBin .sub .none (X 10) (X 12)),
  o 14 (sBin .sub .none (X 8) (X 13)),
  o 1 (sMov (X 14))])
 (.seq (.reg [o 15 (sMov (X 1)),
  o 16 (sBin .gtr .none (X 15) (K (.int .i64 0)))])
 (.ite (X 16)
 (.reg [o 17 (sMov (X 0)),
  o 18 (sMov (X 0)),
  o 19 (sCapSl (X 18)),
  o 20 (sSliceS 64 (X 17) none (some (X 19)) none),
  o 21 (sMov (X 1)),
  o 22 (sAppN (ty 64 true 64 (rep 64 (.int .u8 0))) (X 20) (X 21)),
  o 23 (sMov (X 0)),
  o 24 (sLenSl (X 23)),
  o 25 (sSliceS 64 (X 22) none (some (X 24)) none),
  o 0 (sMov (X 25))])
 (.skip))))
 (.seq (.reg [o 26 (sMov (X 0)),
  o 4 (sMov (X 26))])
 (.ret))))
theorem c74 (args : T) (h : AHeap) : (envL prog).call 74 args h = trim h (fin [.tmp 4] (runC (envL prog) (b74 (envL prog)) (args ++ List.replicate (27 - args.length) .undef) h)) :=
 call_tr (fn := Go.Proofs.Try.f74) tab74 (by kernel_rfl) (by rfl) (by kernel_rfl) (fun t h => by kernel_rfl) rfl args h
def tab75 : Nat → Cert := fun i => ⟨0, 0, 0, 0, 0, 0⟩
noncomputable def l75x0 (E : Env) : CT :=
 .seq (.reg [o 13 (sBin .lss .none (X 12) (X 11))])
 (.seq (.ite (X 13)
 (.skip)
 (.exit 0))
 (.seq (.block 1 (.seq (.reg [o 14 (sMov (X 12)),
  o 15 (sIdxAddrS 1 (X 10) (X 12)),
  o 16 (sLoad 1 false (X 15)),
  o 4 (sMov (X 14)),
  o 5 (sMov (X 16))])
 (.reg [o 17 (sMov (X 3)),
  o 18 (sMov (X 5)),
  o 19 (sConv (.int .u64) (X 18)),
  o 20 (sMov (X 4)),
  o 21 (sBin .mul .none (K (.int .i64 8)) (X 20)),
  o 22 (sBin .shl .none (X 19) (X 21)),
  o 23 (sBin .or .none (X 17) (X 22)),
  o 3 (sMov (X 23))])))
 (.reg [o 24 (sBin .add .none (X 12) (K (.int .i64 1))),
  o 12 (sMov (X 24))])))
noncomputable def b75 (E : Env) : CT :=
 .seq (.reg [o 2 (sMov (K (.int .u64 0)))])
 (.seq (.reg [o 3 (sMov (K (.int .u64 0)))])
 (.seq (.seq (.reg [o 6 (sMov (X 0)),
  o 7 (sMov (X 0)),
  o 8 (sLenSl (X 7)),
  o 9 (sMin [(X 8), (K (.int .i64 8))]),
  o 10 (sSliceS 1 (X 6) none (some (X 9)) none),
  o 11 (sLenSl (X 10)),
  o 12 (sMov (K (.int .i64 0)))])
 (.block 0 (.loop (l75x0 E))))
 (.seq (.reg [o 25 (sMov (X 3)),
  o 2 (sMov (X 25))])
 (.ret))))
theorem c75 (args : T) (h : AHeap) : (envL prog).call 75 args h = trim h (fin [.tmp 2] (runC (envL prog) (b75 (envL prog)) (args ++ List.replicate (26 - args.length) .undef) h)) :=
 call_tr (fn := Go.Proofs.Try.f75) tab75 (by kernel_rfl) (by rfl) (by kernel_rfl) (fun t h => by kernel_rfl) rfl args h
def tab76 : Nat → Cert := fun i => ⟨0, 0, 0, 0, 0, 0⟩
noncomputable def b76 (E : Env) : CT :=
 .seq (.reg [o 4 (sMov (K (.nilSl)))])
 (.seq (.seq (.reg [o 5 (sMov (X 1)),
  o 6 (sBin .lss .none (X 5) (K (.int .i64 0)))])
 (.ite (X 6)
 (.reg [o 7 (sNone),
  u (sNone)])
 (.skip)))
 (.seq (.seq (.reg [o 8 (sMov (X 1)),
  o 9 (sMov (X 0)),
  o 10 (sCapSl (X 9)),
  o 11 (sMov (X 0)),
  o 12 (sLenSl (X 11)),
  o 13 (sBin .sub .none (X 10) (X 12)),
  o 14 (sBin .sub .none (X 8) (X 13)),
  o 1 (sMov (X 14))])
 (.seq (.reg [o 15 (sMov (X 1)),
  o 16 (sBin .gtr .none (X 15) (K (.int .i64 0)))])
 (.ite (X 16)
 (.reg [o 17 (sMov (X 0)),
  o 18 (sMov (X 0)),
  o 19 (sCapSl (X 18)),
  o 20 (sSliceS 1 (X 17) none (some (X 19)) none),
  o 21 (sMov (X 1)),
  o 22 (sAppN (ty 1 false 1 [.int .u8 0]) (X 20) (X 21)),
  o 23 (sMov (X 0)),
  o 24 (sLenSl (X 23)),
  o 25 (sSliceS 1 (X 22) none (some (X 24)) none),
  o 0 (sMov (X 25))])
 (.skip))))
 (.seq (.reg [o 26 (sMov (X 0)),
  o 4 (sMov (X 26))])
 (.ret))))
theorem c76 (args : T) (h : AHeap) : (envL prog).call 76 args h = trim h (fin [.tmp 4] (runC (envL prog) (b76 (envL prog)) (args ++ List.replicate (27 - args.length) .undef) h)) :=
 call_tr (fn := Go.Proofs.Try.f76) tab76 (by kernel_rfl) (by rfl) (by kernel_rfl) (fun t h => by kernel_rfl) rfl args h
def tab77 : Nat → Cert := fun i => ⟨0, 0, 0, 0, 0, 0⟩
noncomputable def b77 (E : Env) : CT :=
 .seq (.reg [o 2 (sBox (X 0)),
  o 3 (sBox (X 1)),
  o 4 (sMov (K (.nilFn)))])
 (.seq (.reg [o 5 (sFun 79 [(X 3), (X 2)]),
  o 4 (sMov (X 5))])
 (.ret))
theorem c77 (args : T) (h : AHeap) : (envL prog).call 77 args h = trim h (fin [.tmp 4] (runC (envL prog) (b77 (envL prog)) (args ++ List.replicate (6 - args.length) .undef) h)) :=
 call_tr (fn := Go.Proofs.Try.f77) tab77 (by kernel_rfl) (by rfl) (by kernel_rfl) (fun t h => by kernel_rfl) rfl args h
def tab78 : Nat → Cert := fun i => ⟨0, 0, 0, 0, 0, 0⟩
noncomputable def aq78x0 (E : Env) : CT :=
 .reg [o 5 (sMov (X 8))]
noncomputable def bq78x0 (E : Env) : CT :=
 .block 1 (.reg [o 9 (sLoad 1 false (X 2)),
  o 10 (sMov (X 5)),
  o 11 (sConv (.int .u64) (X 10)),
  o 12 (sBin .xor .none (X 9) (X 11)),
  o 13 (sBin .mul .none (X 12) (K (.int .u64 1099511628211))),
  u (sStore 1 (X 2) (X 13))])
noncomputable def kaq78x0 : Code := (nthRange Go.Proofs.Try.f78 0).1
noncomputable def kbq78x0 : Code := (nthRange Go.Proofs.Try.f78 0).2
theorem eaq78x0 (E : Env) (t : T) (h : AHeap) : evalCode prog E kaq78x0 t h = runC E (aq78x0 E) t h := code_tr tab78 (by kernel_rfl) t h
theorem ebq78x0 (E : Env) (t : T) (h : AHeap) : evalCode prog E kbq78x0 t h = runC E (bq78x0 E) t h := code_tr tab78 (by kernel_rfl) t h
noncomputable def b78 (E : Env) : CT :=
 .seq (.reg [o 2 (sBox (X 0)),
  o 4 (sMov (K (.int .u64 0)))])
 (.seq (.seq (.reg [o 6 (sMov (X 1)),
  o 7 (sCall E 80 [(X 6)])])
 (.block 0 (.range (X 7) [8] kaq78x0 kbq78x0)))
 (.seq (.reg [o 14 (sLoad 1 false (X 2)),
  o 4 (sMov (X 14))])
 (.ret)))
theorem c78 (args : T) (h : AHeap) : (envL prog).call 78 args h = trim h (fin [.tmp 4] (runC (envL prog) (b78 (envL prog)) (args ++ List.replicate (15 - args.length) .undef) h)) :=
 call_tr (fn := Go.Proofs.Try.f78) tab78 (by kernel_rfl) (by rfl) (by kernel_rfl) (fun t h => by kernel_rfl) rfl args h
def tab79 : Nat → Cert := fun i => ⟨0, 0, 0, 0, 0, 0⟩
noncomputable def l79x0 (E : Env) : CT :=
 .seq (.reg [o 6 (sBin .lss .none (X 5) (X 4))])
 (.seq (.ite (X 6)
 (.skip)
 (.exit 0))
 (.seq (.block 1 (.seq (.seq (.reg [o 7 (sMov (X 0)),
  o 8 (sLoad 1 false (X 2)),
  o 9 (sConv (.int .u8) (X 8)),
  o 10 (sCallV E (X 7) [(X 9)]),
  o 11 (sUn .not (X 10))])
 (.ite (X 11)
 (.ret)
 (.skip)))
 (.reg [o 12 (sLoad 1 false (X 2)),
  o 13 (sBin .shr .none (X 12) (K (.int .u64 8))),
  u (sStore 1 (X 2) (X 13))])))
 (.reg [o 14 (sBin .add .none (X 5) (K (.int .i64 1))),
  o 5 (sMov (X 14))])))
noncomputable def b79 (E : Env) : CT :=
 .seq (.reg [o 4 (sLoad 1 false (X 1)),
  o 5 (sMov (K (.int .i64 0)))])
 (.block 0 (.loop (l79x0 E)))
theorem c79 (args : T) (h : AHeap) : (envL prog).call 79 args h = trim h (fin [] (runC (envL prog) (b79 (envL prog)) (args ++ List.replicate (15 - args.length) .undef) h)) :=
 call_tr (fn := Go.Proofs.Try.f79) tab79 (by kernel_rfl) (by rfl) (by kernel_rfl) (fun t h => by kernel_rfl) rfl args h
def tab80 : Nat → Cert := fun i => ⟨0, 0, 0, 0, 0, 0⟩
noncomputable def b80 (E : Env) : CT :=
 .seq (.reg [o 1 (sBox (X 0)),
  o 2 (sMov (K (.nilFn)))])
 (.seq (.reg [o 3 (sFun 81 [(X 1)]),
  o 2 (sMov (X 3))])
 (.ret))
theorem c80 (args : T) (h : AHeap) : (envL prog).call 80 args h = trim h (fin [.tmp 2] (runC (envL prog) (b80 (envL prog)) (args ++ List.replicate (4 - args.length) .undef) h)) :=
 call_tr (fn := Go.Proofs.Try.f80) tab80 (by kernel_rfl) (by rfl) (by kernel_rfl) (fun t h => by kernel_rfl) rfl args h
def tab81 : Nat → Cert := fun i => ⟨0, 0, 0, 0, 0, 0⟩
noncomputable def l81x0 (E : Env) : CT :=
 .seq (.reg [o 8 (sBin .lss .none (X 7) (X 6))])
 (.seq (.ite (X 8)
 (.skip)
 (.exit 0))
 (.seq (.block 1 (.seq (.reg [o 9 (sIdxAddrS 1 (X 5) (X 7)),
  o 10 (sLoad 1 false (X 9)),
  o 4 (sMov (X 10))])
 (.seq (.reg [o 11 (sMov (X 0)),
  o 12 (sMov (X 4)),
  o 13 (sCallV E (X 11) [(X 12)]),
  o 14 (sUn .not (X 13))])
 (.ite (X 14)
 (.ret)
 (.skip)))))
 (.reg [o 15 (sBin .add .none (X 7) (K (.int .i64 1))),
  o 7 (sMov (X 15))])))
noncomputable def b81 (E : Env) : CT :=
 .seq (.reg [o 5 (sLoad 1 false (X 1)),
  o 6 (sLenSl (X 5)),
  o 7 (sMov (K (.int .i64 0)))])
 (.block 0 (.loop (l81x0 E)))
theorem c81 (args : T) (h : AHeap) : (envL prog).call 81 args h = trim h (fin [] (runC (envL prog) (b81 (envL prog)) (args ++ List.replicate (16 - args.length) .undef) h)) :=
 call_tr (fn := Go.Proofs.Try.f81) tab81 (by kernel_rfl) (by rfl) (by kernel_rfl) (fun t h => by kernel_rfl) rfl args h
end Go.Proofs.Ytipedaadjfhdnaa.G06
