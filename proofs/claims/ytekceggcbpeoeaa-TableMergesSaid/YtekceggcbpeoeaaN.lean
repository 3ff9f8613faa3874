/- What the functions that TableMerges reaches answer, for every argument. No condition but those in each statement. -/
import Derived.Test.YtekceggcbpeoeaaE5
import Derived.Test.YtekceggcbpeoeaaProg
set_option maxRecDepth 100000
set_option linter.unusedVariables false
namespace Go.Proofs.Ytekceggcbpeoeaa.G10
open Go Go.Proofs.Ytekceggcbpeoeaa.Eng
noncomputable abbrev prog : Program := Go.Proofs.Try.prog
def tab4 : Nat → Cert := fun i => bif Nat.beq i 9 then ⟨11, 58, 685545484232014827297102212196466688, 1328234227053486250869968532347551744, 588127110865361103392285133189721316557727236373750871902921753757857839031650094425629631155251601687438939943900380312294430294588628375801333722690968695023829954987820167609087613810507777, 233479898990610680949430908417697677046208336464888510542221232035449939166557818394811996264854749463580151426441517709443662183119877099149165782584908172284746822549640314929⟩ else bif Nat.beq i 28 then ⟨14, 144, 50211450921150419188619566926800976980143243982468034871296, 50212216069072987983375177239911898540445919143877094162432, 3762194662274677225006147833619028325244330730637932414252361856599331042982625607475590387076504839626507392972396619685355214978721840354269374226681629641885873889463552066591290725208123867566130048291645907212305964917952831731712227209554602020436735440099110686206309893913967585699644824217862772029075310283061392832163087334608895784629755322773771563360688308296287798825468471387639648231782072507488826930717157459590399002554969766846396498883126416489131114684009959186140040042138351170571857399183264584429053066828703699983114783422899292328749683722124968967737644263014540551099659616256, 5398484585202205687748452402040866786063162917489878912045620597691826803325866106420037992976658102875455462577551707338554910248535752781673420502441656749489385324095924910836712874171896893377702937028982967039991160950752613735343672892139882943731565583473102437172642005842689073692822637771637201856690788175106995919308035025823690008283421948883582784874357175311703816423029860412899884935880995363087975920856445677262131613871245805748627970312207382179277304506567793569150116010656101897686997238602477160962528650797921005337972627814597584945676420⟩ else ⟨0, 0, 0, 0, 0, 0⟩
noncomputable def l4x0 (E : Env) : CT :=
 .seq (.seq (.reg [o 42 (sMov (X 6)),
  o 43 (sMov (X 1)),
  o 44 (sLenSl (X 43)),
  o 45 (sBin .lss .none (X 42) (X 44))])
 (.ite (X 45)
 (.skip)
 (.exit 2)))
 (.seq (.block 3 (.seq (.drw [.op (o 48 (sMov (X 0))),
  .op (o 49 (sMov (X 5))),
  .op (o 50 (sIdxAddrS 2 (X 48) (X 49))),
  .op (o 51 (sFieldAddr 1 (X 50))),
  .op (o 52 (sLoad 1 false (X 51))),
  .op (o 53 (sMov (X 1))),
  .op (o 54 (sMov (X 6))),
  .op (o 55 (sIdxAddrS 2 (X 53) (X 54))),
  .op (o 56 (sFieldAddr 1 (X 55))),
  .op (o 57 (sLoad 1 false (X 56))),
  .op (o 58 (sBin .eql .none (X 52) (X 57)))])
 (.ite (X 58)
 (.seq (.reg [o 59 (sCall E 7 []),
  o 4 (sMov (X 59))])
 (.ret))
 (.skip))))
 (.reg [o 46 (sMov (X 6)),
  o 47 (sBin .add .none (X 46) (K (.int .i64 1))),
  o 6 (sMov (X 47))]))
noncomputable def l4x1 (E : Env) : CT :=
 .seq (.seq (.reg [o 36 (sMov (X 5)),
  o 37 (sMov (X 0)),
  o 38 (sLenSl (X 37)),
  o 39 (sBin .lss .none (X 36) (X 38))])
 (.ite (X 39)
 (.skip)
 (.exit 0)))
 (.seq (.block 1 (.seq (.reg [o 6 (sMov (K (.int .i64 0)))])
 (.block 2 (.loop (l4x0 E)))))
 (.reg [o 40 (sMov (X 5)),
  o 41 (sBin .add .none (X 40) (K (.int .i64 1))),
  o 5 (sMov (X 41))]))
noncomputable def l4x2 (E : Env) : CT :=
 .seq (.seq (.reg [o 82 (sMov (X 9)),
  o 83 (sMov (X 0)),
  o 84 (sLenSl (X 83)),
  o 85 (sBin .lss .none (X 82) (X 84))])
 (.ite (X 85)
 (.skip)
 (.exit 4)))
 (.seq (.block 5 (.seq (.reg [o 89 (sMov (X 7)),
  o 90 (sMov (X 0)),
  o 91 (sMov (X 9)),
  o 92 (sIdxAddrS 2 (X 90) (X 91)),
  o 93 (sFieldAddr 0 (X 92)),
  o 94 (sLoad 1 false (X 93)),
  o 95 (sCall E 8 [(X 89), (X 94)]),
  o 88 (sMov (X 95)),
  o 96 (sExtract (X 88) 0),
  o 97 (sExtract (X 88) 1),
  o 10 (sMov (X 96)),
  o 11 (sMov (X 97))])
 (.seq (.reg [o 98 (sMov (X 11)),
  o 99 (sUn .not (X 98)),
  o 100 (sMov (X 99)),
  og 100 false 101 (sMov (X 10)),
  og 100 false 102 (sMov (X 0)),
  og 100 false 103 (sMov (X 9)),
  og 100 false 104 (sIdxAddrS 2 (X 102) (X 103)),
  og 100 false 105 (sFieldAddr 1 (X 104)),
  og 100 false 106 (sLoad 1 false (X 105)),
  og 100 false 107 (sBin .neq .none (X 101) (X 106)),
  o 108 (sPick (X 100) (K (.bool true)) (X 107))])
 (.ite (X 108)
 (.seq (.reg [o 4 (sMov (K (.bool false)))])
 (.ret))
 (.skip)))))
 (.reg [o 86 (sMov (X 9)),
  o 87 (sBin .add .none (X 86) (K (.int .i64 1))),
  o 9 (sMov (X 87))]))
noncomputable def l4x3 (E : Env) : CT :=
 .seq (.seq (.reg [o 125 (sMov (X 16)),
  o 126 (sMov (X 8)),
  o 127 (sLenSl (X 126)),
  o 128 (sBin .lss .none (X 125) (X 127))])
 (.ite (X 128)
 (.skip)
 (.exit 8)))
 (.seq (.block 9 (.drw [.op (o 131 (sMov (X 15))),
  .op (o 132 (sMov (X 131))),
  .op (og 132 false 133 (sMov (X 8))),
  .op (og 132 false 134 (sMov (X 16))),
  .op (og 132 false 135 (sIdxAddrS 1 (X 133) (X 134))),
  .op (og 132 false 136 (sLoad 1 false (X 135))),
  .op (og 132 false 137 (sMov (X 1))),
  .op (og 132 false 138 (sMov (X 12))),
  .op (og 132 false 139 (sIdxAddrS 2 (X 137) (X 138))),
  .op (og 132 false 140 (sFieldAddr 1 (X 139))),
  .op (og 132 false 141 (sLoad 1 false (X 140))),
  .op (og 132 false 142 (sBin .eql .none (X 136) (X 141))),
  .op (o 143 (sPick (X 132) (K (.bool true)) (X 142))),
  .op (o 15 (sMov (X 143)))]))
 (.reg [o 129 (sMov (X 16)),
  o 130 (sBin .add .none (X 129) (K (.int .i64 1))),
  o 16 (sMov (X 130))]))
noncomputable def l4x4 (E : Env) : CT :=
 .seq (.seq (.reg [o 109 (sMov (X 12)),
  o 110 (sMov (X 1)),
  o 111 (sLenSl (X 110)),
  o 112 (sBin .lss .none (X 109) (X 111))])
 (.ite (X 112)
 (.skip)
 (.exit 6)))
 (.seq (.block 7 (.seq (.reg [o 116 (sMov (X 7)),
  o 117 (sMov (X 1)),
  o 118 (sMov (X 12)),
  o 119 (sIdxAddrS 2 (X 117) (X 118)),
  o 120 (sFieldAddr 0 (X 119)),
  o 121 (sLoad 1 false (X 120)),
  o 122 (sCall E 8 [(X 116), (X 121)]),
  o 115 (sMov (X 122)),
  o 123 (sExtract (X 115) 0),
  o 124 (sExtract (X 115) 1),
  o 13 (sMov (X 123)),
  o 14 (sMov (X 124))])
 (.seq (.reg [o 15 (sMov (K (.bool false)))])
 (.seq (.seq (.reg [o 16 (sMov (K (.int .i64 0)))])
 (.block 8 (.loop (l4x3 E))))
 (.seq (.reg [o 144 (sMov (X 14)),
  o 145 (sUn .not (X 144)),
  o 146 (sMov (X 145)),
  og 146 false 147 (sMov (X 13)),
  og 146 false 148 (sMov (X 1)),
  og 146 false 149 (sMov (X 12)),
  og 146 false 150 (sIdxAddrS 2 (X 148) (X 149)),
  og 146 false 151 (sFieldAddr 1 (X 150)),
  og 146 false 152 (sLoad 1 false (X 151)),
  og 146 false 153 (sBin .eql .none (X 147) (X 152)),
  og 146 false 154 (sMov (X 15)),
  og 146 false 155 (sBin .eql .bool (X 153) (X 154)),
  o 156 (sPick (X 146) (K (.bool true)) (X 155))])
 (.ite (X 156)
 (.seq (.reg [o 4 (sMov (K (.bool false)))])
 (.ret))
 (.skip)))))))
 (.reg [o 113 (sMov (X 12)),
  o 114 (sBin .add .none (X 113) (K (.int .i64 1))),
  o 12 (sMov (X 114))]))
noncomputable def b4 (E : Env) : CT :=
 .seq (.reg [o 4 (sMov (K (.bool false)))])
 (.seq (.seq (.reg [o 17 (sMov (X 0)),
  o 18 (sLenSl (X 17)),
  o 19 (sBin .gtr .none (X 18) (K (.int .i64 64))),
  o 20 (sMov (X 19)),
  og 20 false 21 (sMov (X 1)),
  og 20 false 22 (sLenSl (X 21)),
  og 20 false 23 (sBin .gtr .none (X 22) (K (.int .i64 64))),
  o 24 (sPick (X 20) (K (.bool true)) (X 23)),
  o 25 (sMov (X 24)),
  og 25 false 26 (sMov (X 0)),
  og 25 false 27 (sCall E 13 [(X 26), (K (.int .i64 64)), (K (.int .i64 200))]),
  og 25 false 28 (sUn .not (X 27)),
  o 29 (sPick (X 25) (K (.bool true)) (X 28)),
  o 30 (sMov (X 29)),
  og 30 false 31 (sMov (X 1)),
  og 30 false 32 (sCall E 13 [(X 31), (K (.int .i64 64)), (K (.int .i64 200))]),
  og 30 false 33 (sUn .not (X 32)),
  o 34 (sPick (X 30) (K (.bool true)) (X 33))])
 (.ite (X 34)
 (.seq (.reg [o 35 (sCall E 7 []),
  o 4 (sMov (X 35))])
 (.ret))
 (.skip)))
 (.seq (.seq (.reg [o 5 (sMov (K (.int .i64 0)))])
 (.block 0 (.loop (l4x1 E))))
 (.seq (.reg [o 61 (sMov (X 0)),
  o 62 (sMov (X 1)),
  o 63 (sCall E 10 [(X 61), (X 62)]),
  o 60 (sMov (X 63)),
  o 64 (sExtract (X 60) 0),
  o 65 (sExtract (X 60) 1),
  o 7 (sMov (X 64)),
  o 8 (sMov (X 65))])
 (.seq (.seq (.reg [o 66 (sMov (X 7)),
  o 67 (sCall E 12 [(X 66), (K (.int .i64 64)), (K (.int .i64 200))]),
  o 68 (sUn .not (X 67)),
  o 69 (sMov (X 68)),
  og 69 false 70 (sMov (X 7)),
  og 69 false 71 (sLenSl (X 70)),
  og 69 false 72 (sMov (X 8)),
  og 69 false 73 (sLenSl (X 72)),
  og 69 false 74 (sBin .add .none (X 71) (X 73)),
  og 69 false 75 (sMov (X 0)),
  og 69 false 76 (sLenSl (X 75)),
  og 69 false 77 (sMov (X 1)),
  og 69 false 78 (sLenSl (X 77)),
  og 69 false 79 (sBin .add .none (X 76) (X 78)),
  og 69 false 80 (sBin .neq .none (X 74) (X 79)),
  o 81 (sPick (X 69) (K (.bool true)) (X 80))])
 (.ite (X 81)
 (.seq (.reg [o 4 (sMov (K (.bool false)))])
 (.ret))
 (.skip)))
 (.seq (.seq (.reg [o 9 (sMov (K (.int .i64 0)))])
 (.block 4 (.loop (l4x2 E))))
 (.seq (.seq (.reg [o 12 (sMov (K (.int .i64 0)))])
 (.block 6 (.loop (l4x4 E))))
 (.seq (.reg [o 157 (sCall E 7 []),
  o 4 (sMov (X 157))])
 (.ret))))))))
theorem c4 (args : T) (h : AHeap) : (envL prog).call 4 args h = trim h (fin [.tmp 4] (runC (envL prog) (b4 (envL prog)) (args ++ List.replicate (158 - args.length) .undef) h)) :=
 call_tr (fn := Go.Proofs.Try.f4) tab4 (by kernel_rfl) (by rfl) (by kernel_rfl) (fun t h => by kernel_rfl) rfl args h
theorem d4 (E : Env) (args : T) (h : AHeap) : callBody prog E 4 args h = trim h (fin [.tmp 4] (runC E (b4 E) (args ++ List.replicate (158 - args.length) .undef) h)) :=
 body_tr (fn := Go.Proofs.Try.f4) tab4 (by kernel_rfl) (by rfl) (by kernel_rfl) (fun t h => by kernel_rfl) rfl args h
def tab7 : Nat → Cert := fun i => ⟨0, 0, 0, 0, 0, 0⟩
noncomputable def b7 (E : Env) : CT :=
 .seq (.reg [o 0 (sMov (K (.bool false)))])
 (.seq (.reg [o 6 (sBuild [.int .i64 0, .int .i64 0] [(0, 1, (K (.int .i64 1))), (1, 1, (K (.int .i64 4)))]),
  o 7 (sBuild [.int .i64 0, .int .i64 0] [(0, 1, (K (.int .i64 5))), (1, 1, (K (.int .i64 2)))]),
  o 8 (sBuildSl 2 2 [.int .i64 0, .int .i64 0] [(0, 2, (X 6)), (2, 2, (X 7))]),
  o 9 (sCall E 15 [(X 8), (K (.int .i64 3)), (K (.int .i64 7))]),
  o 1 (sMov (X 9))])
 (.seq (.reg [o 11 (sMov (X 1)),
  o 12 (sBuild [.int .i64 0, .int .i64 0] [(0, 1, (K (.int .i64 3))), (1, 1, (K (.int .i64 9)))]),
  o 13 (sBuild [.int .i64 0, .int .i64 0] [(0, 1, (K (.int .i64 4))), (1, 1, (K (.int .i64 8)))]),
  o 14 (sBuildSl 2 2 [.int .i64 0, .int .i64 0] [(0, 2, (X 12)), (2, 2, (X 13))]),
  o 15 (sCall E 10 [(X 11), (X 14)]),
  o 10 (sMov (X 15)),
  o 16 (sExtract (X 10) 0),
  o 17 (sExtract (X 10) 1),
  o 2 (sMov (X 16)),
  o 3 (sMov (X 17))])
 (.seq (.reg [o 19 (sMov (X 1)),
  o 20 (sCall E 8 [(X 19), (K (.int .i64 3))]),
  o 18 (sMov (X 20)),
  o 21 (sExtract (X 18) 0),
  o 22 (sExtract (X 18) 1),
  o 4 (sMov (X 21)),
  o 5 (sMov (X 22))])
 (.seq (.reg [o 23 (sMov (X 1)),
  o 24 (sLenSl (X 23)),
  o 25 (sBin .eql .none (X 24) (K (.int .i64 3))),
  o 26 (sMov (X 25)),
  og 26 true 27 (sMov (X 1)),
  og 26 true 28 (sIdxAddrS 2 (X 27) (K (.int .i64 1))),
  og 26 true 29 (sFieldAddr 0 (X 28)),
  og 26 true 30 (sLoad 1 false (X 29)),
  og 26 true 31 (sBin .eql .none (X 30) (K (.int .i64 3))),
  o 32 (sPick (X 26) (X 31) (K (.bool false))),
  o 33 (sMov (X 32)),
  og 33 true 34 (sMov (X 5)),
  o 35 (sPick (X 33) (X 34) (K (.bool false))),
  o 36 (sMov (X 35)),
  og 36 true 37 (sMov (X 4)),
  og 36 true 38 (sBin .eql .none (X 37) (K (.int .i64 7))),
  o 39 (sPick (X 36) (X 38) (K (.bool false))),
  o 40 (sMov (X 39)),
  og 40 true 41 (sMov (X 2)),
  og 40 true 42 (sLenSl (X 41)),
  og 40 true 43 (sBin .eql .none (X 42) (K (.int .i64 4))),
  o 44 (sPick (X 40) (X 43) (K (.bool false))),
  o 45 (sMov (X 44)),
  og 45 true 46 (sMov (X 2)),
  og 45 true 47 (sIdxAddrS 2 (X 46) (K (.int .i64 2))),
  og 45 true 48 (sFieldAddr 0 (X 47)),
  og 45 true 49 (sLoad 1 false (X 48)),
  og 45 true 50 (sBin .eql .none (X 49) (K (.int .i64 4))),
  o 51 (sPick (X 45) (X 50) (K (.bool false))),
  o 52 (sMov (X 51)),
  og 52 true 53 (sMov (X 3)),
  og 52 true 54 (sBuildSl 1 1 [.int .i64 0] [(0, 1, (K (.int .i64 9)))]),
  og 52 true 55 (sCall E 17 [(X 53), (X 54)]),
  o 56 (sPick (X 52) (X 55) (K (.bool false))),
  o 57 (sMov (X 56)),
  og 57 true 58 (sMov (X 2)),
  og 57 true 59 (sCall E 12 [(X 58), (K (.int .i64 6)), (K (.int .i64 9))]),
  o 60 (sPick (X 57) (X 59) (K (.bool false))),
  o 61 (sMov (X 60)),
  og 61 true 62 (sMov (X 2)),
  og 61 true 63 (sCall E 12 [(X 62), (K (.int .i64 5)), (K (.int .i64 9))]),
  og 61 true 64 (sUn .not (X 63)),
  o 65 (sPick (X 61) (X 64) (K (.bool false))),
  o 0 (sMov (X 65))])
 (.ret)))))
theorem d7 (E : Env) (args : T) (h : AHeap) : callBody prog E 7 args h = trim h (fin [.tmp 0] (runC E (b7 E) (args ++ List.replicate (66 - args.length) .undef) h)) :=
 body_tr (fn := Go.Proofs.Try.f7) tab7 (by kernel_rfl) (by rfl) (by kernel_rfl) (fun t h => by kernel_rfl) rfl args h
def tab8 : Nat → Cert := fun i => ⟨0, 0, 0, 0, 0, 0⟩
noncomputable def b8 (E : Env) : CT :=
 .seq (.reg [o 4 (sMov (K (.int .i64 0))),
  o 5 (sMov (K (.bool false)))])
 (.seq (.reg [o 7 (sMov (X 0)),
  o 8 (sMov (X 1)),
  o 9 (sCall E 18 [(X 7), (X 8)]),
  o 6 (sMov (X 9))])
 (.seq (.seq (.reg [o 10 (sMov (X 6)),
  o 11 (sBin .lss .none (X 10) (K (.int .i64 0)))])
 (.ite (X 11)
 (.seq (.reg [o 4 (sMov (K (.int .i64 0))),
  o 5 (sMov (K (.bool false)))])
 (.ret))
 (.skip)))
 (.seq (.reg [o 12 (sMov (X 0)),
  o 13 (sMov (X 6)),
  o 14 (sIdxAddrS 2 (X 12) (X 13)),
  o 15 (sFieldAddr 1 (X 14)),
  o 16 (sLoad 1 false (X 15)),
  o 4 (sMov (X 16)),
  o 5 (sMov (K (.bool true)))])
 (.ret))))
theorem c8 (args : T) (h : AHeap) : (envL prog).call 8 args h = trim h (fin [.tmp 4, .tmp 5] (runC (envL prog) (b8 (envL prog)) (args ++ List.replicate (17 - args.length) .undef) h)) :=
 call_tr (fn := Go.Proofs.Try.f8) tab8 (by kernel_rfl) (by rfl) (by kernel_rfl) (fun t h => by kernel_rfl) rfl args h
def tab10 : Nat → Cert := fun i => ⟨0, 0, 0, 0, 0, 0⟩
noncomputable def l10x0 (E : Env) : CT :=
 .seq (.reg [o 21 (sBin .lss .none (X 20) (X 19))])
 (.seq (.ite (X 21)
 (.skip)
 (.exit 2))
 (.seq (.block 3 (.seq (.reg [o 22 (sIdxAddrS 2 (X 18) (X 20)),
  o 23 (sLoad 2 true (X 22)),
  o 9 (sAlloc [.int .i64 0, .int .i64 0]),
  u (sStore 2 (X 9) (X 23))])
 (.seq (.reg [o 24 (sFieldAddr 0 (X 9)),
  o 25 (sLoad 1 false (X 24)),
  o 26 (sFieldAddr 0 (X 7)),
  o 27 (sLoad 1 false (X 26)),
  o 28 (sBin .eql .none (X 25) (X 27))])
 (.ite (X 28)
 (.seq (.reg [o 29 (sMov (X 5)),
  o 30 (sFieldAddr 1 (X 7)),
  o 31 (sLoad 1 false (X 30)),
  o 32 (sBuildSl 1 1 [.int .i64 0] [(0, 1, (X 31))]),
  o 33 (sApp (ty 1 false 8 [.int .i64 0]) (X 29) (X 32)),
  o 5 (sMov (X 33))])
 (.exit 1))
 (.skip)))))
 (.reg [o 34 (sBin .add .none (X 20) (K (.int .i64 1))),
  o 20 (sMov (X 34))])))
noncomputable def l10x1 (E : Env) : CT :=
 .seq (.reg [o 15 (sBin .lss .none (X 14) (X 13))])
 (.seq (.ite (X 15)
 (.skip)
 (.exit 0))
 (.seq (.block 1 (.seq (.reg [o 16 (sIdxAddrS 2 (X 12) (X 14)),
  o 17 (sLoad 2 true (X 16)),
  o 7 (sAlloc [.int .i64 0, .int .i64 0]),
  u (sStore 2 (X 7) (X 17))])
 (.seq (.seq (.reg [o 18 (sMov (X 0)),
  o 19 (sLenSl (X 18)),
  o 20 (sMov (K (.int .i64 0)))])
 (.block 2 (.loop (l10x0 E))))
 (.reg [o 35 (sMov (X 4)),
  o 36 (sFieldAddr 0 (X 7)),
  o 37 (sLoad 1 false (X 36)),
  o 38 (sFieldAddr 1 (X 7)),
  o 39 (sLoad 1 false (X 38)),
  o 40 (sCall E 15 [(X 35), (X 37), (X 39)]),
  o 4 (sMov (X 40))]))))
 (.reg [o 41 (sBin .add .none (X 14) (K (.int .i64 1))),
  o 14 (sMov (X 41))])))
noncomputable def b10 (E : Env) : CT :=
 .seq (.reg [o 4 (sMov (K (.nilSl))),
  o 5 (sMov (K (.nilSl)))])
 (.seq (.reg [o 10 (sMov (X 0)),
  o 11 (sCall E 19 [(X 10)]),
  o 4 (sMov (X 11))])
 (.seq (.skip)
 (.seq (.seq (.reg [o 12 (sMov (X 1)),
  o 13 (sLenSl (X 12)),
  o 14 (sMov (K (.int .i64 0)))])
 (.block 0 (.loop (l10x1 E))))
 (.seq (.reg [o 42 (sMov (X 4)),
  o 43 (sMov (X 5)),
  o 4 (sMov (X 42)),
  o 5 (sMov (X 43))])
 (.ret)))))
theorem d10 (E : Env) (args : T) (h : AHeap) : callBody prog E 10 args h = trim h (fin [.tmp 4, .tmp 5] (runC E (b10 E) (args ++ List.replicate (44 - args.length) .undef) h)) :=
 body_tr (fn := Go.Proofs.Try.f10) tab10 (by kernel_rfl) (by rfl) (by kernel_rfl) (fun t h => by kernel_rfl) rfl args h
def tab12 : Nat → Cert := fun i => bif Nat.beq i 5 then ⟨41, 57, 26879162388085686345656385837946460297081111765991358483411092623524562867393236087858947211754487900278667630048474670165221809929094740941537574563361666218765001032592564931023107322345194080303715981926938210602600346656767983418991688141802375025040548192474784240783283883202430920548006654075037319199750127703493283824697213002270560521233650991654447954531025128449073776965913681696732989010772948529193785362207988009264032230767642724346795815439611787246991962457420833781179711687368221130752, 53751763281581245769098257181553740227902341713442860261185979190566584631939466203010977254012202452891594087060655633673237001706172005052225770795609916594280664111702919604417040237926851915474295482555110717244818282300520335210541435686476107285527492029883492695096121060986429424223501537829431065531557693692808084189960426783272017832448429890643969591990896319634368968683866869596824838713834702798491480433311209233594992497895712112118543312167222278396606756499668884471598549431227372273664, 16073959964283633306425242473010085694415356138226962267612230887089026203214208082567549824253529171160902891500653194517770074317860918219032037904828555340671594567059931429168809268703220408050465022880834301345506911697107661274305987611512079651259301965444768395131365200197128985935411443533031466952731862423019020435236663786859002017326077335505216010262802653475299697151908679160190545273893221078963738786856691690752937248555197931556586460531110730883461226725175283874323201214264207847454465395151147818976648891094086500888676787666149750985480609072176677840375146262753129128512966821127190382306697123645646827026076895005057279818876121845076667843000893818624036419254839284859392, 12936539158328994545780995073471535576603230798522526350283096213857896509703633645707268407732763702005244231959175247554070321082328751389309412587398988989485184775401389748718564241700094235778643365979387810231052079390546080414431718479758776794355459043469701343096348882299661265725052056111728323505450178855011641873863601196029739824972813803859223864590343100298408971965697913419824058979634559935637826911972951644287572478292722620911485755766255101927999707847651627756968646316440989845250226204669337278852551634747404077782431765578558208720926945333664205355415439009824804076068866543217105912083085763536580422659105539017315844496974199187566342931395417691631124498⟩ else ⟨0, 0, 0, 0, 0, 0⟩
noncomputable def l12x0 (E : Env) : CT :=
 .seq (.reg [o 13 (sBin .lss .none (X 12) (X 11))])
 (.seq (.ite (X 13)
 (.skip)
 (.exit 0))
 (.seq (.block 1 (.seq (.reg [o 14 (sMov (X 12)),
  o 15 (sIdxAddrS 2 (X 10) (X 12)),
  o 16 (sLoad 2 true (X 15)),
  o 9 (sAlloc [.int .i64 0, .int .i64 0]),
  o 8 (sMov (X 14)),
  u (sStore 2 (X 9) (X 16))])
 (.seq (.seq (.drw [.op (o 17 (sFieldAddr 0 (X 9))),
  .op (o 18 (sLoad 1 false (X 17))),
  .op (o 19 (sBin .lss .none (X 18) (K (.int .i64 0)))),
  .op (o 20 (sMov (X 19))),
  .op (og 20 false 21 (sFieldAddr 0 (X 9))),
  .op (og 20 false 22 (sLoad 1 false (X 21))),
  .op (og 20 false 23 (sMov (X 1))),
  .op (og 20 false 24 (sBin .geq .none (X 22) (X 23))),
  .op (o 25 (sPick (X 20) (K (.bool true)) (X 24))),
  .op (o 26 (sMov (X 25))),
  .op (og 26 false 27 (sFieldAddr 1 (X 9))),
  .op (og 26 false 28 (sLoad 1 false (X 27))),
  .op (og 26 false 29 (sBin .lss .none (X 28) (K (.int .i64 0)))),
  .op (o 30 (sPick (X 26) (K (.bool true)) (X 29))),
  .op (o 31 (sMov (X 30))),
  .op (og 31 false 32 (sFieldAddr 1 (X 9))),
  .op (og 31 false 33 (sLoad 1 false (X 32))),
  .op (og 31 false 34 (sMov (X 2))),
  .op (og 31 false 35 (sBin .geq .none (X 33) (X 34))),
  .op (o 36 (sPick (X 31) (K (.bool true)) (X 35))),
  .op (o 37 (sMov (X 36))),
  .op (og 37 false 38 (sMov (X 7))),
  .op (og 37 false 39 (sFieldAddr 1 (X 9))),
  .op (og 37 false 40 (sLoad 1 false (X 39))),
  .hv 16777215 (og 37 false 41 (sCall E 20 [(X 38), (X 40)])),
  .op (o 42 (sPick (X 37) (K (.bool true)) (X 41))),
  .op (o 43 (sMov (X 42))),
  .op (og 43 false 44 (sMov (X 8))),
  .op (og 43 false 45 (sBin .gtr .none (X 44) (K (.int .i64 0)))),
  .op (og 43 false 46 (sMov (X 45))),
  .op (og 46 true 47 (sFieldAddr 0 (X 9))),
  .op (og 46 true 48 (sLoad 1 false (X 47))),
  .op (og 46 true 49 (sMov (X 0))),
  .op (og 46 true 50 (sMov (X 8))),
  .op (og 46 true 51 (sBin .sub .none (X 50) (K (.int .i64 1)))),
  .op (og 46 true 52 (sIdxAddrS 2 (X 49) (X 51))),
  .op (og 46 true 53 (sFieldAddr 0 (X 52))),
  .op (og 46 true 54 (sLoad 1 false (X 53))),
  .op (og 46 true 55 (sBin .leq .none (X 48) (X 54))),
  .op (og 43 false 56 (sPick (X 46) (X 55) (K (.bool false)))),
  .op (o 57 (sPick (X 43) (K (.bool true)) (X 56)))])
 (.ite (X 57)
 (.seq (.reg [o 6 (sMov (K (.bool false)))])
 (.ret))
 (.skip)))
 (.reg [o 58 (sMov (X 7)),
  o 59 (sFieldAddr 1 (X 9)),
  o 60 (sLoad 1 false (X 59)),
  o 61 (sBuildSl 1 1 [.int .i64 0] [(0, 1, (X 60))]),
  o 62 (sApp (ty 1 false 8 [.int .i64 0]) (X 58) (X 61)),
  o 7 (sMov (X 62))]))))
 (.reg [o 63 (sBin .add .none (X 12) (K (.int .i64 1))),
  o 12 (sMov (X 63))])))
noncomputable def b12 (E : Env) : CT :=
 .seq (.reg [o 6 (sMov (K (.bool false)))])
 (.seq (.reg [o 7 (sMov (K (.nilSl)))])
 (.seq (.seq (.reg [o 10 (sMov (X 0)),
  o 11 (sLenSl (X 10)),
  o 12 (sMov (K (.int .i64 0)))])
 (.block 0 (.loop (l12x0 E))))
 (.seq (.reg [o 6 (sMov (K (.bool true)))])
 (.ret))))
theorem c12 (args : T) (h : AHeap) : (envL prog).call 12 args h = trim h (fin [.tmp 6] (runC (envL prog) (b12 (envL prog)) (args ++ List.replicate (64 - args.length) .undef) h)) :=
 call_tr (fn := Go.Proofs.Try.f12) tab12 (by kernel_rfl) (by rfl) (by kernel_rfl) (fun t h => by kernel_rfl) rfl args h
def tab13 : Nat → Cert := fun i => bif Nat.beq i 5 then ⟨35, 54, 144456706240742981253486938374969308533123264002620000681016550140940253929527120781808113596246415559588982351890878079397792769697254485239022099675621311049157380824964577029222200946777355783001768362621860261725534632731675630217324692389378082841641421990937063765867598618010837991518763239128842681689613669332762054546092433501921137109431498623997324088573952, 288878149018735126432926659676826792261178797128031392956774616214939589884509551620059743572313814691738715893108607009114062911916276416050642609584127244776172830745860665777805220586891026465120651774165449405011584273751568869088427802074488460214714729002607837296636654041261806413249880688608159492937650675323939145843618222543003598383311026073218442034413568, 44229784206561672429893437339037386784259271102677553716410146472340358793404465046211112429062104804855459834226842340084834730867527084048169953153570209926118649392904435171806503065386605183252795305392843925373863132967669290950875946589306724190766513360090643108065373644313703892443249180625752623817025758509668122690431020009228199314515124033100959664669467755330992796113518279749835441885390973083179205000717835264721305985134416389164002101468444099248431043838641692619142884421431437327240219340308676758246626537488613854785205993669184242475622990080, 270044122031432679258317848931287541416898229210046106854921639519170262810144933030667189034706973094997009217778226633370741766206342450924657117750348353810997371095044221710537780679457271360367266048042120846891015005410406138289934477152860353207474720418934662215896122987230146314759783031126939802661263544856925968416176318219332204197448288403620125725748185725313099957565849473268454870011931895413926657804287554967318000385964693181317512182115186281732562948772194447407702125857087376297235727201432422653246956914802164093057366881206293⟩ else bif Nat.beq i 10 then ⟨8, 67, 5773614756716019712, 9160321706613735424, 140591056079474886963210401186270428235110358827524880905723735898270829006881166179088429663677163340969020795534910783594490040318026827612183437665589725757441, 103651807334710679558284138487803516497591328517300419146875112630728913876326142734175096983865593647941495051041647169322716650609505487290429⟩ else ⟨0, 0, 0, 0, 0, 0⟩
noncomputable def l13x0 (E : Env) : CT :=
 .seq (.seq (.reg [o 55 (sMov (X 9)),
  o 56 (sMov (X 7)),
  o 57 (sBin .lss .none (X 55) (X 56))])
 (.ite (X 57)
 (.skip)
 (.exit 2)))
 (.seq (.block 3 (.seq (.drw [.op (o 60 (sMov (X 0))),
  .op (o 61 (sMov (X 9))),
  .op (o 62 (sIdxAddrS 2 (X 60) (X 61))),
  .op (o 63 (sFieldAddr 1 (X 62))),
  .op (o 64 (sLoad 1 false (X 63))),
  .op (o 65 (sFieldAddr 1 (X 8))),
  .op (o 66 (sLoad 1 false (X 65))),
  .op (o 67 (sBin .eql .none (X 64) (X 66)))])
 (.ite (X 67)
 (.seq (.reg [o 6 (sMov (K (.bool false)))])
 (.ret))
 (.skip))))
 (.reg [o 58 (sMov (X 9)),
  o 59 (sBin .add .none (X 58) (K (.int .i64 1))),
  o 9 (sMov (X 59))]))
noncomputable def l13x1 (E : Env) : CT :=
 .seq (.seq (.reg [o 10 (sMov (X 7)),
  o 11 (sMov (X 0)),
  o 12 (sLenSl (X 11)),
  o 13 (sBin .lss .none (X 10) (X 12))])
 (.ite (X 13)
 (.skip)
 (.exit 0)))
 (.seq (.block 1 (.seq (.reg [o 16 (sMov (X 0)),
  o 17 (sMov (X 7)),
  o 18 (sIdxAddrS 2 (X 16) (X 17)),
  o 19 (sLoad 2 true (X 18)),
  o 8 (sAlloc [.int .i64 0, .int .i64 0]),
  u (sStore 2 (X 8) (X 19))])
 (.seq (.seq (.drw [.op (o 20 (sFieldAddr 0 (X 8))),
  .op (o 21 (sLoad 1 false (X 20))),
  .op (o 22 (sBin .lss .none (X 21) (K (.int .i64 0)))),
  .op (o 23 (sMov (X 22))),
  .op (og 23 false 24 (sFieldAddr 0 (X 8))),
  .op (og 23 false 25 (sLoad 1 false (X 24))),
  .op (og 23 false 26 (sMov (X 1))),
  .op (og 23 false 27 (sBin .geq .none (X 25) (X 26))),
  .op (o 28 (sPick (X 23) (K (.bool true)) (X 27))),
  .op (o 29 (sMov (X 28))),
  .op (og 29 false 30 (sFieldAddr 1 (X 8))),
  .op (og 29 false 31 (sLoad 1 false (X 30))),
  .op (og 29 false 32 (sBin .lss .none (X 31) (K (.int .i64 0)))),
  .op (o 33 (sPick (X 29) (K (.bool true)) (X 32))),
  .op (o 34 (sMov (X 33))),
  .op (og 34 false 35 (sFieldAddr 1 (X 8))),
  .op (og 34 false 36 (sLoad 1 false (X 35))),
  .op (og 34 false 37 (sMov (X 2))),
  .op (og 34 false 38 (sBin .geq .none (X 36) (X 37))),
  .op (o 39 (sPick (X 34) (K (.bool true)) (X 38))),
  .op (o 40 (sMov (X 39))),
  .op (og 40 false 41 (sMov (X 7))),
  .op (og 40 false 42 (sBin .gtr .none (X 41) (K (.int .i64 0)))),
  .op (og 40 false 43 (sMov (X 42))),
  .op (og 43 true 44 (sFieldAddr 0 (X 8))),
  .op (og 43 true 45 (sLoad 1 false (X 44))),
  .op (og 43 true 46 (sMov (X 0))),
  .op (og 43 true 47 (sMov (X 7))),
  .op (og 43 true 48 (sBin .sub .none (X 47) (K (.int .i64 1)))),
  .op (og 43 true 49 (sIdxAddrS 2 (X 46) (X 48))),
  .op (og 43 true 50 (sFieldAddr 0 (X 49))),
  .op (og 43 true 51 (sLoad 1 false (X 50))),
  .op (og 43 true 52 (sBin .leq .none (X 45) (X 51))),
  .op (og 40 false 53 (sPick (X 43) (X 52) (K (.bool false)))),
  .op (o 54 (sPick (X 40) (K (.bool true)) (X 53)))])
 (.ite (X 54)
 (.seq (.reg [o 6 (sMov (K (.bool false)))])
 (.ret))
 (.skip)))
 (.seq (.reg [o 9 (sMov (K (.int .i64 0)))])
 (.block 2 (.loop (l13x0 E)))))))
 (.reg [o 14 (sMov (X 7)),
  o 15 (sBin .add .none (X 14) (K (.int .i64 1))),
  o 7 (sMov (X 15))]))
noncomputable def b13 (E : Env) : CT :=
 .seq (.reg [o 6 (sMov (K (.bool false)))])
 (.seq (.seq (.reg [o 7 (sMov (K (.int .i64 0)))])
 (.block 0 (.loop (l13x1 E))))
 (.seq (.reg [o 6 (sMov (K (.bool true)))])
 (.ret)))
theorem c13 (args : T) (h : AHeap) : (envL prog).call 13 args h = trim h (fin [.tmp 6] (runC (envL prog) (b13 (envL prog)) (args ++ List.replicate (68 - args.length) .undef) h)) :=
 call_tr (fn := Go.Proofs.Try.f13) tab13 (by kernel_rfl) (by rfl) (by kernel_rfl) (fun t h => by kernel_rfl) rfl args h
def tab15 : Nat → Cert := fun i => ⟨0, 0, 0, 0, 0, 0⟩
noncomputable def l15x0 (E : Env) : CT :=
 .seq (.reg [o 29 (sBin .lss .none (X 28) (X 27))])
 (.seq (.ite (X 29)
 (.skip)
 (.exit 0))
 (.seq (.block 1 (.seq (.reg [o 30 (sMov (X 28)),
  o 31 (sIdxAddrS 2 (X 26) (X 28)),
  o 32 (sLoad 2 true (X 31)),
  o 10 (sAlloc [.int .i64 0, .int .i64 0]),
  o 9 (sMov (X 30)),
  u (sStore 2 (X 10) (X 32))])
 (.seq (.reg [o 33 (sFieldAddr 0 (X 10)),
  o 34 (sLoad 1 false (X 33)),
  o 35 (sMov (X 1)),
  o 36 (sBin .gtr .none (X 34) (X 35))])
 (.ite (X 36)
 (.seq (.reg [o 37 (sMov (X 0)),
  o 38 (sMov (X 9)),
  o 39 (sLoad 2 true (X 7)),
  o 40 (sBuildSl 2 1 [.int .i64 0, .int .i64 0] [(0, 2, (X 39))]),
  o 41 (sCall E 21 [(X 37), (X 38), (X 40)]),
  o 6 (sMov (X 41))])
 (.ret))
 (.skip)))))
 (.reg [o 42 (sBin .add .none (X 28) (K (.int .i64 1))),
  o 28 (sMov (X 42))])))
noncomputable def b15 (E : Env) : CT :=
 .seq (.reg [o 6 (sMov (K (.nilSl)))])
 (.seq (.reg [o 11 (sMov (X 1)),
  o 12 (sMov (X 2)),
  o 13 (sBuild [.int .i64 0, .int .i64 0] [(0, 1, (X 11)), (1, 1, (X 12))]),
  o 7 (sAlloc [.int .i64 0, .int .i64 0]),
  u (sStore 2 (X 7) (X 13))])
 (.seq (.reg [o 14 (sMov (X 0)),
  o 15 (sCall E 19 [(X 14)]),
  o 0 (sMov (X 15))])
 (.seq (.seq (.reg [o 16 (sMov (X 0)),
  o 17 (sMov (X 1)),
  o 18 (sCall E 18 [(X 16), (X 17)]),
  o 8 (sMov (X 18))])
 (.seq (.reg [o 19 (sMov (X 8)),
  o 20 (sBin .geq .none (X 19) (K (.int .i64 0)))])
 (.ite (X 20)
 (.seq (.reg [o 21 (sMov (X 0)),
  o 22 (sMov (X 8)),
  o 23 (sLoad 2 true (X 7)),
  o 24 (sIdxAddrS 2 (X 21) (X 22)),
  u (sStore 2 (X 24) (X 23))])
 (.seq (.reg [o 25 (sMov (X 0)),
  o 6 (sMov (X 25))])
 (.ret)))
 (.skip))))
 (.seq (.seq (.reg [o 26 (sMov (X 0)),
  o 27 (sLenSl (X 26)),
  o 28 (sMov (K (.int .i64 0)))])
 (.block 0 (.loop (l15x0 E))))
 (.seq (.reg [o 43 (sMov (X 0)),
  o 44 (sLoad 2 true (X 7)),
  o 45 (sBuildSl 2 1 [.int .i64 0, .int .i64 0] [(0, 2, (X 44))]),
  o 46 (sApp (ty 2 true 16 [.int .i64 0, .int .i64 0]) (X 43) (X 45)),
  o 6 (sMov (X 46))])
 (.ret))))))
theorem d15 (E : Env) (args : T) (h : AHeap) : callBody prog E 15 args h = trim h (fin [.tmp 6] (runC E (b15 E) (args ++ List.replicate (47 - args.length) .undef) h)) :=
 body_tr (fn := Go.Proofs.Try.f15) tab15 (by kernel_rfl) (by rfl) (by kernel_rfl) (fun t h => by kernel_rfl) rfl args h
def tab17 : Nat → Cert := fun i => bif Nat.beq i 6 then ⟨9, 25, 642833002171759447506944, 1205237335491016659828736, 28644943735582074826047332177877539589708590883724224647809306984449, 41780390347995922719512288248198774037700430168845219084107794⟩ else ⟨0, 0, 0, 0, 0, 0⟩
noncomputable def l17x0 (E : Env) : CT :=
 .seq (.seq (.reg [o 11 (sMov (X 5)),
  o 12 (sMov (X 0)),
  o 13 (sLenSl (X 12)),
  o 14 (sBin .lss .none (X 11) (X 13))])
 (.ite (X 14)
 (.skip)
 (.exit 0)))
 (.seq (.block 1 (.seq (.drw [.op (o 17 (sMov (X 0))),
  .op (o 18 (sMov (X 5))),
  .op (o 19 (sIdxAddrS 1 (X 17) (X 18))),
  .op (o 20 (sLoad 1 false (X 19))),
  .op (o 21 (sMov (X 1))),
  .op (o 22 (sMov (X 5))),
  .op (o 23 (sIdxAddrS 1 (X 21) (X 22))),
  .op (o 24 (sLoad 1 false (X 23))),
  .op (o 25 (sBin .neq .none (X 20) (X 24)))])
 (.ite (X 25)
 (.seq (.reg [o 4 (sMov (K (.bool false)))])
 (.ret))
 (.skip))))
 (.reg [o 15 (sMov (X 5)),
  o 16 (sBin .add .none (X 15) (K (.int .i64 1))),
  o 5 (sMov (X 16))]))
noncomputable def b17 (E : Env) : CT :=
 .seq (.reg [o 4 (sMov (K (.bool false)))])
 (.seq (.seq (.reg [o 6 (sMov (X 0)),
  o 7 (sLenSl (X 6)),
  o 8 (sMov (X 1)),
  o 9 (sLenSl (X 8)),
  o 10 (sBin .neq .none (X 7) (X 9))])
 (.ite (X 10)
 (.seq (.reg [o 4 (sMov (K (.bool false)))])
 (.ret))
 (.skip)))
 (.seq (.seq (.reg [o 5 (sMov (K (.int .i64 0)))])
 (.block 0 (.loop (l17x0 E))))
 (.seq (.reg [o 4 (sMov (K (.bool true)))])
 (.ret))))
theorem c17 (args : T) (h : AHeap) : (envL prog).call 17 args h = trim h (fin [.tmp 4] (runC (envL prog) (b17 (envL prog)) (args ++ List.replicate (26 - args.length) .undef) h)) :=
 call_tr (fn := Go.Proofs.Try.f17) tab17 (by kernel_rfl) (by rfl) (by kernel_rfl) (fun t h => by kernel_rfl) rfl args h
def tab18 : Nat → Cert := fun i => ⟨0, 0, 0, 0, 0, 0⟩
noncomputable def b18 (E : Env) : CT :=
 .seq (.reg [o 3 (sBox (X 1)),
  o 4 (sMov (K (.int .i64 0)))])
 (.seq (.reg [o 5 (sMov (X 0)),
  o 6 (sFun 23 [(X 3)]),
  o 7 (sCall E 22 [(X 5), (X 6)]),
  o 4 (sMov (X 7))])
 (.ret))
theorem c18 (args : T) (h : AHeap) : (envL prog).call 18 args h = trim h (fin [.tmp 4] (runC (envL prog) (b18 (envL prog)) (args ++ List.replicate (8 - args.length) .undef) h)) :=
 call_tr (fn := Go.Proofs.Try.f18) tab18 (by kernel_rfl) (by rfl) (by kernel_rfl) (fun t h => by kernel_rfl) rfl args h
def tab19 : Nat → Cert := fun i => ⟨0, 0, 0, 0, 0, 0⟩
noncomputable def b19 (E : Env) : CT :=
 .seq (.reg [o 2 (sMov (K (.nilSl)))])
 (.seq (.seq (.reg [o 3 (sMov (X 0)),
  o 4 (sBin .eql .slice (X 3) (K (.nilSl)))])
 (.ite (X 4)
 (.seq (.reg [o 2 (sMov (K (.nilSl)))])
 (.ret))
 (.skip)))
 (.seq (.reg [o 5 (sBuildSl 2 0 [.int .i64 0, .int .i64 0] []),
  o 6 (sMov (X 0)),
  o 7 (sApp (ty 2 true 16 [.int .i64 0, .int .i64 0]) (X 5) (X 6)),
  o 2 (sMov (X 7))])
 (.ret)))
theorem c19 (args : T) (h : AHeap) : (envL prog).call 19 args h = trim h (fin [.tmp 2] (runC (envL prog) (b19 (envL prog)) (args ++ List.replicate (8 - args.length) .undef) h)) :=
 call_tr (fn := Go.Proofs.Try.f19) tab19 (by kernel_rfl) (by rfl) (by kernel_rfl) (fun t h => by kernel_rfl) rfl args h
def tab20 : Nat → Cert := fun i => ⟨0, 0, 0, 0, 0, 0⟩
noncomputable def b20 (E : Env) : CT :=
 .seq (.reg [o 4 (sMov (K (.bool false)))])
 (.seq (.reg [o 5 (sMov (X 0)),
  o 6 (sMov (X 1)),
  o 7 (sCall E 24 [(X 5), (X 6)]),
  o 8 (sBin .geq .none (X 7) (K (.int .i64 0))),
  o 4 (sMov (X 8))])
 (.ret))
theorem c20 (args : T) (h : AHeap) : (envL prog).call 20 args h = trim h (fin [.tmp 4] (runC (envL prog) (b20 (envL prog)) (args ++ List.replicate (9 - args.length) .undef) h)) :=
 call_tr (fn := Go.Proofs.Try.f20) tab20 (by kernel_rfl) (by rfl) (by kernel_rfl) (fun t h => by kernel_rfl) rfl args h
def tab21 : Nat → Cert := fun i => bif Nat.beq i 11 then ⟨9, 54, 680906217249386249846784, 1205088896848329185427456, 112382947811375724488742041453776276374570809350632868170734732734838719881293241590782288705168714390777596721837144699999507108449320042638606848, 609987332706579302352693848719322061433462702010702316706625686780384052692097453976043110735309001855013995224369916608979312574511⟩ else bif Nat.beq i 15 then ⟨9, 77, 680906217249386249846784, 1205088896848329185427456, 23115831598601250764242733299745186244064715112560933823724752031692391757118915468275322643558725747272738064420965321799759590965544320155833376631231322711835302609810875268349228821309506037028511729844225, 21211526881130410853267533183424259031483221315037831563207555260244335392337441166579316541022363516950468447371577672569443599734093801526701739672898498476400484063534686101840588701766⟩ else ⟨0, 0, 0, 0, 0, 0⟩
noncomputable def b21 (E : Env) : CT :=
 .seq (.reg [o 6 (sMov (K (.nilSl)))])
 (.seq (.reg [o 10 (sMov (X 0)),
  o 11 (sMov (X 1)),
  o 12 (sSliceS 2 (X 10) (some (X 11)) none none)])
 (.seq (.reg [o 13 (sMov (X 2)),
  o 14 (sLenSl (X 13)),
  o 7 (sMov (X 14))])
 (.seq (.seq (.reg [o 15 (sMov (X 7)),
  o 16 (sBin .eql .none (X 15) (K (.int .i64 0)))])
 (.ite (X 16)
 (.seq (.reg [o 17 (sMov (X 0)),
  o 6 (sMov (X 17))])
 (.ret))
 (.skip)))
 (.seq (.reg [o 18 (sMov (X 0)),
  o 19 (sLenSl (X 18)),
  o 8 (sMov (X 19))])
 (.seq (.seq (.reg [o 20 (sMov (X 1)),
  o 21 (sMov (X 8)),
  o 22 (sBin .eql .none (X 20) (X 21))])
 (.ite (X 22)
 (.seq (.reg [o 23 (sMov (X 0)),
  o 24 (sMov (X 2)),
  o 25 (sApp (ty 2 true 16 [.int .i64 0, .int .i64 0]) (X 23) (X 24)),
  o 6 (sMov (X 25))])
 (.ret))
 (.skip)))
 (.seq (.seq (.reg [o 26 (sMov (X 8)),
  o 27 (sMov (X 7)),
  o 28 (sBin .add .none (X 26) (X 27)),
  o 29 (sMov (X 0)),
  o 30 (sCapSl (X 29)),
  o 31 (sBin .gtr .none (X 28) (X 30))])
 (.ite (X 31)
 (.seq (.reg [o 32 (sMov (X 0)),
  o 33 (sMov (X 1)),
  o 34 (sSliceS 2 (X 32) none (some (X 33)) none),
  o 35 (sMov (X 8)),
  o 36 (sMov (X 7)),
  o 37 (sBin .add .none (X 35) (X 36)),
  o 38 (sMov (X 1)),
  o 39 (sBin .sub .none (X 37) (X 38)),
  o 40 (sAppN (ty 2 true 16 [.int .i64 0, .int .i64 0]) (X 34) (X 39)),
  o 9 (sMov (X 40))])
 (.seq (.reg [o 41 (sMov (X 9)),
  o 42 (sMov (X 1)),
  o 43 (sSliceS 2 (X 41) (some (X 42)) none none),
  o 44 (sMov (X 2)),
  o 45 (sCopy (ty 2 true 16 [.int .i64 0, .int .i64 0]) (X 43) (X 44))])
 (.seq (.drw [.op (o 46 (sMov (X 9))),
  .op (o 47 (sMov (X 1))),
  .op (o 48 (sMov (X 7))),
  .op (o 49 (sBin .add .none (X 47) (X 48))),
  .op (o 50 (sSliceS 2 (X 46) (some (X 49)) none none)),
  .op (o 51 (sMov (X 0))),
  .op (o 52 (sMov (X 1))),
  .op (o 53 (sSliceS 2 (X 51) (some (X 52)) none none)),
  .hv 255 (o 54 (sCopy (ty 2 true 16 [.int .i64 0, .int .i64 0]) (X 50) (X 53)))])
 (.seq (.reg [o 55 (sMov (X 9)),
  o 6 (sMov (X 55))])
 (.ret)))))
 (.skip)))
 (.seq (.reg [o 56 (sMov (X 0)),
  o 57 (sMov (X 8)),
  o 58 (sMov (X 7)),
  o 59 (sBin .add .none (X 57) (X 58)),
  o 60 (sSliceS 2 (X 56) none (some (X 59)) none),
  o 0 (sMov (X 60))])
 (.seq (.seq (.reg [o 61 (sMov (X 2)),
  o 62 (sMov (X 0)),
  o 63 (sMov (X 1)),
  o 64 (sMov (X 7)),
  o 65 (sBin .add .none (X 63) (X 64)),
  o 66 (sSliceS 2 (X 62) (some (X 65)) none none),
  o 67 (sCall E 25 [(X 61), (X 66)]),
  o 68 (sUn .not (X 67))])
 (.ite (X 68)
 (.seq (.drw [.op (o 69 (sMov (X 0))),
  .op (o 70 (sMov (X 1))),
  .op (o 71 (sMov (X 7))),
  .op (o 72 (sBin .add .none (X 70) (X 71))),
  .op (o 73 (sSliceS 2 (X 69) (some (X 72)) none none)),
  .op (o 74 (sMov (X 0))),
  .op (o 75 (sMov (X 1))),
  .op (o 76 (sSliceS 2 (X 74) (some (X 75)) none none)),
  .hv 255 (o 77 (sCopy (ty 2 true 16 [.int .i64 0, .int .i64 0]) (X 73) (X 76)))])
 (.seq (.reg [o 78 (sMov (X 0)),
  o 79 (sMov (X 1)),
  o 80 (sSliceS 2 (X 78) (some (X 79)) none none),
  o 81 (sMov (X 2)),
  o 82 (sCopy (ty 2 true 16 [.int .i64 0, .int .i64 0]) (X 80) (X 81))])
 (.seq (.reg [o 83 (sMov (X 0)),
  o 6 (sMov (X 83))])
 (.ret))))
 (.skip)))
 (.seq (.reg [o 84 (sMov (X 0)),
  o 85 (sMov (X 8)),
  o 86 (sSliceS 2 (X 84) (some (X 85)) none none),
  o 87 (sMov (X 2)),
  o 88 (sCopy (ty 2 true 16 [.int .i64 0, .int .i64 0]) (X 86) (X 87))])
 (.seq (.reg [o 89 (sMov (X 0)),
  o 90 (sMov (X 1)),
  o 91 (sSliceS 2 (X 89) (some (X 90)) none none),
  o 92 (sMov (X 7)),
  o 93 (sCall E 26 [(X 91), (X 92)])])
 (.seq (.reg [o 94 (sMov (X 0)),
  o 6 (sMov (X 94))])
 (.ret))))))))))))
theorem d21 (E : Env) (args : T) (h : AHeap) : callBody prog E 21 args h = trim h (fin [.tmp 6] (runC E (b21 E) (args ++ List.replicate (95 - args.length) .undef) h)) :=
 body_tr (fn := Go.Proofs.Try.f21) tab21 (by kernel_rfl) (by rfl) (by kernel_rfl) (fun t h => by kernel_rfl) rfl args h
def tab22 : Nat → Cert := fun i => ⟨0, 0, 0, 0, 0, 0⟩
noncomputable def l22x0 (E : Env) : CT :=
 .seq (.reg [o 9 (sBin .lss .none (X 8) (X 7))])
 (.seq (.ite (X 9)
 (.skip)
 (.exit 0))
 (.seq (.block 1 (.seq (.reg [o 10 (sMov (X 8)),
  o 5 (sMov (X 10))])
 (.seq (.reg [o 11 (sMov (X 1)),
  o 12 (sMov (X 0)),
  o 13 (sMov (X 5)),
  o 14 (sIdxAddrS 2 (X 12) (X 13)),
  o 15 (sLoad 2 true (X 14)),
  o 16 (sCallV E (X 11) [(X 15)])])
 (.ite (X 16)
 (.seq (.reg [o 17 (sMov (X 5)),
  o 4 (sMov (X 17))])
 (.ret))
 (.skip)))))
 (.reg [o 18 (sBin .add .none (X 8) (K (.int .i64 1))),
  o 8 (sMov (X 18))])))
noncomputable def b22 (E : Env) : CT :=
 .seq (.reg [o 4 (sMov (K (.int .i64 0)))])
 (.seq (.seq (.reg [o 6 (sMov (X 0)),
  o 7 (sLenSl (X 6)),
  o 8 (sMov (K (.int .i64 0)))])
 (.block 0 (.loop (l22x0 E))))
 (.seq (.reg [o 4 (sMov (K (.int .i64 (-1))))])
 (.ret)))
theorem c22 (args : T) (h : AHeap) : (envL prog).call 22 args h = trim h (fin [.tmp 4] (runC (envL prog) (b22 (envL prog)) (args ++ List.replicate (19 - args.length) .undef) h)) :=
 call_tr (fn := Go.Proofs.Try.f22) tab22 (by kernel_rfl) (by rfl) (by kernel_rfl) (fun t h => by kernel_rfl) rfl args h
def tab23 : Nat → Cert := fun i => ⟨0, 0, 0, 0, 0, 0⟩
noncomputable def b23 (E : Env) : CT :=
 .seq (.reg [o 2 (sBox (X 0)),
  o 3 (sMov (K (.bool false)))])
 (.seq (.reg [o 4 (sFieldAddr 0 (X 2)),
  o 5 (sLoad 1 false (X 4)),
  o 6 (sLoad 1 false (X 1)),
  o 7 (sBin .eql .none (X 5) (X 6)),
  o 3 (sMov (X 7))])
 (.ret))
theorem c23 (args : T) (h : AHeap) : (envL prog).call 23 args h = trim h (fin [.tmp 3] (runC (envL prog) (b23 (envL prog)) (args ++ List.replicate (8 - args.length) .undef) h)) :=
 call_tr (fn := Go.Proofs.Try.f23) tab23 (by kernel_rfl) (by rfl) (by kernel_rfl) (fun t h => by kernel_rfl) rfl args h
def tab24 : Nat → Cert := fun i => ⟨0, 0, 0, 0, 0, 0⟩
noncomputable def l24x0 (E : Env) : CT :=
 .seq (.reg [o 9 (sBin .lss .none (X 8) (X 7))])
 (.seq (.ite (X 9)
 (.skip)
 (.exit 0))
 (.seq (.block 1 (.seq (.reg [o 10 (sMov (X 8)),
  o 5 (sMov (X 10))])
 (.seq (.reg [o 11 (sMov (X 1)),
  o 12 (sMov (X 0)),
  o 13 (sMov (X 5)),
  o 14 (sIdxAddrS 1 (X 12) (X 13)),
  o 15 (sLoad 1 false (X 14)),
  o 16 (sBin .eql .none (X 11) (X 15))])
 (.ite (X 16)
 (.seq (.reg [o 17 (sMov (X 5)),
  o 4 (sMov (X 17))])
 (.ret))
 (.skip)))))
 (.reg [o 18 (sBin .add .none (X 8) (K (.int .i64 1))),
  o 8 (sMov (X 18))])))
noncomputable def b24 (E : Env) : CT :=
 .seq (.reg [o 4 (sMov (K (.int .i64 0)))])
 (.seq (.seq (.reg [o 6 (sMov (X 0)),
  o 7 (sLenSl (X 6)),
  o 8 (sMov (K (.int .i64 0)))])
 (.block 0 (.loop (l24x0 E))))
 (.seq (.reg [o 4 (sMov (K (.int .i64 (-1))))])
 (.ret)))
theorem c24 (args : T) (h : AHeap) : (envL prog).call 24 args h = trim h (fin [.tmp 4] (runC (envL prog) (b24 (envL prog)) (args ++ List.replicate (19 - args.length) .undef) h)) :=
 call_tr (fn := Go.Proofs.Try.f24) tab24 (by kernel_rfl) (by rfl) (by kernel_rfl) (fun t h => by kernel_rfl) rfl args h
def tab26 : Nat → Cert := fun i => ⟨0, 0, 0, 0, 0, 0⟩
noncomputable def b26 (E : Env) : CT :=
 .reg [o 4 (sMov (X 0)),
  o 5 (sMov (X 0)),
  o 6 (sLenSl (X 5)),
  o 7 (sMov (X 1)),
  o 8 (sBin .sub .none (X 6) (X 7)),
  o 9 (sCall E 27 [(X 4), (X 8)])]
def tab27 : Nat → Cert := fun i => ⟨0, 0, 0, 0, 0, 0⟩
noncomputable def b27 (E : Env) : CT :=
 .seq (.reg [o 4 (sMov (X 0)),
  o 5 (sMov (X 1)),
  o 6 (sSliceS 2 (X 4) none (some (X 5)) none),
  o 7 (sCall E 28 [(X 6)])])
 (.seq (.reg [o 8 (sMov (X 0)),
  o 9 (sMov (X 1)),
  o 10 (sSliceS 2 (X 8) (some (X 9)) none none),
  o 11 (sCall E 28 [(X 10)])])
 (.reg [o 12 (sMov (X 0)),
  o 13 (sCall E 28 [(X 12)])]))
def tab28 : Nat → Cert := fun i => bif Nat.beq i 3 then ⟨16, 28, 57894719459027041039228457592296632997839216734824893010426242787938068856832, 57894719459764238329548227498075550650561006036747800846190911987956708278272, 454274202686737477100230534695774712502513948269849389049864162533032793141819789876856597036761096566259325779089164914285804817219585, 282433580415755630773185425421385536119557289084081792138567543612662221620134092496699646472603025737139006890884202511⟩ else ⟨0, 0, 0, 0, 0, 0⟩
noncomputable def l28x0 (E : Env) : CT :=
 .seq (.seq (.reg [o 7 (sMov (X 2)),
  o 8 (sMov (X 3)),
  o 9 (sBin .lss .none (X 7) (X 8))])
 (.ite (X 9)
 (.skip)
 (.exit 0)))
 (.seq (.block 1 (.drw [.op (o 14 (sMov (X 0))),
  .op (o 15 (sMov (X 2))),
  .op (o 16 (sMov (X 0))),
  .op (o 17 (sMov (X 3))),
  .op (o 18 (sMov (X 0))),
  .op (o 19 (sMov (X 3))),
  .op (o 20 (sIdxAddrS 2 (X 18) (X 19))),
  .op (o 21 (sLoad 2 true (X 20))),
  .op (o 22 (sMov (X 0))),
  .op (o 23 (sMov (X 2))),
  .op (o 24 (sIdxAddrS 2 (X 22) (X 23))),
  .op (o 25 (sLoad 2 true (X 24))),
  .op (o 26 (sIdxAddrS 2 (X 14) (X 15))),
  .hv 8179 (u (sStore 2 (X 26) (X 21))),
  .op (o 27 (sIdxAddrS 2 (X 16) (X 17))),
  .hv 32767 (u (sStore 2 (X 27) (X 25)))]))
 (.reg [o 10 (sMov (X 2)),
  o 11 (sBin .add .none (X 10) (K (.int .i64 1))),
  o 12 (sMov (X 3)),
  o 13 (sBin .sub .none (X 12) (K (.int .i64 1))),
  o 2 (sMov (X 11)),
  o 3 (sMov (X 13))]))
noncomputable def b28 (E : Env) : CT :=
 .seq (.reg [o 4 (sMov (X 0)),
  o 5 (sLenSl (X 4)),
  o 6 (sBin .sub .none (X 5) (K (.int .i64 1))),
  o 2 (sMov (K (.int .i64 0))),
  o 3 (sMov (X 6))])
 (.block 0 (.loop (l28x0 E)))
end Go.Proofs.Ytekceggcbpeoeaa.G10
