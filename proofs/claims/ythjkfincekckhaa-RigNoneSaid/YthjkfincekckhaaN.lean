/- What the functions that RigNone reaches answer, for every argument. No condition but those in each statement. -/
import Derived.Test.YthjkfincekckhaaE4
import Derived.Test.YthjkfincekckhaaProg
set_option maxRecDepth 100000
set_option linter.unusedVariables false
namespace Go.Proofs.Ythjkfincekckhaa.G04
open Go Go.Proofs.Ythjkfincekckhaa.Eng
noncomputable abbrev prog : Program := Go.Proofs.Try.prog

/-! f5: revetment/revetmentlaw04.RigNone -/
def tab5 : Nat → Cert := fun i => bif Nat.beq i 7 then ⟨47, 76, 47231357286853222174377176640835970746140688786309844716899738445234368679844592908802960009960648763269695260429917115211354199757704726034377065499692746250540717865579136778096903206773844885700561789102446823712212778510498677964080652319353005586275824958100245131460169948246418512607249123939534802688856616213465145317790445209572837418112259476130007754360341486838993188883762093329750596346663941062750279656537858541951625176132874767348223864542706233109182158016333185049840340715247534517385349030837866609701830508670317346002575725920935461749134963960470872675975241282779940402305357576127097028258493269289241702331936257019824002272630660923392, 47231357286853264124249451966138610854904056666223690951879356504629437396956266560747885144712364797148900927960528510073578677699009077988060927731886701456980942100673166214755766755714854536001569400388150527174081840501777280727653098086060052897709504334105843988322859323353157732800713743568240607875532368246610641755433806911667676142686360797153626297343255913637432847448515823675716714859163122103962096225206716643319746892192833871949211959563663444613874680636819050071145307470827816888807021616626492289312973597443643457468238254793267830151685017719846573322687354629345841387170753884304124951246030891383280491054296289047842920727193384386560, 9508554850410568696839536211132269236853626311172319250242468212595119131994967738870433193303756105445828315828784402579217116785179808275677252488273396983251205498188063107750704973616434028498257461973787697887127692292109334833544144459604034988123219517577846747062491383815704625449902079966941497405120108303763513112681838538221003111596694890507107011375306907661078860168904313199369954017324287432278727904678029044074355733406261748927292204752356668443582578071326731525798281201547984607969896005952243473637202131906706177541750632372536111470073745321084039871754961113474826923838300980041999990550677379373161930438078812964557515213621665402472719115038421836608827875432854511408836700606741224755046959467062899181626651636978206289729142389240168300930249740200170672132093363586028673709092443739023841752926053907831796868829470948693706278182807467871695026760790155500682870419165575585397919799996435208598303010843432902457316851483850022751405961772881323914885256347695492651409430508420725320391306159580194772634516233394497579762833682333712, 755068053663040958038285551309204789584491668468906972074392391509213970234513863178096373776171641775610933442834818840887511826981043969893905474659407933680387656397808483593218452463790404795909662185066461268723288919000132067836228632544269296513769541115100350050045841368499195577493751808134813039006436477817376186090009243676455316357951277207008440010312011546734210969450952975534887169469182240335484644474831389945638571209306861610961102066169174770862780868077273789334774281148301301172941309418074470424693736181143749070360307456586722692135357486408906101440158281603977843193150243564880272605871747112173563666505825247532600133548857305063276520448100254882861190030609278736837705963825212395744177972876280065434388078400309111753491186637533967857354806376141671913876935199837557250871624688808527778807811308562682363152040024940894051173672196293809146025457369469856071393966927288751598654986442906395228389475271343405127578659536773673245067405753857561526226978036119439628644306155802085161101762024579319851791679519⟩ else ⟨0, 0, 0, 0, 0, 0⟩
noncomputable def b5 (E : Env) : CT :=
  .seq (.reg [o 1 (sBox (X 0)),
    o 2 (sMov (K (.bool false)))])
  (.seq (.seq (.reg [o 6 (sLoad 6 true (X 1)),
    o 7 (sBuildSl 6 1 [.int .i64 0, .int .i64 0, .int .i64 0, .int .u8 0, .nilSl, .nilSl] [(0, 6, (X 6))]),
    o 8 (sCall E 8 [(X 7)]),
    o 9 (sUn .not (X 8))])
  (.ite (X 9)
  (.seq (.reg [o 10 (sCall E 9 []),
    o 2 (sMov (X 10))])
  (.ret))
  (.skip)))
  (.seq (.reg [o 3 (sMov (K (.nilPtr)))])
  (.seq (.reg [o 11 (sMov (X 3)),
    o 12 (sFieldAddr 2 (X 1)),
    o 13 (sLoad 1 false (X 12)),
    o 14 (sCall E 21 [(X 11), (X 13)])])
  (.seq (.reg [o 15 (sMov (X 3)),
    o 16 (sFieldAddr 4 (X 1)),
    o 17 (sLoad 1 false (X 16)),
    o 18 (sFieldAddr 5 (X 1)),
    o 19 (sLoad 1 false (X 18)),
    o 20 (sCall E 19 [(X 15), (X 17), (X 19)])])
  (.seq (.reg [o 22 (sMov (X 3)),
    o 23 (sFieldAddr 1 (X 1)),
    o 24 (sLoad 1 false (X 23)),
    o 25 (sFieldAddr 2 (X 1)),
    o 26 (sLoad 1 false (X 25)),
    o 27 (sCall E 15 [(X 22), (X 24), (X 26)]),
    o 21 (sMov (X 27)),
    o 28 (sExtract (X 21) 0),
    o 29 (sExtract (X 21) 1),
    o 4 (sAlloc (rep 64 (.int .u8 0))),
    u (sStore 64 (X 4) (X 28)),
    o 5 (sMov (X 29))])
  (.seq (.drw [.op (o 30 (sLoad 64 true (X 4))),
    .op (o 31 (sBuild (rep 64 (.int .u8 0)) [])),
    .op (o 32 (sBin .eql (.flat 64) (X 30) (X 31))),
    .op (o 33 (sMov (X 32))),
    .op (og 33 true 34 (sMov (X 5))),
    .op (og 33 true 35 (sBin .eql .none (X 34) (K (.int .i64 1)))),
    .op (o 36 (sPick (X 33) (X 35) (K (.bool false)))),
    .op (o 37 (sMov (X 36))),
    .op (og 37 true 38 (sMov (X 3))),
    .op (og 37 true 39 (sFieldAddr 1 (X 1))),
    .rd 10 (og 37 true 40 (sLoad 1 false (X 39))),
    .op (og 37 true 41 (sFieldAddr 2 (X 1))),
    .rd 12 (og 37 true 42 (sLoad 1 false (X 41))),
    .op (og 37 true 43 (sFieldAddr 3 (X 1))),
    .op (og 37 true 44 (sLoad 1 false (X 43))),
    .hv 24831 (og 37 true 45 (sCall E 13 [(X 44)])),
    .hv 65535 (og 37 true 46 (sCall E 12 [(X 38), (X 40), (X 42), (X 45)])),
    .op (og 37 true 47 (sBin .eql .none (X 46) (K (.int .i64 1)))),
    .op (o 48 (sPick (X 37) (X 47) (K (.bool false)))),
    .op (o 49 (sMov (X 48))),
    .op (og 49 true 50 (sMov (X 3))),
    .op (og 49 true 51 (sFieldAddr 1 (X 1))),
    .op (og 49 true 52 (sLoad 1 false (X 51))),
    .hv 8388607 (og 49 true 53 (sCall E 17 [(X 50), (X 52)])),
    .op (og 49 true 54 (sBin .eql .none (X 53) (K (.int .i64 1)))),
    .op (o 55 (sPick (X 49) (X 54) (K (.bool false)))),
    .op (o 56 (sMov (X 55))),
    .op (og 56 true 57 (sMov (X 3))),
    .hv 268435455 (og 56 true 58 (sCall E 22 [(X 57)])),
    .op (og 56 true 59 (sUn .not (X 58))),
    .op (o 60 (sPick (X 56) (X 59) (K (.bool false)))),
    .op (o 61 (sMov (X 60))),
    .op (og 61 true 62 (sMov (X 3))),
    .op (og 61 true 63 (sFieldAddr 1 (X 1))),
    .op (og 61 true 64 (sLoad 1 false (X 63))),
    .hv 34359738367 (og 61 true 65 (sCall E 24 [(X 62), (X 64)])),
    .op (og 61 true 66 (sBin .eql .none (X 65) (K (.int .i64 0)))),
    .op (o 67 (sPick (X 61) (X 66) (K (.bool false)))),
    .op (o 68 (sMov (X 67))),
    .op (og 68 true 69 (sMov (X 3))),
    .hv 1099511627775 (og 68 true 70 (sCall E 23 [(X 69)])),
    .op (og 68 true 71 (sBin .eql .none (X 70) (K (.int .i64 0)))),
    .op (o 72 (sPick (X 68) (X 71) (K (.bool false)))),
    .op (o 73 (sMov (X 72))),
    .hv 17592186044415 (og 73 true 74 (sCall E 9 [])),
    .op (o 75 (sPick (X 73) (X 74) (K (.bool false)))),
    .op (o 2 (sMov (X 75)))])
  (.ret)))))))
theorem c5 (args : T) (h : AHeap) : (envL prog).call 5 args h = trim h (fin [.tmp 2] (runC (envL prog) (b5 (envL prog)) (args ++ List.replicate (76 - args.length) .undef) h)) :=
  call_tr (fn := Go.Proofs.Try.f5) tab5 (by kernel_rfl) (by rfl) (by kernel_rfl) (fun t h => by kernel_rfl) rfl args h
theorem d5 (E : Env) (args : T) (h : AHeap) : callBody prog E 5 args h = trim h (fin [.tmp 2] (runC E (b5 E) (args ++ List.replicate (76 - args.length) .undef) h)) :=
  body_tr (fn := Go.Proofs.Try.f5) tab5 (by kernel_rfl) (by rfl) (by kernel_rfl) (fun t h => by kernel_rfl) rfl args h
/-! f8: revetment/revetmentlaw04.fair -/
def tab8 : Nat → Cert := fun i => ⟨0, 0, 0, 0, 0, 0⟩
noncomputable def l8x0 (E : Env) : CT :=
  .seq (.seq (.reg [o 4 (sMov (X 3)),
    o 5 (sMov (X 0)),
    o 6 (sLenSl (X 5)),
    o 7 (sBin .lss .none (X 4) (X 6))])
  (.ite (X 7)
  (.skip)
  (.exit 0)))
  (.seq (.block 1 (.seq (.reg [o 10 (sMov (X 0)),
    o 11 (sMov (X 3)),
    o 12 (sIdxAddrS 6 (X 10) (X 11)),
    o 13 (sFieldAddr 4 (X 12)),
    o 14 (sLoad 1 false (X 13)),
    o 15 (sLenSl (X 14)),
    o 16 (sBin .gtr .none (X 15) (K (.int .i64 300))),
    o 17 (sMov (X 16)),
    og 17 false 18 (sMov (X 0)),
    og 17 false 19 (sMov (X 3)),
    og 17 false 20 (sIdxAddrS 6 (X 18) (X 19)),
    og 17 false 21 (sFieldAddr 5 (X 20)),
    og 17 false 22 (sLoad 1 false (X 21)),
    og 17 false 23 (sLenSl (X 22)),
    og 17 false 24 (sBin .gtr .none (X 23) (K (.int .i64 300))),
    o 25 (sPick (X 17) (K (.bool true)) (X 24))])
  (.ite (X 25)
  (.seq (.reg [o 2 (sMov (K (.bool false)))])
  (.ret))
  (.skip))))
  (.reg [o 8 (sMov (X 3)),
    o 9 (sBin .add .none (X 8) (K (.int .i64 1))),
    o 3 (sMov (X 9))]))
noncomputable def b8 (E : Env) : CT :=
  .seq (.reg [o 2 (sMov (K (.bool false)))])
  (.seq (.seq (.reg [o 3 (sMov (K (.int .i64 0)))])
  (.block 0 (.loop (l8x0 E))))
  (.seq (.reg [o 26 (sMov (X 0)),
    o 27 (sLenSl (X 26)),
    o 28 (sBin .leq .none (X 27) (K (.int .i64 200))),
    o 2 (sMov (X 28))])
  (.ret)))
theorem c8 (args : T) (h : AHeap) : (envL prog).call 8 args h = trim h (fin [.tmp 2] (runC (envL prog) (b8 (envL prog)) (args ++ List.replicate (29 - args.length) .undef) h)) :=
  call_tr (fn := Go.Proofs.Try.f8) tab8 (by kernel_rfl) (by rfl) (by kernel_rfl) (fun t h => by kernel_rfl) rfl args h
/-! f12: (*revetment/rig.Rig).Write -/
def tab12 : Nat → Cert := fun i => ⟨0, 0, 0, 0, 0, 0⟩
noncomputable def b12 (E : Env) : CT :=
  .seq (.reg [o 7 (sBox (X 3)),
    o 8 (sMov (K (.int .i64 0)))])
  (.seq (.reg [o 11 (sMov (X 0)),
    o 12 (sMov (X 1)),
    o 13 (sCall E 28 [(X 11), (X 12)]),
    o 9 (sMov (X 13))])
  (.seq (.seq (.reg [o 14 (sMov (X 2)),
    o 15 (sBin .lss .none (X 14) (K (.int .i64 0))),
    o 16 (sMov (X 15)),
    og 16 false 17 (sMov (X 2)),
    og 16 false 18 (sMov (X 9)),
    og 16 false 19 (sCall E 29 [(X 18)]),
    og 16 false 20 (sBin .geq .none (X 17) (X 19)),
    o 21 (sPick (X 16) (K (.bool true)) (X 20))])
  (.ite (X 21)
  (.seq (.reg [o 8 (sMov (K (.int .i64 1)))])
  (.ret))
  (.skip)))
  (.seq (.seq (.reg [o 22 (sMov (X 0)),
    o 23 (sCall E 30 [(X 22)]),
    o 10 (sMov (X 23))])
  (.seq (.reg [o 24 (sMov (X 10)),
    o 25 (sBin .neq .none (X 24) (K (.int .i64 0)))])
  (.ite (X 25)
  (.seq (.reg [o 26 (sMov (X 10)),
    o 8 (sMov (X 26))])
  (.ret))
  (.skip))))
  (.seq (.reg [o 27 (sMov (X 9)),
    o 28 (sMov (X 2)),
    o 29 (sLoad 64 true (X 7)),
    o 30 (sCall E 31 [(X 27), (X 28), (X 29)]),
    o 8 (sMov (X 30))])
  (.ret)))))
theorem c12 (args : T) (h : AHeap) : (envL prog).call 12 args h = trim h (fin [.tmp 8] (runC (envL prog) (b12 (envL prog)) (args ++ List.replicate (31 - args.length) .undef) h)) :=
  call_tr (fn := Go.Proofs.Try.f12) tab12 (by kernel_rfl) (by rfl) (by kernel_rfl) (fun t h => by kernel_rfl) rfl args h
/-! f13: revetment/revetmentkeep.Fill -/
def tab13 : Nat → Cert := fun i => ⟨0, 0, 0, 0, 0, 0⟩
noncomputable def l13x0 (E : Env) : CT :=
  .seq (.seq (.reg [o 5 (sMov (X 4)),
    o 6 (sBin .lss .none (X 5) (K (.int .i64 64)))])
  (.ite (X 6)
  (.skip)
  (.exit 0)))
  (.seq (.block 1 (.reg [o 9 (sMov (X 4)),
    o 10 (sMov (X 0)),
    o 11 (sIdxAddrA 64 1 (X 3) (X 9)),
    u (sStore 1 (X 11) (X 10))]))
  (.reg [o 7 (sMov (X 4)),
    o 8 (sBin .add .none (X 7) (K (.int .i64 1))),
    o 4 (sMov (X 8))]))
noncomputable def b13 (E : Env) : CT :=
  .seq (.reg [o 2 (sAlloc (rep 64 (.int .u8 0)))])
  (.seq (.reg [o 3 (sAlloc (rep 64 (.int .u8 0)))])
  (.seq (.seq (.reg [o 4 (sMov (K (.int .i64 0)))])
  (.block 0 (.loop (l13x0 E))))
  (.seq (.reg [o 12 (sLoad 64 true (X 3)),
    u (sStore 64 (X 2) (X 12))])
  (.ret))))
theorem c13 (args : T) (h : AHeap) : (envL prog).call 13 args h = trim h (fin [.cell 2 64 true] (runC (envL prog) (b13 (envL prog)) (args ++ List.replicate (13 - args.length) .undef) h)) :=
  call_tr (fn := Go.Proofs.Try.f13) tab13 (by kernel_rfl) (by rfl) (by kernel_rfl) (fun t h => by kernel_rfl) rfl args h
/-! f15: (*revetment/rig.Rig).Read -/
def tab15 : Nat → Cert := fun i => ⟨0, 0, 0, 0, 0, 0⟩
noncomputable def b15 (E : Env) : CT :=
  .seq (.reg [o 6 (sAlloc (rep 64 (.int .u8 0))),
    o 7 (sMov (K (.int .i64 0)))])
  (.seq (.reg [o 9 (sMov (X 0)),
    o 10 (sMov (X 1)),
    o 11 (sCall E 28 [(X 9), (X 10)]),
    o 8 (sMov (X 11))])
  (.seq (.block 0 (.seq (.reg [o 13 (sMov (X 2)),
    o 14 (sBin .lss .none (X 13) (K (.int .i64 0))),
    o 15 (sMov (X 14)),
    og 15 false 16 (sMov (X 2)),
    og 15 false 17 (sMov (X 8)),
    og 15 false 18 (sCall E 29 [(X 17)]),
    og 15 false 19 (sBin .geq .none (X 16) (X 18)),
    o 20 (sPick (X 15) (K (.bool true)) (X 19)),
    o 12 (sMov (X 20))])
  (.ite (X 12)
  (.seq (.reg [o 21 (sBuild (rep 64 (.int .u8 0)) []),
    u (sStore 64 (X 6) (X 21)),
    o 7 (sMov (K (.int .i64 1)))])
  (.ret))
  (.seq (.reg [o 23 (sMov (X 0)),
    o 24 (sNil (X 23)),
    o 25 (sFieldAddr 3 (X 24)),
    o 26 (sLoad 1 false (X 25)),
    o 22 (sMov (X 26))])
  (.ite (X 22)
  (.seq (.reg [o 27 (sBuild (rep 64 (.int .u8 0)) []),
    u (sStore 64 (X 6) (X 27)),
    o 7 (sMov (K (.int .i64 14)))])
  (.ret))
  (.skip))))))
  (.seq (.reg [o 28 (sMov (X 8)),
    o 29 (sMov (X 2)),
    o 30 (sCall E 35 [(X 28), (X 29)]),
    o 31 (sExtract (X 30) 0),
    o 32 (sExtract (X 30) 1),
    u (sStore 64 (X 6) (X 31)),
    o 7 (sMov (X 32))])
  (.ret))))
theorem c15 (args : T) (h : AHeap) : (envL prog).call 15 args h = trim h (fin [.cell 6 64 true, .tmp 7] (runC (envL prog) (b15 (envL prog)) (args ++ List.replicate (33 - args.length) .undef) h)) :=
  call_tr (fn := Go.Proofs.Try.f15) tab15 (by kernel_rfl) (by rfl) (by kernel_rfl) (fun t h => by kernel_rfl) rfl args h
/-! f17: (*revetment/rig.Rig).Flush -/
def tab17 : Nat → Cert := fun i => ⟨0, 0, 0, 0, 0, 0⟩
noncomputable def b17 (E : Env) : CT :=
  .seq (.reg [o 4 (sMov (K (.int .i64 0)))])
  (.seq (.reg [o 7 (sMov (X 0)),
    o 8 (sMov (X 1)),
    o 9 (sCall E 28 [(X 7), (X 8)]),
    o 5 (sMov (X 9))])
  (.seq (.seq (.reg [o 10 (sMov (X 5)),
    o 11 (sBin .eql .ptr (X 10) (K (.nilPtr)))])
  (.ite (X 11)
  (.seq (.reg [o 4 (sMov (K (.int .i64 1)))])
  (.ret))
  (.skip)))
  (.seq (.seq (.reg [o 12 (sMov (X 0)),
    o 13 (sCall E 30 [(X 12)]),
    o 6 (sMov (X 13))])
  (.seq (.reg [o 14 (sMov (X 6)),
    o 15 (sBin .neq .none (X 14) (K (.int .i64 0)))])
  (.ite (X 15)
  (.seq (.reg [o 16 (sMov (X 6)),
    o 4 (sMov (X 16))])
  (.ret))
  (.skip))))
  (.seq (.reg [o 17 (sMov (X 5)),
    o 18 (sCall E 37 [(X 17)]),
    o 4 (sMov (X 18))])
  (.ret)))))
theorem c17 (args : T) (h : AHeap) : (envL prog).call 17 args h = trim h (fin [.tmp 4] (runC (envL prog) (b17 (envL prog)) (args ++ List.replicate (19 - args.length) .undef) h)) :=
  call_tr (fn := Go.Proofs.Try.f17) tab17 (by kernel_rfl) (by rfl) (by kernel_rfl) (fun t h => by kernel_rfl) rfl args h
/-! f19: (*revetment/rig.Rig).Crash -/
def tab19 : Nat → Cert := fun i => ⟨0, 0, 0, 0, 0, 0⟩
noncomputable def aq19x0 (E : Env) : CT :=
  .seq (.reg [o 7 (sMov (X 14))])
  (.reg [o 8 (sMov (X 15))])
noncomputable def bq19x0 (E : Env) : CT :=
  .block 1 (.reg [o 16 (sMov (X 8)),
    o 17 (sMov (X 7)),
    o 18 (sIdxAddrA 2 1 (X 6) (X 17)),
    o 19 (sLoad 1 false (X 18)),
    o 20 (sCall E 40 [(X 16), (X 19)])])
noncomputable def kaq19x0 : Code := (nthRange Go.Proofs.Try.f19 0).1
noncomputable def kbq19x0 : Code := (nthRange Go.Proofs.Try.f19 0).2
theorem eaq19x0 (E : Env) (t : T) (h : AHeap) : evalCode prog E kaq19x0 t h = runC E (aq19x0 E) t h := code_tr tab19 (by kernel_rfl) t h
theorem ebq19x0 (E : Env) (t : T) (h : AHeap) : evalCode prog E kbq19x0 t h = runC E (bq19x0 E) t h := code_tr tab19 (by kernel_rfl) t h
noncomputable def b19 (E : Env) : CT :=
  .seq (.reg [o 9 (sMov (X 1)),
    o 10 (sMov (X 2)),
    o 11 (sBuild [.nilSl, .nilSl] [(0, 1, (X 9)), (1, 1, (X 10))]),
    o 6 (sAlloc [.nilSl, .nilSl]),
    u (sStore 2 (X 6) (X 11))])
  (.seq (.seq (.reg [o 12 (sMov (X 0)),
    o 13 (sCall E 39 [(X 12)])])
  (.block 0 (.range (X 13) [14, 15] kaq19x0 kbq19x0)))
  (.seq (.reg [o 21 (sMov (X 0)),
    o 22 (sBin .neq .ptr (X 21) (K (.nilPtr)))])
  (.ite (X 22)
  (.reg [o 23 (sMov (X 0)),
    o 24 (sMov (X 0)),
    o 25 (sNil (X 23)),
    o 26 (sFieldAddr 2 (X 25)),
    u (sStore 1 (X 26) (K (.int .i64 (-1)))),
    o 27 (sNil (X 24)),
    o 28 (sFieldAddr 3 (X 27)),
    u (sStore 1 (X 28) (K (.bool false)))])
  (.skip))))
theorem c19 (args : T) (h : AHeap) : (envL prog).call 19 args h = trim h (fin [] (runC (envL prog) (b19 (envL prog)) (args ++ List.replicate (29 - args.length) .undef) h)) :=
  call_tr (fn := Go.Proofs.Try.f19) tab19 (by kernel_rfl) (by rfl) (by kernel_rfl) (fun t h => by kernel_rfl) rfl args h
/-! f21: (*revetment/rig.Rig).Arm -/
def tab21 : Nat → Cert := fun i => ⟨0, 0, 0, 0, 0, 0⟩
noncomputable def b21 (E : Env) : CT :=
  .seq (.reg [o 4 (sMov (X 0)),
    o 5 (sBin .neq .ptr (X 4) (K (.nilPtr)))])
  (.ite (X 5)
  (.reg [o 6 (sMov (X 0)),
    o 7 (sMov (X 1)),
    o 8 (sMax [(X 7), (K (.int .i64 (-1)))]),
    o 9 (sNil (X 6)),
    o 10 (sFieldAddr 2 (X 9)),
    u (sStore 1 (X 10) (X 8))])
  (.skip))
theorem c21 (args : T) (h : AHeap) : (envL prog).call 21 args h = trim h (fin [] (runC (envL prog) (b21 (envL prog)) (args ++ List.replicate (11 - args.length) .undef) h)) :=
  call_tr (fn := Go.Proofs.Try.f21) tab21 (by kernel_rfl) (by rfl) (by kernel_rfl) (fun t h => by kernel_rfl) rfl args h
/-! f22: (*revetment/rig.Rig).Down -/
def tab22 : Nat → Cert := fun i => ⟨0, 0, 0, 0, 0, 0⟩
noncomputable def b22 (E : Env) : CT :=
  .seq (.reg [o 2 (sMov (K (.bool false)))])
  (.seq (.reg [o 3 (sMov (X 0)),
    o 4 (sBin .neq .ptr (X 3) (K (.nilPtr))),
    o 5 (sMov (X 4)),
    og 5 true 6 (sMov (X 0)),
    og 5 true 7 (sNil (X 6)),
    og 5 true 8 (sFieldAddr 3 (X 7)),
    og 5 true 9 (sLoad 1 false (X 8)),
    o 10 (sPick (X 5) (X 9) (K (.bool false))),
    o 2 (sMov (X 10))])
  (.ret))
theorem c22 (args : T) (h : AHeap) : (envL prog).call 22 args h = trim h (fin [.tmp 2] (runC (envL prog) (b22 (envL prog)) (args ++ List.replicate (11 - args.length) .undef) h)) :=
  call_tr (fn := Go.Proofs.Try.f22) tab22 (by kernel_rfl) (by rfl) (by kernel_rfl) (fun t h => by kernel_rfl) rfl args h
/-! f23: (*revetment/rig.Rig).Done -/
def tab23 : Nat → Cert := fun i => ⟨0, 0, 0, 0, 0, 0⟩
noncomputable def b23 (E : Env) : CT :=
  .seq (.reg [o 2 (sMov (K (.int .i64 0)))])
  (.seq (.seq (.reg [o 3 (sMov (X 0)),
    o 4 (sBin .eql .ptr (X 3) (K (.nilPtr)))])
  (.ite (X 4)
  (.seq (.reg [o 2 (sMov (K (.int .i64 0)))])
  (.ret))
  (.skip)))
  (.seq (.reg [o 5 (sMov (X 0)),
    o 6 (sNil (X 5)),
    o 7 (sFieldAddr 4 (X 6)),
    o 8 (sLoad 1 false (X 7)),
    o 2 (sMov (X 8))])
  (.ret)))
theorem c23 (args : T) (h : AHeap) : (envL prog).call 23 args h = trim h (fin [.tmp 2] (runC (envL prog) (b23 (envL prog)) (args ++ List.replicate (9 - args.length) .undef) h)) :=
  call_tr (fn := Go.Proofs.Try.f23) tab23 (by kernel_rfl) (by rfl) (by kernel_rfl) (fun t h => by kernel_rfl) rfl args h
/-! f24: (*revetment/rig.Rig).Len -/
def tab24 : Nat → Cert := fun i => ⟨0, 0, 0, 0, 0, 0⟩
noncomputable def b24 (E : Env) : CT :=
  .seq (.reg [o 4 (sMov (K (.int .i64 0)))])
  (.seq (.reg [o 5 (sMov (X 0)),
    o 6 (sMov (X 1)),
    o 7 (sCall E 28 [(X 5), (X 6)]),
    o 8 (sCall E 29 [(X 7)]),
    o 4 (sMov (X 8))])
  (.ret))
theorem c24 (args : T) (h : AHeap) : (envL prog).call 24 args h = trim h (fin [.tmp 4] (runC (envL prog) (b24 (envL prog)) (args ++ List.replicate (9 - args.length) .undef) h)) :=
  call_tr (fn := Go.Proofs.Try.f24) tab24 (by kernel_rfl) (by rfl) (by kernel_rfl) (fun t h => by kernel_rfl) rfl args h
/-! f28: (*revetment/rig.Rig).disk -/
def tab28 : Nat → Cert := fun i => ⟨0, 0, 0, 0, 0, 0⟩
noncomputable def aq28x0 (E : Env) : CT :=
  .seq (.reg [o 5 (sMov (X 9))])
  (.reg [o 6 (sMov (X 10))])
noncomputable def bq28x0 (E : Env) : CT :=
  .block 1 (.seq (.reg [o 11 (sMov (X 5)),
    o 12 (sLoad 1 false (X 3)),
    o 13 (sBin .eql .none (X 11) (X 12))])
  (.ite (X 13)
  (.seq (.reg [o 14 (sMov (X 6)),
    u (sStore 1 (X 4) (X 14))])
  (.ret))
  (.skip)))
noncomputable def kaq28x0 : Code := (nthRange Go.Proofs.Try.f28 0).1
noncomputable def kbq28x0 : Code := (nthRange Go.Proofs.Try.f28 0).2
theorem eaq28x0 (E : Env) (t : T) (h : AHeap) : evalCode prog E kaq28x0 t h = runC E (aq28x0 E) t h := code_tr tab28 (by kernel_rfl) t h
theorem ebq28x0 (E : Env) (t : T) (h : AHeap) : evalCode prog E kbq28x0 t h = runC E (bq28x0 E) t h := code_tr tab28 (by kernel_rfl) t h
noncomputable def b28 (E : Env) : CT :=
  .seq (.reg [o 3 (sBox (X 1)),
    o 4 (sAlloc [.nilPtr])])
  (.seq (.seq (.reg [o 7 (sMov (X 0)),
    o 8 (sCall E 39 [(X 7)])])
  (.block 0 (.range (X 8) [9, 10] kaq28x0 kbq28x0)))
  (.seq (.reg [u (sStore 1 (X 4) (K (.nilPtr)))])
  (.ret)))
theorem c28 (args : T) (h : AHeap) : (envL prog).call 28 args h = trim h (fin [.cell 4 1 false] (runC (envL prog) (b28 (envL prog)) (args ++ List.replicate (15 - args.length) .undef) h)) :=
  call_tr (fn := Go.Proofs.Try.f28) tab28 (by kernel_rfl) (by rfl) (by kernel_rfl) (fun t h => by kernel_rfl) rfl args h
/-! f29: (*revetment/disk.Disk).Len -/
def tab29 : Nat → Cert := fun i => ⟨0, 0, 0, 0, 0, 0⟩
noncomputable def b29 (E : Env) : CT :=
  .seq (.reg [o 2 (sMov (K (.int .i64 0)))])
  (.seq (.seq (.reg [o 3 (sMov (X 0)),
    o 4 (sBin .eql .ptr (X 3) (K (.nilPtr)))])
  (.ite (X 4)
  (.seq (.reg [o 2 (sMov (K (.int .i64 0)))])
  (.ret))
  (.skip)))
  (.seq (.reg [o 5 (sMov (X 0)),
    o 6 (sNil (X 5)),
    o 7 (sFieldAddr 0 (X 6)),
    o 8 (sLoad 1 false (X 7)),
    o 9 (sLenSl (X 8)),
    o 2 (sMov (X 9))])
  (.ret)))
theorem c29 (args : T) (h : AHeap) : (envL prog).call 29 args h = trim h (fin [.tmp 2] (runC (envL prog) (b29 (envL prog)) (args ++ List.replicate (10 - args.length) .undef) h)) :=
  call_tr (fn := Go.Proofs.Try.f29) tab29 (by kernel_rfl) (by rfl) (by kernel_rfl) (fun t h => by kernel_rfl) rfl args h
/-! f30: (*revetment/rig.Rig).pass -/
def tab30 : Nat → Cert := fun i => ⟨0, 0, 0, 0, 0, 0⟩
noncomputable def b30 (E : Env) : CT :=
  .seq (.reg [o 2 (sMov (K (.int .i64 0)))])
  (.seq (.seq (.reg [o 3 (sMov (X 0)),
    o 4 (sNil (X 3)),
    o 5 (sFieldAddr 2 (X 4)),
    o 6 (sLoad 1 false (X 5)),
    o 7 (sBin .eql .none (X 6) (K (.int .i64 0)))])
  (.ite (X 7)
  (.reg [o 8 (sMov (X 0)),
    o 9 (sNil (X 8)),
    o 10 (sFieldAddr 3 (X 9)),
    u (sStore 1 (X 10) (K (.bool true)))])
  (.skip)))
  (.seq (.seq (.reg [o 11 (sMov (X 0)),
    o 12 (sNil (X 11)),
    o 13 (sFieldAddr 3 (X 12)),
    o 14 (sLoad 1 false (X 13))])
  (.ite (X 14)
  (.seq (.reg [o 2 (sMov (K (.int .i64 14)))])
  (.ret))
  (.skip)))
  (.seq (.seq (.reg [o 15 (sMov (X 0)),
    o 16 (sNil (X 15)),
    o 17 (sFieldAddr 2 (X 16)),
    o 18 (sLoad 1 false (X 17)),
    o 19 (sBin .gtr .none (X 18) (K (.int .i64 0)))])
  (.ite (X 19)
  (.reg [o 20 (sMov (X 0)),
    o 21 (sNil (X 20)),
    o 22 (sFieldAddr 2 (X 21)),
    o 23 (sLoad 1 false (X 22)),
    o 24 (sBin .sub .none (X 23) (K (.int .i64 1))),
    o 25 (sNil (X 20)),
    o 26 (sFieldAddr 2 (X 25)),
    u (sStore 1 (X 26) (X 24))])
  (.skip)))
  (.seq (.reg [o 27 (sMov (X 0)),
    o 28 (sNil (X 27)),
    o 29 (sFieldAddr 4 (X 28)),
    o 30 (sLoad 1 false (X 29)),
    o 31 (sBin .add .none (X 30) (K (.int .i64 1))),
    o 32 (sNil (X 27)),
    o 33 (sFieldAddr 4 (X 32)),
    u (sStore 1 (X 33) (X 31))])
  (.seq (.reg [o 2 (sMov (K (.int .i64 0)))])
  (.ret))))))
theorem c30 (args : T) (h : AHeap) : (envL prog).call 30 args h = trim h (fin [.tmp 2] (runC (envL prog) (b30 (envL prog)) (args ++ List.replicate (34 - args.length) .undef) h)) :=
  call_tr (fn := Go.Proofs.Try.f30) tab30 (by kernel_rfl) (by rfl) (by kernel_rfl) (fun t h => by kernel_rfl) rfl args h
/-! f31: (*revetment/disk.Disk).Write -/
def tab31 : Nat → Cert := fun i => bif Nat.beq i 4 then ⟨11, 23, 995946886283180634205326102042247168, 1328253885236360925894167555163029504, 9046257403024474642745891070367194849503528791528831247145346129545083748480, 4730826141736959139064151423576870844857888906453658510699790350⟩ else ⟨0, 0, 0, 0, 0, 0⟩
noncomputable def b31 (E : Env) : CT :=
  .seq (.reg [o 5 (sBox (X 2)),
    o 6 (sMov (K (.int .i64 0)))])
  (.seq (.reg [o 8 (sMov (X 0)),
    o 9 (sMov (X 1)),
    o 10 (sCall E 42 [(X 8), (X 9)]),
    o 7 (sMov (X 10))])
  (.seq (.seq (.reg [o 11 (sMov (X 7)),
    o 12 (sBin .eql .ptr (X 11) (K (.nilPtr)))])
  (.ite (X 12)
  (.seq (.reg [o 6 (sMov (K (.int .i64 1)))])
  (.ret))
  (.skip)))
  (.seq (.drw [.op (o 13 (sMov (X 7))),
    .op (o 14 (sMov (X 7))),
    .op (o 15 (sNil (X 14))),
    .op (o 16 (sFieldAddr 64 (X 15))),
    .op (o 17 (sLoad 1 false (X 16))),
    .op (o 18 (sLoad 64 true (X 5))),
    .op (o 19 (sBuildSl 64 1 (rep 64 (.int .u8 0)) [(0, 64, (X 18))])),
    .hv 126 (o 20 (sApp (ty 64 true 64 (rep 64 (.int .u8 0))) (X 17) (X 19))),
    .op (o 21 (sNil (X 13))),
    .op (o 22 (sFieldAddr 64 (X 21))),
    .hv 1023 (u (sStore 1 (X 22) (X 20)))])
  (.seq (.reg [o 6 (sMov (K (.int .i64 0)))])
  (.ret)))))
theorem c31 (args : T) (h : AHeap) : (envL prog).call 31 args h = trim h (fin [.tmp 6] (runC (envL prog) (b31 (envL prog)) (args ++ List.replicate (23 - args.length) .undef) h)) :=
  call_tr (fn := Go.Proofs.Try.f31) tab31 (by kernel_rfl) (by rfl) (by kernel_rfl) (fun t h => by kernel_rfl) rfl args h
/-! f35: (*revetment/disk.Disk).Read -/
def tab35 : Nat → Cert := fun i => ⟨0, 0, 0, 0, 0, 0⟩
noncomputable def b35 (E : Env) : CT :=
  .seq (.reg [o 4 (sAlloc (rep 64 (.int .u8 0))),
    o 5 (sMov (K (.int .i64 0)))])
  (.seq (.reg [o 7 (sMov (X 0)),
    o 8 (sMov (X 1)),
    o 9 (sCall E 42 [(X 7), (X 8)]),
    o 6 (sMov (X 9))])
  (.seq (.seq (.reg [o 10 (sMov (X 6)),
    o 11 (sBin .eql .ptr (X 10) (K (.nilPtr)))])
  (.ite (X 11)
  (.seq (.reg [o 12 (sBuild (rep 64 (.int .u8 0)) []),
    u (sStore 64 (X 4) (X 12)),
    o 5 (sMov (K (.int .i64 1)))])
  (.ret))
  (.skip)))
  (.seq (.reg [o 13 (sMov (X 6)),
    o 14 (sCall E 44 [(X 13)]),
    u (sStore 64 (X 4) (X 14)),
    o 5 (sMov (K (.int .i64 0)))])
  (.ret))))
theorem c35 (args : T) (h : AHeap) : (envL prog).call 35 args h = trim h (fin [.cell 4 64 true, .tmp 5] (runC (envL prog) (b35 (envL prog)) (args ++ List.replicate (15 - args.length) .undef) h)) :=
  call_tr (fn := Go.Proofs.Try.f35) tab35 (by kernel_rfl) (by rfl) (by kernel_rfl) (fun t h => by kernel_rfl) rfl args h
/-! f37: (*revetment/disk.Disk).Flush -/
def tab37 : Nat → Cert := fun i => ⟨0, 0, 0, 0, 0, 0⟩
noncomputable def aq37x0 (E : Env) : CT :=
  .reg [o 4 (sMov (X 10))]
noncomputable def bq37x0 (E : Env) : CT :=
  .block 1 (.reg [o 11 (sMov (X 4)),
    o 12 (sMov (X 4)),
    o 13 (sCall E 44 [(X 12)]),
    o 14 (sCall E 46 [(X 11), (X 13)])])
noncomputable def kaq37x0 : Code := (nthRange Go.Proofs.Try.f37 0).1
noncomputable def kbq37x0 : Code := (nthRange Go.Proofs.Try.f37 0).2
theorem eaq37x0 (E : Env) (t : T) (h : AHeap) : evalCode prog E kaq37x0 t h = runC E (aq37x0 E) t h := code_tr tab37 (by kernel_rfl) t h
theorem ebq37x0 (E : Env) (t : T) (h : AHeap) : evalCode prog E kbq37x0 t h = runC E (bq37x0 E) t h := code_tr tab37 (by kernel_rfl) t h
noncomputable def b37 (E : Env) : CT :=
  .seq (.reg [o 2 (sMov (K (.int .i64 0)))])
  (.seq (.seq (.reg [o 5 (sMov (X 0)),
    o 6 (sBin .eql .ptr (X 5) (K (.nilPtr)))])
  (.ite (X 6)
  (.seq (.reg [o 2 (sMov (K (.int .i64 1)))])
  (.ret))
  (.skip)))
  (.seq (.seq (.reg [o 7 (sMov (X 0)),
    o 8 (sCall E 45 [(X 7)])])
  (.block 0 (.range (X 8) [9, 10] kaq37x0 kbq37x0)))
  (.seq (.reg [o 2 (sMov (K (.int .i64 0)))])
  (.ret))))
theorem c37 (args : T) (h : AHeap) : (envL prog).call 37 args h = trim h (fin [.tmp 2] (runC (envL prog) (b37 (envL prog)) (args ++ List.replicate (15 - args.length) .undef) h)) :=
  call_tr (fn := Go.Proofs.Try.f37) tab37 (by kernel_rfl) (by rfl) (by kernel_rfl) (fun t h => by kernel_rfl) rfl args h
/-! f39: (*revetment/rig.Rig).each -/
def tab39 : Nat → Cert := fun i => ⟨0, 0, 0, 0, 0, 0⟩
noncomputable def b39 (E : Env) : CT :=
  .seq (.reg [o 1 (sBox (X 0)),
    o 2 (sMov (K (.nilFn)))])
  (.seq (.reg [o 3 (sFun 47 [(X 1)]),
    o 2 (sMov (X 3))])
  (.ret))
theorem c39 (args : T) (h : AHeap) : (envL prog).call 39 args h = trim h (fin [.tmp 2] (runC (envL prog) (b39 (envL prog)) (args ++ List.replicate (4 - args.length) .undef) h)) :=
  call_tr (fn := Go.Proofs.Try.f39) tab39 (by kernel_rfl) (by rfl) (by kernel_rfl) (fun t h => by kernel_rfl) rfl args h
/-! f40: (*revetment/disk.Disk).Crash -/
def tab40 : Nat → Cert := fun i => bif Nat.beq i 5 then ⟨15, 27, 26958403959549888149344569025392404666591617643737292647416287232000, 26958403959549888150062485068446689780652572650192482284576362758144, 41316003051598356482886883493448511707212038774026870031769154374169712594675733412590313231018312710636208542748751429640, 32108981546607407300751618644398465448199415814395691204548850747716658886647120157906909070873166656569359⟩ else bif Nat.beq i 6 then ⟨16, 42, 32568512803470550645393573733809859160744000307194366821566735572094439915520, 57894719432808791170548164174149555654123880036824808451965444550301809901568, 9798364629532431727371310397152280956259830051646665248346911002130553142684651277069887421851185631079593245071208888103544659086898087434058495659370836742086673845205465351121406252158624020165558304, 191586861872849574526409803849566035996408737687059191989839270643305954303005315111254799628450083587106228976032587859035377870022762624278392373795345829949058750264695825209319422829789212⟩ else ⟨0, 0, 0, 0, 0, 0⟩
noncomputable def aq40x0 (E : Env) : CT :=
  .reg [o 5 (sMov (X 10))]
noncomputable def bq40x0 (E : Env) : CT :=
  .block 1 (.seq (.reg [o 6 (sMov (K (.int .i64 0)))])
  (.seq (.seq (.reg [o 11 (sLoad 1 false (X 3)),
    o 12 (sLenSl (X 11)),
    o 13 (sBin .gtr .none (X 12) (K (.int .i64 0)))])
  (.ite (X 13)
  (.drw [.op (o 14 (sLoad 1 false (X 3))),
    .op (o 15 (sIdxAddrS 1 (X 14) (K (.int .i64 0)))),
    .op (o 16 (sLoad 1 false (X 15))),
    .op (o 17 (sConv (.int .i64) (X 16))),
    .op (o 18 (sMov (X 5))),
    .op (o 19 (sNil (X 18))),
    .op (o 20 (sFieldAddr 64 (X 19))),
    .op (o 21 (sLoad 1 false (X 20))),
    .op (o 22 (sLenSl (X 21))),
    .op (o 23 (sBin .add .none (X 22) (K (.int .i64 1)))),
    .op (o 24 (sBin .rem .none (X 17) (X 23))),
    .op (o 25 (sLoad 1 false (X 3))),
    .op (o 26 (sSliceS 1 (X 25) (some (K (.int .i64 1))) none none)),
    .op (o 6 (sMov (X 24))),
    .hv 16383 (u (sStore 1 (X 3) (X 26)))])
  (.skip)))
  (.drw [.op (o 27 (sMov (X 5))),
    .op (o 28 (sMov (X 5))),
    .op (o 29 (sNil (X 28))),
    .op (o 30 (sFieldAddr 0 (X 29))),
    .op (o 31 (sLoad 64 true (X 30))),
    .op (o 32 (sBuildSl 64 1 (rep 64 (.int .u8 0)) [(0, 64, (X 31))])),
    .op (o 33 (sMov (X 5))),
    .op (o 34 (sNil (X 33))),
    .op (o 35 (sFieldAddr 64 (X 34))),
    .op (o 36 (sLoad 1 false (X 35))),
    .op (o 37 (sBuildSl 1 2 [.nilSl] [(0, 1, (X 32)), (1, 1, (X 36))])),
    .op (o 39 (sMov (X 6))),
    .hv 2046 (o 38 (sCall E 48 [(X 37)])),
    .op (o 40 (sIdxAddrS 64 (X 38) (X 39))),
    .op (o 41 (sLoad 64 true (X 40))),
    .hv 32767 (o 42 (sCall E 46 [(X 27), (X 41)]))])))
noncomputable def kaq40x0 : Code := (nthRange Go.Proofs.Try.f40 0).1
noncomputable def kbq40x0 : Code := (nthRange Go.Proofs.Try.f40 0).2
theorem eaq40x0 (E : Env) (t : T) (h : AHeap) : evalCode prog E kaq40x0 t h = runC E (aq40x0 E) t h := code_tr tab40 (by kernel_rfl) t h
theorem ebq40x0 (E : Env) (t : T) (h : AHeap) : evalCode prog E kbq40x0 t h = runC E (bq40x0 E) t h := code_tr tab40 (by kernel_rfl) t h
noncomputable def b40 (E : Env) : CT :=
  .seq (.reg [o 3 (sBox (X 1))])
  (.seq (.reg [o 7 (sMov (X 0)),
    o 8 (sCall E 45 [(X 7)])])
  (.block 0 (.range (X 8) [9, 10] kaq40x0 kbq40x0)))
theorem c40 (args : T) (h : AHeap) : (envL prog).call 40 args h = trim h (fin [] (runC (envL prog) (b40 (envL prog)) (args ++ List.replicate (43 - args.length) .undef) h)) :=
  call_tr (fn := Go.Proofs.Try.f40) tab40 (by kernel_rfl) (by rfl) (by kernel_rfl) (fun t h => by kernel_rfl) rfl args h
/-! f42: (*revetment/disk.Disk).sector -/
def tab42 : Nat → Cert := fun i => ⟨0, 0, 0, 0, 0, 0⟩
noncomputable def b42 (E : Env) : CT :=
  .seq (.reg [o 4 (sMov (K (.nilPtr)))])
  (.seq (.seq (.reg [o 5 (sMov (X 1)),
    o 6 (sBin .lss .none (X 5) (K (.int .i64 0))),
    o 7 (sMov (X 6)),
    og 7 false 8 (sMov (X 1)),
    og 7 false 9 (sMov (X 0)),
    og 7 false 10 (sCall E 29 [(X 9)]),
    og 7 false 11 (sBin .geq .none (X 8) (X 10)),
    o 12 (sPick (X 7) (K (.bool true)) (X 11))])
  (.ite (X 12)
  (.seq (.reg [o 4 (sMov (K (.nilPtr)))])
  (.ret))
  (.skip)))
  (.seq (.reg [o 13 (sMov (X 0)),
    o 14 (sNil (X 13)),
    o 15 (sFieldAddr 0 (X 14)),
    o 16 (sLoad 1 false (X 15)),
    o 17 (sMov (X 1)),
    o 18 (sIdxAddrS 65 (X 16) (X 17)),
    o 4 (sMov (X 18))])
  (.ret)))
theorem c42 (args : T) (h : AHeap) : (envL prog).call 42 args h = trim h (fin [.tmp 4] (runC (envL prog) (b42 (envL prog)) (args ++ List.replicate (19 - args.length) .undef) h)) :=
  call_tr (fn := Go.Proofs.Try.f42) tab42 (by kernel_rfl) (by rfl) (by kernel_rfl) (fun t h => by kernel_rfl) rfl args h
/-! f44: (*revetment/disk.sector).last -/
def tab44 : Nat → Cert := fun i => ⟨0, 0, 0, 0, 0, 0⟩
noncomputable def b44 (E : Env) : CT :=
  .seq (.reg [o 2 (sAlloc (rep 64 (.int .u8 0)))])
  (.seq (.seq (.reg [o 4 (sMov (X 0)),
    o 5 (sNil (X 4)),
    o 6 (sFieldAddr 64 (X 5)),
    o 7 (sLoad 1 false (X 6)),
    o 8 (sLenSl (X 7)),
    o 3 (sMov (X 8))])
  (.seq (.reg [o 9 (sMov (X 3)),
    o 10 (sBin .gtr .none (X 9) (K (.int .i64 0)))])
  (.ite (X 10)
  (.seq (.reg [o 11 (sMov (X 0)),
    o 12 (sNil (X 11)),
    o 13 (sFieldAddr 64 (X 12)),
    o 14 (sLoad 1 false (X 13)),
    o 15 (sMov (X 3)),
    o 16 (sBin .sub .none (X 15) (K (.int .i64 1))),
    o 17 (sIdxAddrS 64 (X 14) (X 16)),
    o 18 (sLoad 64 true (X 17)),
    u (sStore 64 (X 2) (X 18))])
  (.ret))
  (.skip))))
  (.seq (.reg [o 19 (sMov (X 0)),
    o 20 (sNil (X 19)),
    o 21 (sFieldAddr 0 (X 20)),
    o 22 (sLoad 64 true (X 21)),
    u (sStore 64 (X 2) (X 22))])
  (.ret)))
theorem c44 (args : T) (h : AHeap) : (envL prog).call 44 args h = trim h (fin [.cell 2 64 true] (runC (envL prog) (b44 (envL prog)) (args ++ List.replicate (23 - args.length) .undef) h)) :=
  call_tr (fn := Go.Proofs.Try.f44) tab44 (by kernel_rfl) (by rfl) (by kernel_rfl) (fun t h => by kernel_rfl) rfl args h
/-! f45: (*revetment/disk.Disk).loose -/
def tab45 : Nat → Cert := fun i => ⟨0, 0, 0, 0, 0, 0⟩
noncomputable def b45 (E : Env) : CT :=
  .seq (.reg [o 1 (sBox (X 0)),
    o 2 (sMov (K (.nilFn)))])
  (.seq (.reg [o 3 (sFun 50 [(X 1)]),
    o 2 (sMov (X 3))])
  (.ret))
theorem c45 (args : T) (h : AHeap) : (envL prog).call 45 args h = trim h (fin [.tmp 2] (runC (envL prog) (b45 (envL prog)) (args ++ List.replicate (4 - args.length) .undef) h)) :=
  call_tr (fn := Go.Proofs.Try.f45) tab45 (by kernel_rfl) (by rfl) (by kernel_rfl) (fun t h => by kernel_rfl) rfl args h
/-! f46: (*revetment/disk.sector).settle -/
def tab46 : Nat → Cert := fun i => ⟨0, 0, 0, 0, 0, 0⟩
noncomputable def b46 (E : Env) : CT :=
  .seq (.reg [o 3 (sBox (X 1))])
  (.reg [o 4 (sMov (X 0)),
    o 5 (sMov (X 0)),
    o 6 (sLoad 64 true (X 3)),
    o 7 (sNil (X 4)),
    o 8 (sFieldAddr 0 (X 7)),
    u (sStore 64 (X 8) (X 6)),
    o 9 (sNil (X 5)),
    o 10 (sFieldAddr 64 (X 9)),
    u (sStore 1 (X 10) (K (.nilSl)))])
theorem c46 (args : T) (h : AHeap) : (envL prog).call 46 args h = trim h (fin [] (runC (envL prog) (b46 (envL prog)) (args ++ List.replicate (11 - args.length) .undef) h)) :=
  call_tr (fn := Go.Proofs.Try.f46) tab46 (by kernel_rfl) (by rfl) (by kernel_rfl) (fun t h => by kernel_rfl) rfl args h
/-! f47: (*revetment/rig.Rig).each$1 -/
def tab47 : Nat → Cert := fun i => ⟨0, 0, 0, 0, 0, 0⟩
noncomputable def l47x0 (E : Env) : CT :=
  .seq (.reg [o 12 (sBin .lss .none (X 11) (K (.int .i64 2)))])
  (.seq (.ite (X 12)
  (.skip)
  (.exit 0))
  (.seq (.block 1 (.seq (.reg [o 13 (sMov (X 11)),
    o 14 (sIdxA 2 1 false (X 10) (X 11)),
    o 3 (sMov (X 13)),
    o 4 (sMov (X 14))])
  (.seq (.reg [o 15 (sMov (X 0)),
    o 16 (sMov (X 3)),
    o 17 (sMov (X 4)),
    o 18 (sCallV E (X 15) [(X 16), (X 17)]),
    o 19 (sUn .not (X 18))])
  (.ite (X 19)
  (.ret)
  (.skip)))))
  (.reg [o 20 (sBin .add .none (X 11) (K (.int .i64 1))),
    o 11 (sMov (X 20))])))
noncomputable def b47 (E : Env) : CT :=
  .seq (.seq (.reg [o 5 (sLoad 1 false (X 1)),
    o 6 (sBin .eql .ptr (X 5) (K (.nilPtr)))])
  (.ite (X 6)
  (.ret)
  (.skip)))
  (.seq (.reg [o 7 (sLoad 1 false (X 1)),
    o 8 (sNil (X 7)),
    o 9 (sFieldAddr 0 (X 8)),
    o 10 (sLoad 2 true (X 9)),
    o 11 (sMov (K (.int .i64 0)))])
  (.block 0 (.loop (l47x0 E))))
theorem c47 (args : T) (h : AHeap) : (envL prog).call 47 args h = trim h (fin [] (runC (envL prog) (b47 (envL prog)) (args ++ List.replicate (21 - args.length) .undef) h)) :=
  call_tr (fn := Go.Proofs.Try.f47) tab47 (by kernel_rfl) (by rfl) (by kernel_rfl) (fun t h => by kernel_rfl) rfl args h
/-! f48: slices.Concat[[]revetment/api.Block,revetment/api.Block] -/
def tab48 : Nat → Cert := fun i => ⟨0, 0, 0, 0, 0, 0⟩
noncomputable def l48x0 (E : Env) : CT :=
  .seq (.reg [o 12 (sBin .lss .none (X 11) (X 10))])
  (.seq (.ite (X 12)
  (.skip)
  (.exit 0))
  (.seq (.block 1 (.seq (.reg [o 13 (sIdxAddrS 1 (X 9) (X 11)),
    o 14 (sLoad 1 false (X 13)),
    o 5 (sMov (X 14))])
  (.seq (.reg [o 15 (sMov (X 3)),
    o 16 (sMov (X 5)),
    o 17 (sLenSl (X 16)),
    o 18 (sBin .add .none (X 15) (X 17)),
    o 3 (sMov (X 18))])
  (.seq (.reg [o 19 (sMov (X 3)),
    o 20 (sBin .lss .none (X 19) (K (.int .i64 0)))])
  (.ite (X 20)
  (.reg [o 21 (sNone),
    u (sNone)])
  (.skip))))))
  (.reg [o 22 (sBin .add .none (X 11) (K (.int .i64 1))),
    o 11 (sMov (X 22))])))
noncomputable def l48x1 (E : Env) : CT :=
  .seq (.reg [o 28 (sBin .lss .none (X 27) (X 26))])
  (.seq (.ite (X 28)
  (.skip)
  (.exit 2))
  (.seq (.block 3 (.seq (.reg [o 29 (sIdxAddrS 1 (X 25) (X 27)),
    o 30 (sLoad 1 false (X 29)),
    o 8 (sMov (X 30))])
  (.reg [o 31 (sMov (X 6)),
    o 32 (sMov (X 8)),
    o 33 (sApp (ty 64 true 64 (rep 64 (.int .u8 0))) (X 31) (X 32)),
    o 6 (sMov (X 33))])))
  (.reg [o 34 (sBin .add .none (X 27) (K (.int .i64 1))),
    o 27 (sMov (X 34))])))
noncomputable def b48 (E : Env) : CT :=
  .seq (.reg [o 2 (sMov (K (.nilSl)))])
  (.seq (.reg [o 3 (sMov (K (.int .i64 0)))])
  (.seq (.seq (.reg [o 9 (sMov (X 0)),
    o 10 (sLenSl (X 9)),
    o 11 (sMov (K (.int .i64 0)))])
  (.block 0 (.loop (l48x0 E))))
  (.seq (.reg [o 23 (sMov (X 3)),
    o 24 (sCall E 51 [(K (.nilSl)), (X 23)]),
    o 6 (sMov (X 24))])
  (.seq (.seq (.reg [o 25 (sMov (X 0)),
    o 26 (sLenSl (X 25)),
    o 27 (sMov (K (.int .i64 0)))])
  (.block 2 (.loop (l48x1 E))))
  (.seq (.reg [o 35 (sMov (X 6)),
    o 2 (sMov (X 35))])
  (.ret))))))
theorem c48 (args : T) (h : AHeap) : (envL prog).call 48 args h = trim h (fin [.tmp 2] (runC (envL prog) (b48 (envL prog)) (args ++ List.replicate (36 - args.length) .undef) h)) :=
  call_tr (fn := Go.Proofs.Try.f48) tab48 (by kernel_rfl) (by rfl) (by kernel_rfl) (fun t h => by kernel_rfl) rfl args h
/-! f50: (*revetment/disk.Disk).loose$1 -/
def tab50 : Nat → Cert := fun i => ⟨0, 0, 0, 0, 0, 0⟩
noncomputable def l50x0 (E : Env) : CT :=
  .seq (.reg [o 8 (sBin .lss .none (X 7) (X 6))])
  (.seq (.ite (X 8)
  (.skip)
  (.exit 0))
  (.seq (.block 1 (.seq (.reg [o 9 (sMov (X 7)),
    o 3 (sMov (X 9))])
  (.seq (.reg [o 10 (sLoad 1 false (X 1)),
    o 11 (sMov (X 3)),
    o 12 (sCall E 42 [(X 10), (X 11)]),
    o 4 (sMov (X 12))])
  (.seq (.reg [o 13 (sMov (X 4)),
    o 14 (sNil (X 13)),
    o 15 (sFieldAddr 64 (X 14)),
    o 16 (sLoad 1 false (X 15)),
    o 17 (sLenSl (X 16)),
    o 18 (sBin .gtr .none (X 17) (K (.int .i64 0))),
    o 19 (sMov (X 18)),
    og 19 true 20 (sMov (X 0)),
    og 19 true 21 (sMov (X 3)),
    og 19 true 22 (sMov (X 4)),
    og 19 true 23 (sCallV E (X 20) [(X 21), (X 22)]),
    og 19 true 24 (sUn .not (X 23)),
    o 25 (sPick (X 19) (X 24) (K (.bool false)))])
  (.ite (X 25)
  (.ret)
  (.skip))))))
  (.reg [o 26 (sBin .add .none (X 7) (K (.int .i64 1))),
    o 7 (sMov (X 26))])))
noncomputable def b50 (E : Env) : CT :=
  .seq (.reg [o 5 (sLoad 1 false (X 1)),
    o 6 (sCall E 29 [(X 5)]),
    o 7 (sMov (K (.int .i64 0)))])
  (.block 0 (.loop (l50x0 E)))
theorem c50 (args : T) (h : AHeap) : (envL prog).call 50 args h = trim h (fin [] (runC (envL prog) (b50 (envL prog)) (args ++ List.replicate (27 - args.length) .undef) h)) :=
  call_tr (fn := Go.Proofs.Try.f50) tab50 (by kernel_rfl) (by rfl) (by kernel_rfl) (fun t h => by kernel_rfl) rfl args h
/-! f51: slices.Grow[[]revetment/api.Block,revetment/api.Block] -/
def tab51 : Nat → Cert := fun i => ⟨0, 0, 0, 0, 0, 0⟩
noncomputable def b51 (E : Env) : CT :=
  .seq (.reg [o 4 (sMov (K (.nilSl)))])
  (.seq (.seq (.reg [o 5 (sMov (X 1)),
    o 6 (sBin .lss .none (X 5) (K (.int .i64 0)))])
  (.ite (X 6)
  (.reg [o 7 (sNone),
    u (sNone)])
  (.skip)))
  (.seq (.seq (.reg [o 8 (sMov (X 1)),
    o 9 (sMov (X 0)),
    o 10 (sCapSl (X 9)),
    o 11 (sMov (X 0)),
    o 12 (sLenSl (X 11)),
    o 13 (sBin .sub .none (X 10) (X 12)),
    o 14 (sBin .sub .none (X 8) (X 13)),
    o 1 (sMov (X 14))])
  (.seq (.reg [o 15 (sMov (X 1)),
    o 16 (sBin .gtr .none (X 15) (K (.int .i64 0)))])
  (.ite (X 16)
  (.reg [o 17 (sMov (X 0)),
    o 18 (sMov (X 0)),
    o 19 (sCapSl (X 18)),
    o 20 (sSliceS 64 (X 17) none (some (X 19)) none),
    o 21 (sMov (X 1)),
    o 22 (sAppN (ty 64 true 64 (rep 64 (.int .u8 0))) (X 20) (X 21)),
    o 23 (sMov (X 0)),
    o 24 (sLenSl (X 23)),
    o 25 (sSliceS 64 (X 22) none (some (X 24)) none),
    o 0 (sMov (X 25))])
  (.skip))))
  (.seq (.reg [o 26 (sMov (X 0)),
    o 4 (sMov (X 26))])
  (.ret))))
theorem c51 (args : T) (h : AHeap) : (envL prog).call 51 args h = trim h (fin [.tmp 4] (runC (envL prog) (b51 (envL prog)) (args ++ List.replicate (27 - args.length) .undef) h)) :=
  call_tr (fn := Go.Proofs.Try.f51) tab51 (by kernel_rfl) (by rfl) (by kernel_rfl) (fun t h => by kernel_rfl) rfl args h
end Go.Proofs.Ythjkfincekckhaa.G04

