/-
  The statement WorldSeats (law 23): a seat whose power goes off is gone, and comes back with nothing lost. Part 18 of 27. No condition stands ahead of the statement. Parts of this text were printed by a program of ours.
-/
import Derived.Test.YtmpmildpioebhaaGreatDoorX16
import Derived.Laws.BytesString
set_option linter.all false
set_option maxRecDepth 100000
set_option maxHeartbeats 4000000
noncomputable section
namespace Go.Vm
open Go Go.Proofs.YtmpmildpioebhaaGreatDoor
noncomputable abbrev puA0_0:List AV:=[.a (.cons 32 (.bs 32 452844283051969261784956636391582471011674612991015573043878701896143208448) .nil),.i 0]
noncomputable abbrev puV0_0:AV:=.a (.cons 32 (.bs 32 68688826766001228962406615442361739432746028600337280041824834428013115140021) .nil)
theorem puF0_0:ansIs (rn G1 40 51 puA0_0 hpE ok1) puV0_0 = true:=by kernel_rfl
theorem puP0_0:PureAt PR 51 puA0_0 puV0_0:=yg (yy 40) puF0_0 rfl rfl
noncomputable abbrev puA0_1:List AV:=[.a (.cons 32 (.bs 32 452844283051969261784956636391582471011674612991015573043878701896143208448) .nil),.i 1]
noncomputable abbrev puV0_1:AV:=.a (.cons 32 (.bs 32 25679423936796938381420193313205095538120850326313628207213809965909813309835) .nil)
theorem puF0_1:ansIs (rn G1 40 51 puA0_1 hpE ok1) puV0_1 = true:=by kernel_rfl
theorem puP0_1:PureAt PR 51 puA0_1 puV0_1:=yg (yy 40) puF0_1 rfl rfl
noncomputable abbrev puA1_0:List AV:=[.a (.cons 32 (.bs 32 454611130116747646114539933892325389527502096887891192002000308097435828224) .nil),.i 0]
noncomputable abbrev puV1_0:AV:=.a (.cons 32 (.bs 32 67042411557118485757509066800134104131847189259744879470404521234623138215873) .nil)
theorem puF1_0:ansIs (rn G1 40 51 puA1_0 hpE ok1) puV1_0 = true:=by kernel_rfl
theorem puP1_0:PureAt PR 51 puA1_0 puV1_0:=yg (yy 40) puF1_0 rfl rfl
noncomputable abbrev puA1_1:List AV:=[.a (.cons 32 (.bs 32 454611130116747646114539933892325389527502096887891192002000308097435828224) .nil),.i 1]
noncomputable abbrev puV1_1:AV:=.a (.cons 32 (.bs 32 37647298928498028299082432381358805627122880006675634401105167835422533537869) .nil)
theorem puF1_1:ansIs (rn G1 40 51 puA1_1 hpE ok1) puV1_1 = true:=by kernel_rfl
theorem puP1_1:PureAt PR 51 puA1_1 puV1_1:=yg (yy 40) puF1_1 rfl rfl
noncomputable abbrev puA2_0:List AV:=[.a (.cons 32 (.bs 32 456377977181526030444123231393068308043329580784766810960121914298728448000) .nil),.i 0]
noncomputable abbrev puV2_0:AV:=.a (.cons 32 (.bs 32 64887236525611176437786464094882939154988359287517121920344774441385274973262) .nil)
theorem puF2_0:ansIs (rn G1 40 51 puA2_0 hpE ok1) puV2_0 = true:=by kernel_rfl
theorem puP2_0:PureAt PR 51 puA2_0 puV2_0:=yg (yy 40) puF2_0 rfl rfl
noncomputable abbrev puA2_1:List AV:=[.a (.cons 32 (.bs 32 456377977181526030444123231393068308043329580784766810960121914298728448000) .nil),.i 1]
noncomputable abbrev puV2_1:AV:=.a (.cons 32 (.bs 32 35146921477147008879674323751710515523387073215983278987449161478527522559862) .nil)
theorem puF2_1:ansIs (rn G1 40 51 puA2_1 hpE ok1) puV2_1 = true:=by kernel_rfl
theorem puP2_1:PureAt PR 51 puA2_1 puV2_1:=yg (yy 40) puF2_1 rfl rfl
noncomputable abbrev puA3_0:List AV:=[.a (.cons 32 (.bs 32 458144824246304414773706528893811226559157064681642429918243520500021067776) .nil),.i 0]
noncomputable abbrev puV3_0:AV:=.a (.cons 32 (.bs 32 103908538785537342665066068327464229440159073951235324257797023672352929445345) .nil)
theorem puF3_0:ansIs (rn G1 40 51 puA3_0 hpE ok1) puV3_0 = true:=by kernel_rfl
theorem puP3_0:PureAt PR 51 puA3_0 puV3_0:=yg (yy 40) puF3_0 rfl rfl
noncomputable abbrev puA3_1:List AV:=[.a (.cons 32 (.bs 32 458144824246304414773706528893811226559157064681642429918243520500021067776) .nil),.i 1]
noncomputable abbrev puV3_1:AV:=.a (.cons 32 (.bs 32 4426905034125521501905535732671382036166079626461395209552432854174016554396) .nil)
theorem puF3_1:ansIs (rn G1 40 51 puA3_1 hpE ok1) puV3_1 = true:=by kernel_rfl
theorem puP3_1:PureAt PR 51 puA3_1 puV3_1:=yg (yy 40) puF3_1 rfl rfl
end Go.Vm
