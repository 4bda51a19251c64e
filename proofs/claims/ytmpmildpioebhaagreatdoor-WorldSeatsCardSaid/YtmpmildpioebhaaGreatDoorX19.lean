/-
  The statement WorldSeats (law 23): a seat whose power goes off is gone, and comes back with nothing lost. Part 19 of 27. No condition stands ahead of the statement. Parts of this text were printed by a program of ours.
-/
import Derived.Test.YtmpmildpioebhaaGreatDoorX16
import Derived.Laws.BytesString
set_option linter.all false
set_option maxRecDepth 100000
set_option maxHeartbeats 4000000
noncomputable section
namespace Go.Vm
open Go Go.Proofs.YtmpmildpioebhaaGreatDoor
noncomputable abbrev pubA1 (leaf:Nat):List AV:=[.a (.cons 32 (.bs 32 452844283051969261784956636391582471011674612991015573043878701896143208448) .nil),.i leaf]
noncomputable abbrev pubV1_0:AV:=.a (.cons 32 (.bs 32 68688826766001228962406615442361739432746028600337280041824834428013115140021) .nil)
theorem pub1_0:ansIs (rn G1 40 51 (pubA1 0) hpE ok1) pubV1_0 = true:=by kernel_rfl
noncomputable abbrev pubV1_1:AV:=.a (.cons 32 (.bs 32 25679423936796938381420193313205095538120850326313628207213809965909813309835) .nil)
theorem pub1_1:ansIs (rn G1 40 51 (pubA1 1) hpE ok1) pubV1_1 = true:=by kernel_rfl
noncomputable abbrev pubV1_2:AV:=.a (.cons 32 (.bs 32 28864550513177393313818568987672190595218565222687654264352800446094280818408) .nil)
theorem pub1_2:ansIs (rn G1 40 51 (pubA1 2) hpE ok1) pubV1_2 = true:=by kernel_rfl
noncomputable abbrev pubV1_3:AV:=.a (.cons 32 (.bs 32 45436737500235772445859435049295496932712513820212117738660834525472392182696) .nil)
theorem pub1_3:ansIs (rn G1 40 51 (pubA1 3) hpE ok1) pubV1_3 = true:=by kernel_rfl
noncomputable abbrev pubV1_4:AV:=.a (.cons 32 (.bs 32 84191942492569930210024067754415228644219194100791582296704406541261073920935) .nil)
theorem pub1_4:ansIs (rn G1 40 51 (pubA1 4) hpE ok1) pubV1_4 = true:=by kernel_rfl
noncomputable abbrev pubV1_5:AV:=.a (.cons 32 (.bs 32 92802449695758913880723380345267378750457932834649558408274397849997086171177) .nil)
theorem pub1_5:ansIs (rn G1 40 51 (pubA1 5) hpE ok1) pubV1_5 = true:=by kernel_rfl
noncomputable abbrev pubV1_6:AV:=.a (.cons 32 (.bs 32 13982460549712605033021187268129789374107513493770882260139803226561008318810) .nil)
theorem pub1_6:ansIs (rn G1 40 51 (pubA1 6) hpE ok1) pubV1_6 = true:=by kernel_rfl
noncomputable abbrev pubV1_7:AV:=.a (.cons 32 (.bs 32 99507263541902166809443765566909086824247798925709381242609101423723757493927) .nil)
theorem pub1_7:ansIs (rn G1 40 51 (pubA1 7) hpE ok1) pubV1_7 = true:=by kernel_rfl
noncomputable abbrev pubV1_8:AV:=.a (.cons 32 (.bs 32 20737244437623585314263351062183806376518683429802968847144002787358512147152) .nil)
theorem pub1_8:ansIs (rn G1 40 51 (pubA1 8) hpE ok1) pubV1_8 = true:=by kernel_rfl
noncomputable abbrev pubV1_9:AV:=.a (.cons 32 (.bs 32 713705392361038578722063980444475556482127903321023628853777156016767546041) .nil)
theorem pub1_9:ansIs (rn G1 40 51 (pubA1 9) hpE ok1) pubV1_9 = true:=by kernel_rfl
noncomputable abbrev pubV1_10:AV:=.a (.cons 32 (.bs 32 31193468831229019850049761591289312562539636867184022791533482618252589366310) .nil)
theorem pub1_10:ansIs (rn G1 40 51 (pubA1 10) hpE ok1) pubV1_10 = true:=by kernel_rfl
noncomputable abbrev pubV1_11:AV:=.a (.cons 32 (.bs 32 14199584201749895033525277599919507344995537068068422023553021556504404964936) .nil)
theorem pub1_11:ansIs (rn G1 40 51 (pubA1 11) hpE ok1) pubV1_11 = true:=by kernel_rfl
noncomputable abbrev pubV1_12:AV:=.a (.cons 32 (.bs 32 30325314950843270453983482447844168060021365563836669250124737592478365918173) .nil)
theorem pub1_12:ansIs (rn G1 40 51 (pubA1 12) hpE ok1) pubV1_12 = true:=by kernel_rfl
noncomputable abbrev pubV1_13:AV:=.a (.cons 32 (.bs 32 77860550463703379189723816040924001417105058908510167299766224280206742504663) .nil)
theorem pub1_13:ansIs (rn G1 40 51 (pubA1 13) hpE ok1) pubV1_13 = true:=by kernel_rfl
noncomputable abbrev pubV1_14:AV:=.a (.cons 32 (.bs 32 85983540138104241622928296194665845487012337819954351442133165662298296362844) .nil)
theorem pub1_14:ansIs (rn G1 40 51 (pubA1 14) hpE ok1) pubV1_14 = true:=by kernel_rfl
noncomputable abbrev pubV1_15:AV:=.a (.cons 32 (.bs 32 43812399977275978586541914717260761580638550565272049518529818971443515078680) .nil)
theorem pub1_15:ansIs (rn G1 40 51 (pubA1 15) hpE ok1) pubV1_15 = true:=by kernel_rfl
noncomputable def pubT1:List (List AV×AV):=[(pubA1 0,pubV1_0),(pubA1 1,pubV1_1),(pubA1 2,pubV1_2),(pubA1 3,pubV1_3),(pubA1 4,pubV1_4),(pubA1 5,pubV1_5),(pubA1 6,pubV1_6),(pubA1 7,pubV1_7),(pubA1 8,pubV1_8),(pubA1 9,pubV1_9),(pubA1 10,pubV1_10),(pubA1 11,pubV1_11),(pubA1 12,pubV1_12),(pubA1 13,pubV1_13),(pubA1 14,pubV1_14),(pubA1 15,pubV1_15)]
theorem pubT1_ok:∀ e ∈ pubT1,PureAt PR 51 e.1 e.2:=by
 intro e he
 simp only [pubT1,List.mem_cons,List.not_mem_nil,or_false] at he
 rcases he with rfl | rfl | rfl | rfl | rfl | rfl | rfl | rfl | rfl | rfl | rfl | rfl | rfl | rfl | rfl | rfl
 ·exact yg (yy 40) pub1_0 rfl rfl
 ·exact yg (yy 40) pub1_1 rfl rfl
 ·exact yg (yy 40) pub1_2 rfl rfl
 ·exact yg (yy 40) pub1_3 rfl rfl
 ·exact yg (yy 40) pub1_4 rfl rfl
 ·exact yg (yy 40) pub1_5 rfl rfl
 ·exact yg (yy 40) pub1_6 rfl rfl
 ·exact yg (yy 40) pub1_7 rfl rfl
 ·exact yg (yy 40) pub1_8 rfl rfl
 ·exact yg (yy 40) pub1_9 rfl rfl
 ·exact yg (yy 40) pub1_10 rfl rfl
 ·exact yg (yy 40) pub1_11 rfl rfl
 ·exact yg (yy 40) pub1_12 rfl rfl
 ·exact yg (yy 40) pub1_13 rfl rfl
 ·exact yg (yy 40) pub1_14 rfl rfl
 ·exact yg (yy 40) pub1_15 rfl rfl
end Go.Vm
