/-
  The statement WorldSeats (law 23): a seat whose power goes off is gone, and comes back with nothing lost. Part 22 of 27. No condition stands ahead of the statement. Parts of this text were printed by a program of ours.
-/
import Derived.Test.YtmpmildpioebhaaGreatDoorX16
import Derived.Laws.BytesString
set_option linter.all false
set_option maxRecDepth 100000
set_option maxHeartbeats 4000000
noncomputable section
namespace Go.Vm
open Go Go.Proofs.YtmpmildpioebhaaGreatDoor
noncomputable abbrev pubA4 (leaf:Nat):List AV:=[.a (.cons 32 (.bs 32 1809782828801768426904929116962143891167182245791490932881272264488875196416) .nil),.i leaf]
noncomputable abbrev pubV4_0:AV:=.a (.cons 32 (.bs 32 16517307632529959514123994677508308345721747498839578994206214303989524868180) .nil)
theorem pub4_0:ansIs (rn G1 40 51 (pubA4 0) hpE ok1) pubV4_0 = true:=by kernel_rfl
noncomputable abbrev pubV4_1:AV:=.a (.cons 32 (.bs 32 59727208865382372223517905867394507716769412591002938996436302341752664677521) .nil)
theorem pub4_1:ansIs (rn G1 40 51 (pubA4 1) hpE ok1) pubV4_1 = true:=by kernel_rfl
noncomputable abbrev pubV4_2:AV:=.a (.cons 32 (.bs 32 13562142299726951718336415514892378089112795222170291387204573120491130480492) .nil)
theorem pub4_2:ansIs (rn G1 40 51 (pubA4 2) hpE ok1) pubV4_2 = true:=by kernel_rfl
noncomputable abbrev pubV4_3:AV:=.a (.cons 32 (.bs 32 90864804143009086097252434940179728001308649414080072657329180834437020613967) .nil)
theorem pub4_3:ansIs (rn G1 40 51 (pubA4 3) hpE ok1) pubV4_3 = true:=by kernel_rfl
noncomputable abbrev pubV4_4:AV:=.a (.cons 32 (.bs 32 113770898716076382959337054375090620647940735363478135263538679154949236623336) .nil)
theorem pub4_4:ansIs (rn G1 40 51 (pubA4 4) hpE ok1) pubV4_4 = true:=by kernel_rfl
noncomputable abbrev pubV4_5:AV:=.a (.cons 32 (.bs 32 15139409866838307067280980896458531859884822397499039844554761316607757017899) .nil)
theorem pub4_5:ansIs (rn G1 40 51 (pubA4 5) hpE ok1) pubV4_5 = true:=by kernel_rfl
noncomputable abbrev pubV4_6:AV:=.a (.cons 32 (.bs 32 83149578819961143147270044984315081147660445983106486019094204621530125099464) .nil)
theorem pub4_6:ansIs (rn G1 40 51 (pubA4 6) hpE ok1) pubV4_6 = true:=by kernel_rfl
noncomputable abbrev pubV4_7:AV:=.a (.cons 32 (.bs 32 70302000060175869078084386855924293579011149677285927158941279616229093991769) .nil)
theorem pub4_7:ansIs (rn G1 40 51 (pubA4 7) hpE ok1) pubV4_7 = true:=by kernel_rfl
noncomputable abbrev pubV4_8:AV:=.a (.cons 32 (.bs 32 2742986513077759719780954304235072108297678477251320751520402746290590425993) .nil)
theorem pub4_8:ansIs (rn G1 40 51 (pubA4 8) hpE ok1) pubV4_8 = true:=by kernel_rfl
noncomputable abbrev pubV4_9:AV:=.a (.cons 32 (.bs 32 105952392473564648463915684750405393945681984606475467055399640113516496203608) .nil)
theorem pub4_9:ansIs (rn G1 40 51 (pubA4 9) hpE ok1) pubV4_9 = true:=by kernel_rfl
noncomputable abbrev pubV4_10:AV:=.a (.cons 32 (.bs 32 7163931010641517504298833777504213973057108889640616644007800045185992847438) .nil)
theorem pub4_10:ansIs (rn G1 40 51 (pubA4 10) hpE ok1) pubV4_10 = true:=by kernel_rfl
noncomputable abbrev pubV4_11:AV:=.a (.cons 32 (.bs 32 39032012829070347757270474341174792705834362365199050942821845757032219378370) .nil)
theorem pub4_11:ansIs (rn G1 40 51 (pubA4 11) hpE ok1) pubV4_11 = true:=by kernel_rfl
noncomputable abbrev pubV4_12:AV:=.a (.cons 32 (.bs 32 24619080302748979930424518275640772024557511845947359394789371278663578646412) .nil)
theorem pub4_12:ansIs (rn G1 40 51 (pubA4 12) hpE ok1) pubV4_12 = true:=by kernel_rfl
noncomputable abbrev pubV4_13:AV:=.a (.cons 32 (.bs 32 61684672855651192709083873257735008822577688669927113060180846760523275976061) .nil)
theorem pub4_13:ansIs (rn G1 40 51 (pubA4 13) hpE ok1) pubV4_13 = true:=by kernel_rfl
noncomputable abbrev pubV4_14:AV:=.a (.cons 32 (.bs 32 23231136286530951602588437873730696791787022986580683313981445188204790080372) .nil)
theorem pub4_14:ansIs (rn G1 40 51 (pubA4 14) hpE ok1) pubV4_14 = true:=by kernel_rfl
noncomputable abbrev pubV4_15:AV:=.a (.cons 32 (.bs 32 104059595251509086339603823079688655643214342050402182493255718506513248639847) .nil)
theorem pub4_15:ansIs (rn G1 40 51 (pubA4 15) hpE ok1) pubV4_15 = true:=by kernel_rfl
noncomputable def pubT4:List (List AV×AV):=[(pubA4 0,pubV4_0),(pubA4 1,pubV4_1),(pubA4 2,pubV4_2),(pubA4 3,pubV4_3),(pubA4 4,pubV4_4),(pubA4 5,pubV4_5),(pubA4 6,pubV4_6),(pubA4 7,pubV4_7),(pubA4 8,pubV4_8),(pubA4 9,pubV4_9),(pubA4 10,pubV4_10),(pubA4 11,pubV4_11),(pubA4 12,pubV4_12),(pubA4 13,pubV4_13),(pubA4 14,pubV4_14),(pubA4 15,pubV4_15)]
theorem pubT4_ok:∀ e ∈ pubT4,PureAt PR 51 e.1 e.2:=by
 intro e he
 simp only [pubT4,List.mem_cons,List.not_mem_nil,or_false] at he
 rcases he with rfl | rfl | rfl | rfl | rfl | rfl | rfl | rfl | rfl | rfl | rfl | rfl | rfl | rfl | rfl | rfl
 ·exact yg (yy 40) pub4_0 rfl rfl
 ·exact yg (yy 40) pub4_1 rfl rfl
 ·exact yg (yy 40) pub4_2 rfl rfl
 ·exact yg (yy 40) pub4_3 rfl rfl
 ·exact yg (yy 40) pub4_4 rfl rfl
 ·exact yg (yy 40) pub4_5 rfl rfl
 ·exact yg (yy 40) pub4_6 rfl rfl
 ·exact yg (yy 40) pub4_7 rfl rfl
 ·exact yg (yy 40) pub4_8 rfl rfl
 ·exact yg (yy 40) pub4_9 rfl rfl
 ·exact yg (yy 40) pub4_10 rfl rfl
 ·exact yg (yy 40) pub4_11 rfl rfl
 ·exact yg (yy 40) pub4_12 rfl rfl
 ·exact yg (yy 40) pub4_13 rfl rfl
 ·exact yg (yy 40) pub4_14 rfl rfl
 ·exact yg (yy 40) pub4_15 rfl rfl
end Go.Vm
