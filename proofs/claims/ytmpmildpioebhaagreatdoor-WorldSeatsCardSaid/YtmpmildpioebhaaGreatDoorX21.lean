/-
  The statement WorldSeats (law 23): a seat whose power goes off is gone, and comes back with nothing lost. Part 21 of 27. No condition stands ahead of the statement. Parts of this text were printed by a program of ours.
-/
import Derived.Test.YtmpmildpioebhaaGreatDoorX16
import Derived.Laws.BytesString
set_option linter.all false
set_option maxRecDepth 100000
set_option maxHeartbeats 4000000
noncomputable section
namespace Go.Vm
open Go Go.Proofs.YtmpmildpioebhaaGreatDoor
noncomputable abbrev pubA3 (leaf:Nat):List AV:=[.a (.cons 32 (.bs 32 1357469980218502038531604956771956751115346368191332479602141076957964533760) .nil),.i leaf]
noncomputable abbrev pubV3_0:AV:=.a (.cons 32 (.bs 32 61264056162277866261263788888710060883166202005545496118846654161630737944833) .nil)
theorem pub3_0:ansIs (rn G1 40 51 (pubA3 0) hpE ok1) pubV3_0 = true:=by kernel_rfl
noncomputable abbrev pubV3_1:AV:=.a (.cons 32 (.bs 32 49887033574866801416967677792233639045533802957046460840462703390985404668918) .nil)
theorem pub3_1:ansIs (rn G1 40 51 (pubA3 1) hpE ok1) pubV3_1 = true:=by kernel_rfl
noncomputable abbrev pubV3_2:AV:=.a (.cons 32 (.bs 32 9651737502829343538661723367244874796495051578551293144437232813225716504069) .nil)
theorem pub3_2:ansIs (rn G1 40 51 (pubA3 2) hpE ok1) pubV3_2 = true:=by kernel_rfl
noncomputable abbrev pubV3_3:AV:=.a (.cons 32 (.bs 32 66306215206457199879228710045870229463794451374082079074807474213390557024712) .nil)
theorem pub3_3:ansIs (rn G1 40 51 (pubA3 3) hpE ok1) pubV3_3 = true:=by kernel_rfl
noncomputable abbrev pubV3_4:AV:=.a (.cons 32 (.bs 32 110856564950424885700663408447764594536163587403926967177779731669392495572320) .nil)
theorem pub3_4:ansIs (rn G1 40 51 (pubA3 4) hpE ok1) pubV3_4 = true:=by kernel_rfl
noncomputable abbrev pubV3_5:AV:=.a (.cons 32 (.bs 32 7372709278297514762865663485201733885589115914632541488364642961536164622595) .nil)
theorem pub3_5:ansIs (rn G1 40 51 (pubA3 5) hpE ok1) pubV3_5 = true:=by kernel_rfl
noncomputable abbrev pubV3_6:AV:=.a (.cons 32 (.bs 32 1043971741746972335934914265689315858966520656216024722804207383821906167434) .nil)
theorem pub3_6:ansIs (rn G1 40 51 (pubA3 6) hpE ok1) pubV3_6 = true:=by kernel_rfl
noncomputable abbrev pubV3_7:AV:=.a (.cons 32 (.bs 32 97798484774263144532322942718418886760547842425998176438531841066661331391718) .nil)
theorem pub3_7:ansIs (rn G1 40 51 (pubA3 7) hpE ok1) pubV3_7 = true:=by kernel_rfl
noncomputable abbrev pubV3_8:AV:=.a (.cons 32 (.bs 32 109813539269470749359904066619611893547413428981816842125488968030286866289488) .nil)
theorem pub3_8:ansIs (rn G1 40 51 (pubA3 8) hpE ok1) pubV3_8 = true:=by kernel_rfl
noncomputable abbrev pubV3_9:AV:=.a (.cons 32 (.bs 32 29242452486765505549534544447549547925225374098314086312586256126568251921926) .nil)
theorem pub3_9:ansIs (rn G1 40 51 (pubA3 9) hpE ok1) pubV3_9 = true:=by kernel_rfl
noncomputable abbrev pubV3_10:AV:=.a (.cons 32 (.bs 32 96691415038524804474667979731074392648896151555210241928789916453527478471062) .nil)
theorem pub3_10:ansIs (rn G1 40 51 (pubA3 10) hpE ok1) pubV3_10 = true:=by kernel_rfl
noncomputable abbrev pubV3_11:AV:=.a (.cons 32 (.bs 32 32906130087698176716987369144409284397554985309265340896614039147466667572778) .nil)
theorem pub3_11:ansIs (rn G1 40 51 (pubA3 11) hpE ok1) pubV3_11 = true:=by kernel_rfl
noncomputable abbrev pubV3_12:AV:=.a (.cons 32 (.bs 32 91426089327662084306189966891596160770687455094545490856531551698189429016828) .nil)
theorem pub3_12:ansIs (rn G1 40 51 (pubA3 12) hpE ok1) pubV3_12 = true:=by kernel_rfl
noncomputable abbrev pubV3_13:AV:=.a (.cons 32 (.bs 32 23360208184743475481694057334538393673309641868290817296728438228305725727410) .nil)
theorem pub3_13:ansIs (rn G1 40 51 (pubA3 13) hpE ok1) pubV3_13 = true:=by kernel_rfl
noncomputable abbrev pubV3_14:AV:=.a (.cons 32 (.bs 32 89572754211762621969434031187528355783648935083339944757659212123409723920559) .nil)
theorem pub3_14:ansIs (rn G1 40 51 (pubA3 14) hpE ok1) pubV3_14 = true:=by kernel_rfl
noncomputable abbrev pubV3_15:AV:=.a (.cons 32 (.bs 32 74747234931925193641883664405293677556554130374933742672717703372860402806316) .nil)
theorem pub3_15:ansIs (rn G1 40 51 (pubA3 15) hpE ok1) pubV3_15 = true:=by kernel_rfl
noncomputable def pubT3:List (List AV×AV):=[(pubA3 0,pubV3_0),(pubA3 1,pubV3_1),(pubA3 2,pubV3_2),(pubA3 3,pubV3_3),(pubA3 4,pubV3_4),(pubA3 5,pubV3_5),(pubA3 6,pubV3_6),(pubA3 7,pubV3_7),(pubA3 8,pubV3_8),(pubA3 9,pubV3_9),(pubA3 10,pubV3_10),(pubA3 11,pubV3_11),(pubA3 12,pubV3_12),(pubA3 13,pubV3_13),(pubA3 14,pubV3_14),(pubA3 15,pubV3_15)]
theorem pubT3_ok:∀ e ∈ pubT3,PureAt PR 51 e.1 e.2:=by
 intro e he
 simp only [pubT3,List.mem_cons,List.not_mem_nil,or_false] at he
 rcases he with rfl | rfl | rfl | rfl | rfl | rfl | rfl | rfl | rfl | rfl | rfl | rfl | rfl | rfl | rfl | rfl
 ·exact yg (yy 40) pub3_0 rfl rfl
 ·exact yg (yy 40) pub3_1 rfl rfl
 ·exact yg (yy 40) pub3_2 rfl rfl
 ·exact yg (yy 40) pub3_3 rfl rfl
 ·exact yg (yy 40) pub3_4 rfl rfl
 ·exact yg (yy 40) pub3_5 rfl rfl
 ·exact yg (yy 40) pub3_6 rfl rfl
 ·exact yg (yy 40) pub3_7 rfl rfl
 ·exact yg (yy 40) pub3_8 rfl rfl
 ·exact yg (yy 40) pub3_9 rfl rfl
 ·exact yg (yy 40) pub3_10 rfl rfl
 ·exact yg (yy 40) pub3_11 rfl rfl
 ·exact yg (yy 40) pub3_12 rfl rfl
 ·exact yg (yy 40) pub3_13 rfl rfl
 ·exact yg (yy 40) pub3_14 rfl rfl
 ·exact yg (yy 40) pub3_15 rfl rfl
end Go.Vm
