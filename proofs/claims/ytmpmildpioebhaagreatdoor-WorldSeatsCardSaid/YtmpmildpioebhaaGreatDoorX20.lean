/-
  The statement WorldSeats (law 23): a seat whose power goes off is gone, and comes back with nothing lost. Part 20 of 27. No condition stands ahead of the statement. Parts of this text were printed by a program of ours.
-/
import Derived.Test.YtmpmildpioebhaaGreatDoorX16
import Derived.Laws.BytesString
set_option linter.all false
set_option maxRecDepth 100000
set_option maxHeartbeats 4000000
noncomputable section
namespace Go.Vm
open Go Go.Proofs.YtmpmildpioebhaaGreatDoor
noncomputable abbrev pubA2 (leaf:Nat):List AV:=[.a (.cons 32 (.bs 32 905157131635235650158280796581769611063510490591174026323009889427053871104) .nil),.i leaf]
noncomputable abbrev pubV2_0:AV:=.a (.cons 32 (.bs 32 106402223330889855413428546355862735075582992968146620954476785460375656565072) .nil)
theorem pub2_0:ansIs (rn G1 40 51 (pubA2 0) hpE ok1) pubV2_0 = true:=by kernel_rfl
noncomputable abbrev pubV2_1:AV:=.a (.cons 32 (.bs 32 30260062402181008433877228353627874916522579775645578333315893154604549108090) .nil)
theorem pub2_1:ansIs (rn G1 40 51 (pubA2 1) hpE ok1) pubV2_1 = true:=by kernel_rfl
noncomputable abbrev pubV2_2:AV:=.a (.cons 32 (.bs 32 40223496432285026287325894561999870802334593552487408746650950772830241302526) .nil)
theorem pub2_2:ansIs (rn G1 40 51 (pubA2 2) hpE ok1) pubV2_2 = true:=by kernel_rfl
noncomputable abbrev pubV2_3:AV:=.a (.cons 32 (.bs 32 32684622385442033263248225377381518142790282329148233567639366065900996736175) .nil)
theorem pub2_3:ansIs (rn G1 40 51 (pubA2 3) hpE ok1) pubV2_3 = true:=by kernel_rfl
noncomputable abbrev pubV2_4:AV:=.a (.cons 32 (.bs 32 26122197098979025361686478868016672283408310020041151338763386114471750481052) .nil)
theorem pub2_4:ansIs (rn G1 40 51 (pubA2 4) hpE ok1) pubV2_4 = true:=by kernel_rfl
noncomputable abbrev pubV2_5:AV:=.a (.cons 32 (.bs 32 64108763076648323926783150361194394910765293139123304499749624841566139883071) .nil)
theorem pub2_5:ansIs (rn G1 40 51 (pubA2 5) hpE ok1) pubV2_5 = true:=by kernel_rfl
noncomputable abbrev pubV2_6:AV:=.a (.cons 32 (.bs 32 33042488001845509094532454909509911535083794453854403724146336381080027493313) .nil)
theorem pub2_6:ansIs (rn G1 40 51 (pubA2 6) hpE ok1) pubV2_6 = true:=by kernel_rfl
noncomputable abbrev pubV2_7:AV:=.a (.cons 32 (.bs 32 93814542411613347696069109208172300618922544504639411692971555836987184480466) .nil)
theorem pub2_7:ansIs (rn G1 40 51 (pubA2 7) hpE ok1) pubV2_7 = true:=by kernel_rfl
noncomputable abbrev pubV2_8:AV:=.a (.cons 32 (.bs 32 18652510335918397178790750456764144740413127493414489026450313637907324804681) .nil)
theorem pub2_8:ansIs (rn G1 40 51 (pubA2 8) hpE ok1) pubV2_8 = true:=by kernel_rfl
noncomputable abbrev pubV2_9:AV:=.a (.cons 32 (.bs 32 81952891739137554219910052785851813211521858241755772848029966688137145493704) .nil)
theorem pub2_9:ansIs (rn G1 40 51 (pubA2 9) hpE ok1) pubV2_9 = true:=by kernel_rfl
noncomputable abbrev pubV2_10:AV:=.a (.cons 32 (.bs 32 29543781873955041433235772036239419950474781393489414069021400598392402390539) .nil)
theorem pub2_10:ansIs (rn G1 40 51 (pubA2 10) hpE ok1) pubV2_10 = true:=by kernel_rfl
noncomputable abbrev pubV2_11:AV:=.a (.cons 32 (.bs 32 40446183099453432199340026972038062708038069706819737564139368332573681537461) .nil)
theorem pub2_11:ansIs (rn G1 40 51 (pubA2 11) hpE ok1) pubV2_11 = true:=by kernel_rfl
noncomputable abbrev pubV2_12:AV:=.a (.cons 32 (.bs 32 14320577037953066820048592182040882560998107768965752036827706997234409213826) .nil)
theorem pub2_12:ansIs (rn G1 40 51 (pubA2 12) hpE ok1) pubV2_12 = true:=by kernel_rfl
noncomputable abbrev pubV2_13:AV:=.a (.cons 32 (.bs 32 30690652270461378272195893409371583642087359300322500511952786949169182924466) .nil)
theorem pub2_13:ansIs (rn G1 40 51 (pubA2 13) hpE ok1) pubV2_13 = true:=by kernel_rfl
noncomputable abbrev pubV2_14:AV:=.a (.cons 32 (.bs 32 45681675867761874705858115580816968558268713828417706964077299906938443872684) .nil)
theorem pub2_14:ansIs (rn G1 40 51 (pubA2 14) hpE ok1) pubV2_14 = true:=by kernel_rfl
noncomputable abbrev pubV2_15:AV:=.a (.cons 32 (.bs 32 31267552489052251582495977999141645338098602550927942002811742771224644300073) .nil)
theorem pub2_15:ansIs (rn G1 40 51 (pubA2 15) hpE ok1) pubV2_15 = true:=by kernel_rfl
noncomputable def pubT2:List (List AV×AV):=[(pubA2 0,pubV2_0),(pubA2 1,pubV2_1),(pubA2 2,pubV2_2),(pubA2 3,pubV2_3),(pubA2 4,pubV2_4),(pubA2 5,pubV2_5),(pubA2 6,pubV2_6),(pubA2 7,pubV2_7),(pubA2 8,pubV2_8),(pubA2 9,pubV2_9),(pubA2 10,pubV2_10),(pubA2 11,pubV2_11),(pubA2 12,pubV2_12),(pubA2 13,pubV2_13),(pubA2 14,pubV2_14),(pubA2 15,pubV2_15)]
theorem pubT2_ok:∀ e ∈ pubT2,PureAt PR 51 e.1 e.2:=by
 intro e he
 simp only [pubT2,List.mem_cons,List.not_mem_nil,or_false] at he
 rcases he with rfl | rfl | rfl | rfl | rfl | rfl | rfl | rfl | rfl | rfl | rfl | rfl | rfl | rfl | rfl | rfl
 ·exact yg (yy 40) pub2_0 rfl rfl
 ·exact yg (yy 40) pub2_1 rfl rfl
 ·exact yg (yy 40) pub2_2 rfl rfl
 ·exact yg (yy 40) pub2_3 rfl rfl
 ·exact yg (yy 40) pub2_4 rfl rfl
 ·exact yg (yy 40) pub2_5 rfl rfl
 ·exact yg (yy 40) pub2_6 rfl rfl
 ·exact yg (yy 40) pub2_7 rfl rfl
 ·exact yg (yy 40) pub2_8 rfl rfl
 ·exact yg (yy 40) pub2_9 rfl rfl
 ·exact yg (yy 40) pub2_10 rfl rfl
 ·exact yg (yy 40) pub2_11 rfl rfl
 ·exact yg (yy 40) pub2_12 rfl rfl
 ·exact yg (yy 40) pub2_13 rfl rfl
 ·exact yg (yy 40) pub2_14 rfl rfl
 ·exact yg (yy 40) pub2_15 rfl rfl
end Go.Vm
