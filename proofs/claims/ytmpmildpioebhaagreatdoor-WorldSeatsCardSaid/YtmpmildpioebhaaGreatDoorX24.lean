/-
  The statement WorldSeats (law 23): a seat whose power goes off is gone, and comes back with nothing lost. Part 24 of 27. No condition stands ahead of the statement. Parts of this text were printed by a program of ours.
-/
import Derived.Test.YtmpmildpioebhaaGreatDoorX23
import Derived.Laws.BytesString
set_option linter.all false
set_option maxRecDepth 100000
set_option maxHeartbeats 4000000
noncomputable section
namespace Go.Vm
open Go Go.Proofs.YtmpmildpioebhaaGreatDoor
theorem alive_run:ansIs (rn G0 200 5 [] hpE ok1) (.b true) = true:=by kernel_rfl
end Go.Vm
