/-
  The statement WorldSeats (law 23): a seat whose power goes off is gone, and comes back with nothing lost. Part 3 of 27. No condition stands ahead of the statement. Parts of this text were printed by a program of ours.
-/
import Derived.JoinedCond
import Derived.KernelRfl
import Derived.Test.YtmpmildpioebhaaGreatDoorCards
set_option linter.all false
set_option maxRecDepth 100000
set_option maxHeartbeats 4000000
noncomputable section
namespace Go.Proofs.YtmpmildpioebhaaGreatDoor
open Go
theorem qbt {a b:Bool} (h1:a = true) (h2:b = true):(a && b) = true:=by rw [h1,h2]; rfl
theorem js0:(Rows.worldSeatsRow.wf (OpenSpec.ofChange (OpenSpec.ofChange Rows.worldSeatsSpec).bare)) = true:=by kernel_rfl
theorem js1:(laidOutB Tryz.pinned.checked.prog) = true:=by kernel_rfl
theorem js2:(mapsRowed Tryz.pinned.checked.prog) = true:=by kernel_rfl
theorem js3:(Tryz.f4.params.all (Tryz.pinned.checked.prog.readableRec ·)) = true:=by kernel_rfl
theorem js4:(namedTie Tryz.pinned.checked.prog Rows.worldSeatsRow.named (OpenSpec.ofChange Rows.worldSeatsSpec).bare.vars) = true:=by kernel_rfl
theorem js5:((Rows.worldSeatsRow.stops == [])) = true:=by kernel_rfl
theorem js6:((Tryz.pinned.checked.prog.stops == [])) = true:=by kernel_rfl
theorem js7:((Rows.worldSeatsRow.knobs == [])) = true:=by kernel_rfl
theorem js8:((Tryz.pinned.checked.prog.stopKnobs == [])) = true:=by kernel_rfl
theorem js9:((Rows.worldSeatsRow.inPlace == Tryz.pinned.checked.prog.inPlace 4)) = true:=by kernel_rfl
theorem js10:((Rows.worldSeatsRow.unfollowed == Tryz.pinned.checked.prog.unfollowed 4)) = true:=by kernel_rfl
theorem js11:((Rows.worldSeatsRow.recurses == Tryz.pinned.checked.prog.recurses 4)) = true:=by kernel_rfl
theorem js12:((Rows.worldSeatsRow.named == Tryz.pinned.checked.prog.varsNamed 4)) = true:=by kernel_rfl
theorem js13:((Rows.worldSeatsRow.maps == (Tryz.f4.params.toList ++ (OpenSpec.ofChange Rows.worldSeatsSpec).bare.plain.varTypes Tryz.pinned.checked.prog).any (Tryz.pinned.checked.prog.mapsRec ·))) = true:=by kernel_rfl
theorem js14:((Rows.worldSeatsRow.ifaces == (Tryz.f4.params.toList ++ (OpenSpec.ofChange Rows.worldSeatsSpec).bare.plain.varTypes Tryz.pinned.checked.prog).any (Tryz.pinned.checked.prog.ifacesRec ·))) = true:=by kernel_rfl
theorem js15:((Rows.worldSeatsRow.mapsOut == Tryz.pinned.checked.prog.mapsAmong Tryz.f4.resultTypes.toList)) = true:=by kernel_rfl
theorem js16:((Rows.worldSeatsRow.loops == (Tryz.f4.params.toList ++ (OpenSpec.ofChange Rows.worldSeatsSpec).bare.plain.varTypes Tryz.pinned.checked.prog).any (Tryz.pinned.checked.prog.loopsFrom ·))) = true:=by kernel_rfl
theorem js17:((Rows.worldSeatsRow.wideKeys == (Tryz.f4.params.toList ++ (OpenSpec.ofChange Rows.worldSeatsSpec).bare.plain.varTypes Tryz.pinned.checked.prog ++ Tryz.f4.resultTypes.toList).any (Tryz.pinned.checked.prog.wideKeysFrom ·))) = true:=by kernel_rfl
theorem js18:((OpenSpec.ofChange Rows.worldSeatsSpec).bare.vars.all (Tryz.pinned.checked.prog.varReadable ·)) = true:=by kernel_rfl
theorem js19:(Tryz.f4.resultTypes.all (fun t=>Tryz.pinned.checked.prog.readableRec t && decide (t < Tryz.pinned.checked.prog.types.size))) = true:=by kernel_rfl
theorem js20:((Rows.worldSeatsRow.ifacesOut == Tryz.f4.resultTypes.toList.any (Tryz.pinned.checked.prog.ifacesRec ·))) = true:=by kernel_rfl
theorem js21:((Rows.worldSeatsRow.loopsOut == Tryz.f4.resultTypes.toList.any (Tryz.pinned.checked.prog.loopsFrom ·))) = true:=by kernel_rfl
theorem js22:((Rows.worldSeatsRow.plainKeys == Tryz.pinned.checked.prog.plainKeys)) = true:=by kernel_rfl
theorem js23:(Rows.worldSeatsRow.shortTexts.isNone) = true:=by kernel_rfl
theorem js24:(Tryz.pinned.checked.prog.stopsHeard) = true:=by kernel_rfl
theorem js25:(Tryz.pinned.checked.prog.mayEnter) = true:=by kernel_rfl
theorem js26:((Rows.worldSeatsRow.lifted == Tryz.pinned.checked.prog.liftsFinal)) = true:=by kernel_rfl
theorem js27:((Tryz.pinned.checked.prog.make == some Rows.worldSeatsRow.make)) = true:=by kernel_rfl
theorem js28:((Rows.worldSeatsRow.kinds == (if Rows.worldSeatsRow.domain.isEmpty then [] else Tryz.f4.params.toList.map fun t=>match Tryz.pinned.checked.prog.underlying t with | some (.int k)=>some k | _=>none))) = true:=by kernel_rfl
theorem js29:((Rows.worldSeatsRow.pinned == Rows.worldSeatsRow.pinnedBy)) = true:=by kernel_rfl
theorem js30:((Rows.worldSeatsRow.veiled == (Tryz.f4.params.toList ++ (OpenSpec.ofChange Rows.worldSeatsSpec).bare.plain.varTypes Tryz.pinned.checked.prog ++ Tryz.f4.resultTypes.toList).any (Tryz.pinned.checked.prog.veiledRec ·))) = true:=by kernel_rfl
theorem js31:(Rows.worldSeatsRow.veiledFits Tryz.pinned.checked.prog Tryz.f4.params.toList (Tryz.f4.params.toList ++ (OpenSpec.ofChange Rows.worldSeatsSpec).bare.plain.varTypes Tryz.pinned.checked.prog ++ Tryz.f4.resultTypes.toList)) = true:=by kernel_rfl
theorem jsAll:joinedFacts Tryz.pinned.checked.prog 4 Tryz.f4 (OpenSpec.ofChange Rows.worldSeatsSpec).bare Rows.worldSeatsRow = true:=by
 unfold joinedFacts
 exact qbt (qbt (qbt (qbt (qbt (qbt (qbt (qbt (qbt (qbt (qbt (qbt (qbt (qbt (qbt (qbt (qbt (qbt (qbt (qbt (qbt (qbt (qbt (qbt (qbt (qbt (qbt (qbt (qbt (qbt (qbt (js0) js1) js2) js3) js4) js5) js6) js7) js8) js9) js10) js11) js12) js13) js14) js15) js16) js17) js18) js19) js20) js21) js22) js23) js24) js25) js26) js27) js28) js29) js30) js31
end Go.Proofs.YtmpmildpioebhaaGreatDoor
