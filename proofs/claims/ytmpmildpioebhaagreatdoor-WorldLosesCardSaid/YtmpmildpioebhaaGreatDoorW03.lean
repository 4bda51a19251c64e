/-
  The statement WorldLoses (law 23): where all letters are lost nobody decides anything. Part 3 of 30. No condition stands ahead of the statement. Parts of this text were printed by a program of ours.
-/
import Derived.JoinedCond
import Derived.KernelRfl
import Derived.Test.YtmpmildpioebhaaGreatDoorCards
set_option linter.all false
set_option maxRecDepth 100000
set_option maxHeartbeats 4000000
noncomputable section
namespace Go.Proofs.YtmpmildpioebhaaGreatDoor
open Go
theorem and_t {a b:Bool} (h1:a = true) (h2:b = true):(a && b) = true:=by rw [h1,h2]; rfl
theorem jf0:(Rows.worldLosesRow.wf (OpenSpec.ofChange (OpenSpec.ofChange Rows.worldLosesSpec).bare)) = true:=by kernel_rfl
theorem jf1:(laidOutB Tryz.pinned.checked.prog) = true:=by kernel_rfl
theorem jf2:(mapsRowed Tryz.pinned.checked.prog) = true:=by kernel_rfl
theorem jf3:(Tryz.f3.params.all (Tryz.pinned.checked.prog.readableRec ·)) = true:=by kernel_rfl
theorem jf4:(namedTie Tryz.pinned.checked.prog Rows.worldLosesRow.named (OpenSpec.ofChange Rows.worldLosesSpec).bare.vars) = true:=by kernel_rfl
theorem jf5:((Rows.worldLosesRow.stops == [])) = true:=by kernel_rfl
theorem jf6:((Tryz.pinned.checked.prog.stops == [])) = true:=by kernel_rfl
theorem jf7:((Rows.worldLosesRow.knobs == [])) = true:=by kernel_rfl
theorem jf8:((Tryz.pinned.checked.prog.stopKnobs == [])) = true:=by kernel_rfl
theorem jf9:((Rows.worldLosesRow.inPlace == Tryz.pinned.checked.prog.inPlace 3)) = true:=by kernel_rfl
theorem jf10:((Rows.worldLosesRow.unfollowed == Tryz.pinned.checked.prog.unfollowed 3)) = true:=by kernel_rfl
theorem jf11:((Rows.worldLosesRow.recurses == Tryz.pinned.checked.prog.recurses 3)) = true:=by kernel_rfl
theorem jf12:((Rows.worldLosesRow.named == Tryz.pinned.checked.prog.varsNamed 3)) = true:=by kernel_rfl
theorem jf13:((Rows.worldLosesRow.maps == (Tryz.f3.params.toList ++ (OpenSpec.ofChange Rows.worldLosesSpec).bare.plain.varTypes Tryz.pinned.checked.prog).any (Tryz.pinned.checked.prog.mapsRec ·))) = true:=by kernel_rfl
theorem jf14:((Rows.worldLosesRow.ifaces == (Tryz.f3.params.toList ++ (OpenSpec.ofChange Rows.worldLosesSpec).bare.plain.varTypes Tryz.pinned.checked.prog).any (Tryz.pinned.checked.prog.ifacesRec ·))) = true:=by kernel_rfl
theorem jf15:((Rows.worldLosesRow.mapsOut == Tryz.pinned.checked.prog.mapsAmong Tryz.f3.resultTypes.toList)) = true:=by kernel_rfl
theorem jf16:((Rows.worldLosesRow.loops == (Tryz.f3.params.toList ++ (OpenSpec.ofChange Rows.worldLosesSpec).bare.plain.varTypes Tryz.pinned.checked.prog).any (Tryz.pinned.checked.prog.loopsFrom ·))) = true:=by kernel_rfl
theorem jf17:((Rows.worldLosesRow.wideKeys == (Tryz.f3.params.toList ++ (OpenSpec.ofChange Rows.worldLosesSpec).bare.plain.varTypes Tryz.pinned.checked.prog ++ Tryz.f3.resultTypes.toList).any (Tryz.pinned.checked.prog.wideKeysFrom ·))) = true:=by kernel_rfl
theorem jf18:((OpenSpec.ofChange Rows.worldLosesSpec).bare.vars.all (Tryz.pinned.checked.prog.varReadable ·)) = true:=by kernel_rfl
theorem jf19:(Tryz.f3.resultTypes.all (fun t=>Tryz.pinned.checked.prog.readableRec t && decide (t < Tryz.pinned.checked.prog.types.size))) = true:=by kernel_rfl
theorem jf20:((Rows.worldLosesRow.ifacesOut == Tryz.f3.resultTypes.toList.any (Tryz.pinned.checked.prog.ifacesRec ·))) = true:=by kernel_rfl
theorem jf21:((Rows.worldLosesRow.loopsOut == Tryz.f3.resultTypes.toList.any (Tryz.pinned.checked.prog.loopsFrom ·))) = true:=by kernel_rfl
theorem jf22:((Rows.worldLosesRow.plainKeys == Tryz.pinned.checked.prog.plainKeys)) = true:=by kernel_rfl
theorem jf23:(Rows.worldLosesRow.shortTexts.isNone) = true:=by kernel_rfl
theorem jf24:(Tryz.pinned.checked.prog.stopsHeard) = true:=by kernel_rfl
theorem jf25:(Tryz.pinned.checked.prog.mayEnter) = true:=by kernel_rfl
theorem jf26:((Rows.worldLosesRow.lifted == Tryz.pinned.checked.prog.liftsFinal)) = true:=by kernel_rfl
theorem jf27:((Tryz.pinned.checked.prog.make == some Rows.worldLosesRow.make)) = true:=by kernel_rfl
theorem jf28:((Rows.worldLosesRow.kinds == (if Rows.worldLosesRow.domain.isEmpty then [] else Tryz.f3.params.toList.map fun t=>match Tryz.pinned.checked.prog.underlying t with | some (.int k)=>some k | _=>none))) = true:=by kernel_rfl
theorem jf29:((Rows.worldLosesRow.pinned == Rows.worldLosesRow.pinnedBy)) = true:=by kernel_rfl
theorem jf30:((Rows.worldLosesRow.veiled == (Tryz.f3.params.toList ++ (OpenSpec.ofChange Rows.worldLosesSpec).bare.plain.varTypes Tryz.pinned.checked.prog ++ Tryz.f3.resultTypes.toList).any (Tryz.pinned.checked.prog.veiledRec ·))) = true:=by kernel_rfl
theorem jf31:(Rows.worldLosesRow.veiledFits Tryz.pinned.checked.prog Tryz.f3.params.toList (Tryz.f3.params.toList ++ (OpenSpec.ofChange Rows.worldLosesSpec).bare.plain.varTypes Tryz.pinned.checked.prog ++ Tryz.f3.resultTypes.toList)) = true:=by kernel_rfl
theorem jfAll:joinedFacts Tryz.pinned.checked.prog 3 Tryz.f3 (OpenSpec.ofChange Rows.worldLosesSpec).bare Rows.worldLosesRow = true:=by
 unfold joinedFacts
 exact and_t (and_t (and_t (and_t (and_t (and_t (and_t (and_t (and_t (and_t (and_t (and_t (and_t (and_t (and_t (and_t (and_t (and_t (and_t (and_t (and_t (and_t (and_t (and_t (and_t (and_t (and_t (and_t (and_t (and_t (and_t (jf0) jf1) jf2) jf3) jf4) jf5) jf6) jf7) jf8) jf9) jf10) jf11) jf12) jf13) jf14) jf15) jf16) jf17) jf18) jf19) jf20) jf21) jf22) jf23) jf24) jf25) jf26) jf27) jf28) jf29) jf30) jf31
end Go.Proofs.YtmpmildpioebhaaGreatDoor
