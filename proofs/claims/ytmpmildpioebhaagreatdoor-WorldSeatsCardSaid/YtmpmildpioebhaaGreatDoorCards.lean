/-
  DERIVED. GIVEN WITH THE SEED: THE CARDS: each row of YtmpmildpioebhaaGreatDoorRows.lean that lists a variable, with what it lists TIED to the program's text (the seventh form; the later family's looks); each row that meets fmt, with fmt's text TOLD by the authors' own Lean function (tested against real Go, not proved from fmt's source: count such statements apart). THE CARD IS WHAT COUNTS. Prove the row's statement (the work); the ties are given (YtmpmildpioebhaaGreatDoorTie.lean); close each card by the builder's one call (the guide's Derived/Test/ToyasCard.lean, 'card_holds'). Laid BY PROGRAM, IN A SANDBOX (cutbox-door.mjs). By AI agents, Wed Nov 11 2026. No macro, syntax, notation, axiom, sorry.
-/
import Derived.Test.YtmpmildpioebhaaGreatDoorRows
import GoSem.ClaimSeven
namespace Go.Proofs.YtmpmildpioebhaaGreatDoor
namespace Rows

/-- THE TIED CARD OF 'wapentakelaw23.WorldLoses'. -/
def worldLosesCard : Claim7 := { stood := { row := worldLosesRow, standIns := [], harness := (true, "f7f5d4dd5e42f01675bae0346559bceaddb67640829450ed11fde6b46a905ee8"), looks := false }, kinds := [], alts := [], laidByText := true, laidKinds := [.data, .data, .data, .data], laidTests := true, laidLooks := .later }
def WorldLosesCardSaid : Prop := Claim7.holds Tryz.pinned (.plain (OpenSpec.ofChange worldLosesSpec)) worldLosesCard

/-- THE TIED CARD OF 'wapentakelaw23.WorldSeats'. -/
def worldSeatsCard : Claim7 := { stood := { row := worldSeatsRow, standIns := [], harness := (true, "f7f5d4dd5e42f01675bae0346559bceaddb67640829450ed11fde6b46a905ee8"), looks := false }, kinds := [], alts := [], laidByText := true, laidKinds := [.data, .data, .data, .data], laidTests := true, laidLooks := .later }
def WorldSeatsCardSaid : Prop := Claim7.holds Tryz.pinned (.plain (OpenSpec.ofChange worldSeatsSpec)) worldSeatsCard

/-- THE SECOND FORM's CARD OF 'wapentakelaw23.WorldLoses'. -/
def worldLosesUptoCard : Claim7 := { stood := { row := worldLosesUptoRow, standIns := [], harness := (true, "f7f5d4dd5e42f01675bae0346559bceaddb67640829450ed11fde6b46a905ee8"), looks := false }, kinds := [], alts := [], laidByText := true, laidKinds := [.data, .data, .data, .data], laidTests := true, laidLooks := .later }
def WorldLosesUptoCardSaid : Prop := Claim7.holds Tryz.pinned (.plain (OpenSpec.upto worldLosesSpec)) worldLosesUptoCard

/-- THE SECOND FORM's CARD OF 'wapentakelaw23.WorldSeats'. -/
def worldSeatsUptoCard : Claim7 := { stood := { row := worldSeatsUptoRow, standIns := [], harness := (true, "f7f5d4dd5e42f01675bae0346559bceaddb67640829450ed11fde6b46a905ee8"), looks := false }, kinds := [], alts := [], laidByText := true, laidKinds := [.data, .data, .data, .data], laidTests := true, laidLooks := .later }
def WorldSeatsUptoCardSaid : Prop := Claim7.holds Tryz.pinned (.plain (OpenSpec.upto worldSeatsSpec)) worldSeatsUptoCard
end Rows
end Go.Proofs.YtmpmildpioebhaaGreatDoor
