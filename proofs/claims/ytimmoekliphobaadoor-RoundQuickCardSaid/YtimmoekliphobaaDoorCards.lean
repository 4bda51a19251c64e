/-
  DERIVED. GIVEN WITH THE SEED: THE CARDS: each row of YtimmoekliphobaaDoorRows.lean that lists a variable, with what it lists TIED to the program's text (the seventh form; the later family's looks); each row that meets fmt, with fmt's text TOLD by the authors' own Lean function (tested against real Go, not proved from fmt's source: count such statements apart). THE CARD IS WHAT COUNTS. Prove the row's statement (the work); the ties are given (YtimmoekliphobaaDoorTie.lean); close each card by the builder's one call (the guide's Derived/Test/ToyasCard.lean, 'card_holds'). Laid BY PROGRAM, IN A SANDBOX (cutbox-door.mjs). By AI agents, Wed Nov 11 2026. No macro, syntax, notation, axiom, sorry.
-/
import Derived.Test.YtimmoekliphobaaDoorRows
import GoSem.ClaimSeven
namespace Go.Proofs.YtimmoekliphobaaDoor
namespace Rows

/-- THE TIED CARD OF 'wapentakelaw13.VoteBoxes'. -/
def voteBoxesCard : Claim7 := { stood := { row := voteBoxesRow, standIns := [], harness := (true, "72ab46080a9f104a8094fe176e13fe825ba60d453fd1adc2c6ff95cbcd5e5875"), looks := false }, kinds := [], alts := [], laidByText := true, laidKinds := [.data], laidTests := true, laidLooks := .later }
def VoteBoxesCardSaid : Prop := Claim7.holds Tryd.pinned (.plain (OpenSpec.ofChange voteBoxesSpec)) voteBoxesCard

/-- THE TIED CARD OF 'wapentakelaw19.RoundQuick'. -/
def roundQuickCard : Claim7 := { stood := { row := roundQuickRow, standIns := [], harness := (true, "72ab46080a9f104a8094fe176e13fe825ba60d453fd1adc2c6ff95cbcd5e5875"), looks := false }, kinds := [], alts := [], laidByText := true, laidKinds := [.data], laidTests := true, laidLooks := .later }
def RoundQuickCardSaid : Prop := Claim7.holds Tryd.pinned (.plain (OpenSpec.ofChange roundQuickSpec)) roundQuickCard

/-- THE TIED CARD OF 'wapentakelaw19.RoundNone'. -/
def roundNoneCard : Claim7 := { stood := { row := roundNoneRow, standIns := [], harness := (true, "72ab46080a9f104a8094fe176e13fe825ba60d453fd1adc2c6ff95cbcd5e5875"), looks := false }, kinds := [], alts := [], laidByText := true, laidKinds := [.data], laidTests := true, laidLooks := .later }
def RoundNoneCardSaid : Prop := Claim7.holds Tryd.pinned (.plain (OpenSpec.ofChange roundNoneSpec)) roundNoneCard

/-- THE TIED CARD OF 'wapentakelaw19.RoundOnce'. -/
def roundOnceCard : Claim7 := { stood := { row := roundOnceRow, standIns := [], harness := (true, "72ab46080a9f104a8094fe176e13fe825ba60d453fd1adc2c6ff95cbcd5e5875"), looks := false }, kinds := [], alts := [], laidByText := true, laidKinds := [.data], laidTests := true, laidLooks := .later }
def RoundOnceCardSaid : Prop := Claim7.holds Tryd.pinned (.plain (OpenSpec.ofChange roundOnceSpec)) roundOnceCard

/-- THE TIED CARD OF 'wapentakelaw19.RoundAgrees'. -/
def roundAgreesCard : Claim7 := { stood := { row := roundAgreesRow, standIns := [], harness := (true, "72ab46080a9f104a8094fe176e13fe825ba60d453fd1adc2c6ff95cbcd5e5875"), looks := false }, kinds := [], alts := [], laidByText := true, laidKinds := [.data], laidTests := true, laidLooks := .later }
def RoundAgreesCardSaid : Prop := Claim7.holds Tryd.pinned (.plain (OpenSpec.ofChange roundAgreesSpec)) roundAgreesCard

/-- THE SECOND FORM's CARD OF 'wapentakelaw13.VoteBoxes'. -/
def voteBoxesUptoCard : Claim7 := { stood := { row := voteBoxesUptoRow, standIns := [], harness := (true, "72ab46080a9f104a8094fe176e13fe825ba60d453fd1adc2c6ff95cbcd5e5875"), looks := false }, kinds := [], alts := [], laidByText := true, laidKinds := [.data], laidTests := true, laidLooks := .later }
def VoteBoxesUptoCardSaid : Prop := Claim7.holds Tryd.pinned (.plain (OpenSpec.upto voteBoxesSpec)) voteBoxesUptoCard

/-- THE SECOND FORM's CARD OF 'wapentakelaw19.RoundQuick'. -/
def roundQuickUptoCard : Claim7 := { stood := { row := roundQuickUptoRow, standIns := [], harness := (true, "72ab46080a9f104a8094fe176e13fe825ba60d453fd1adc2c6ff95cbcd5e5875"), looks := false }, kinds := [], alts := [], laidByText := true, laidKinds := [.data], laidTests := true, laidLooks := .later }
def RoundQuickUptoCardSaid : Prop := Claim7.holds Tryd.pinned (.plain (OpenSpec.upto roundQuickSpec)) roundQuickUptoCard

/-- THE SECOND FORM's CARD OF 'wapentakelaw19.RoundNone'. -/
def roundNoneUptoCard : Claim7 := { stood := { row := roundNoneUptoRow, standIns := [], harness := (true, "72ab46080a9f104a8094fe176e13fe825ba60d453fd1adc2c6ff95cbcd5e5875"), looks := false }, kinds := [], alts := [], laidByText := true, laidKinds := [.data], laidTests := true, laidLooks := .later }
def RoundNoneUptoCardSaid : Prop := Claim7.holds Tryd.pinned (.plain (OpenSpec.upto roundNoneSpec)) roundNoneUptoCard

/-- THE SECOND FORM's CARD OF 'wapentakelaw19.RoundOnce'. -/
def roundOnceUptoCard : Claim7 := { stood := { row := roundOnceUptoRow, standIns := [], harness := (true, "72ab46080a9f104a8094fe176e13fe825ba60d453fd1adc2c6ff95cbcd5e5875"), looks := false }, kinds := [], alts := [], laidByText := true, laidKinds := [.data], laidTests := true, laidLooks := .later }
def RoundOnceUptoCardSaid : Prop := Claim7.holds Tryd.pinned (.plain (OpenSpec.upto roundOnceSpec)) roundOnceUptoCard

/-- THE SECOND FORM's CARD OF 'wapentakelaw19.RoundAgrees'. -/
def roundAgreesUptoCard : Claim7 := { stood := { row := roundAgreesUptoRow, standIns := [], harness := (true, "72ab46080a9f104a8094fe176e13fe825ba60d453fd1adc2c6ff95cbcd5e5875"), looks := false }, kinds := [], alts := [], laidByText := true, laidKinds := [.data], laidTests := true, laidLooks := .later }
def RoundAgreesUptoCardSaid : Prop := Claim7.holds Tryd.pinned (.plain (OpenSpec.upto roundAgreesSpec)) roundAgreesUptoCard
end Rows
end Go.Proofs.YtimmoekliphobaaDoor
