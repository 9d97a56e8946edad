/-
  DERIVED. GIVEN WITH THE SEED: THE CARDS: each row of YtbbdlcmcndhhkaaDoorRows.lean that lists a variable, with what it lists TIED to the program's text (the seventh form; the later family's looks); each row that meets fmt, with fmt's text TOLD by the authors' own Lean function (tested against real Go, not proved from fmt's source: count such statements apart). THE CARD IS WHAT COUNTS. Prove the row's statement (the work); the ties are given (YtbbdlcmcndhhkaaDoorTie.lean); close each card by the builder's one call (the guide's Derived/Test/ToyasCard.lean, 'card_holds'). Laid BY PROGRAM, IN A SANDBOX (cutbox-door.mjs). By AI agents, Wed Nov 11 2026. No macro, syntax, notation, axiom, sorry.
-/
import Derived.Test.YtbbdlcmcndhhkaaDoorRows
import GoSem.ClaimSeven
namespace Go.Proofs.YtbbdlcmcndhhkaaDoor
namespace Rows

/-- THE TIED CARD OF 'whirligiglaw01.ValReads'. -/
def valReadsCard : Claim7 := { stood := { row := valReadsRow, standIns := [], harness := (true, "40d63b1996e91d4c5b34bee4204bffe395e798ebeac1de4c6b55cb53dfe22ed4"), looks := true }, kinds := [], alts := [], laidByText := true, laidKinds := [.data, .data, .data, .sentinel, .sentinel], laidTests := true, laidLooks := .later }
def ValReadsCardSaid : Prop := Claim7.holds Tryd.pinned (.plain (OpenSpec.ofChange valReadsSpec)) valReadsCard

/-- THE TIED CARD OF 'whirligiglaw01.ValShows'. -/
def valShowsCard : Claim7 := { stood := { row := valShowsRow, standIns := [], harness := (true, "40d63b1996e91d4c5b34bee4204bffe395e798ebeac1de4c6b55cb53dfe22ed4"), looks := true }, kinds := [], alts := [], laidByText := true, laidKinds := [.data, .data, .data, .sentinel, .sentinel], laidTests := true, laidLooks := .later }
def ValShowsCardSaid : Prop := Claim7.holds Tryd.pinned (.plain (OpenSpec.ofChange valShowsSpec)) valShowsCard

/-- THE TIED CARD OF 'whirligiglaw01.ValLaws'. -/
def valLawsCard : Claim7 := { stood := { row := valLawsRow, standIns := [], harness := (true, "40d63b1996e91d4c5b34bee4204bffe395e798ebeac1de4c6b55cb53dfe22ed4"), looks := true }, kinds := [], alts := [], laidByText := true, laidKinds := [.data, .data, .data], laidTests := true, laidLooks := .later }
def ValLawsCardSaid : Prop := Claim7.holds Tryd.pinned (.plain (OpenSpec.ofChange valLawsSpec)) valLawsCard

/-- THE TIED CARD OF 'whirligiglaw01.ValOrders'. -/
def valOrdersCard : Claim7 := { stood := { row := valOrdersRow, standIns := [], harness := (true, "40d63b1996e91d4c5b34bee4204bffe395e798ebeac1de4c6b55cb53dfe22ed4"), looks := true }, kinds := [], alts := [], laidByText := true, laidKinds := [.data, .data, .data], laidTests := true, laidLooks := .later }
def ValOrdersCardSaid : Prop := Claim7.holds Tryd.pinned (.plain (OpenSpec.ofChange valOrdersSpec)) valOrdersCard

/-- THE TIED CARD OF 'whirligiglaw01.ValReckons'. -/
def valReckonsCard : Claim7 := { stood := { row := valReckonsRow, standIns := [], harness := (true, "40d63b1996e91d4c5b34bee4204bffe395e798ebeac1de4c6b55cb53dfe22ed4"), looks := true }, kinds := [], alts := [], laidByText := true, laidKinds := [.data, .data, .data], laidTests := true, laidLooks := .later }
def ValReckonsCardSaid : Prop := Claim7.holds Tryd.pinned (.plain (OpenSpec.ofChange valReckonsSpec)) valReckonsCard

/-- THE TIED CARD OF 'whirligiglaw01.ValMakes'. -/
def valMakesCard : Claim7 := { stood := { row := valMakesRow, standIns := [], harness := (true, "40d63b1996e91d4c5b34bee4204bffe395e798ebeac1de4c6b55cb53dfe22ed4"), looks := true }, kinds := [], alts := [], laidByText := true, laidKinds := [.data, .data, .data], laidTests := true, laidLooks := .later }
def ValMakesCardSaid : Prop := Claim7.holds Tryd.pinned (.plain (OpenSpec.ofChange valMakesSpec)) valMakesCard

/-- THE SECOND FORM's CARD OF 'whirligiglaw01.ValReads'. -/
def valReadsUptoCard : Claim7 := { stood := { row := valReadsUptoRow, standIns := [], harness := (true, "40d63b1996e91d4c5b34bee4204bffe395e798ebeac1de4c6b55cb53dfe22ed4"), looks := true }, kinds := [], alts := [], laidByText := true, laidKinds := [.data, .data, .data, .sentinel, .sentinel], laidTests := true, laidLooks := .later }
def ValReadsUptoCardSaid : Prop := Claim7.holds Tryd.pinned (.plain (OpenSpec.upto valReadsSpec)) valReadsUptoCard

/-- THE SECOND FORM's CARD OF 'whirligiglaw01.ValShows'. -/
def valShowsUptoCard : Claim7 := { stood := { row := valShowsUptoRow, standIns := [], harness := (true, "40d63b1996e91d4c5b34bee4204bffe395e798ebeac1de4c6b55cb53dfe22ed4"), looks := true }, kinds := [], alts := [], laidByText := true, laidKinds := [.data, .data, .data, .sentinel, .sentinel], laidTests := true, laidLooks := .later }
def ValShowsUptoCardSaid : Prop := Claim7.holds Tryd.pinned (.plain (OpenSpec.upto valShowsSpec)) valShowsUptoCard

/-- THE SECOND FORM's CARD OF 'whirligiglaw01.ValLaws'. -/
def valLawsUptoCard : Claim7 := { stood := { row := valLawsUptoRow, standIns := [], harness := (true, "40d63b1996e91d4c5b34bee4204bffe395e798ebeac1de4c6b55cb53dfe22ed4"), looks := true }, kinds := [], alts := [], laidByText := true, laidKinds := [.data, .data, .data], laidTests := true, laidLooks := .later }
def ValLawsUptoCardSaid : Prop := Claim7.holds Tryd.pinned (.plain (OpenSpec.upto valLawsSpec)) valLawsUptoCard

/-- THE SECOND FORM's CARD OF 'whirligiglaw01.ValOrders'. -/
def valOrdersUptoCard : Claim7 := { stood := { row := valOrdersUptoRow, standIns := [], harness := (true, "40d63b1996e91d4c5b34bee4204bffe395e798ebeac1de4c6b55cb53dfe22ed4"), looks := true }, kinds := [], alts := [], laidByText := true, laidKinds := [.data, .data, .data], laidTests := true, laidLooks := .later }
def ValOrdersUptoCardSaid : Prop := Claim7.holds Tryd.pinned (.plain (OpenSpec.upto valOrdersSpec)) valOrdersUptoCard

/-- THE SECOND FORM's CARD OF 'whirligiglaw01.ValReckons'. -/
def valReckonsUptoCard : Claim7 := { stood := { row := valReckonsUptoRow, standIns := [], harness := (true, "40d63b1996e91d4c5b34bee4204bffe395e798ebeac1de4c6b55cb53dfe22ed4"), looks := true }, kinds := [], alts := [], laidByText := true, laidKinds := [.data, .data, .data], laidTests := true, laidLooks := .later }
def ValReckonsUptoCardSaid : Prop := Claim7.holds Tryd.pinned (.plain (OpenSpec.upto valReckonsSpec)) valReckonsUptoCard

/-- THE SECOND FORM's CARD OF 'whirligiglaw01.ValMakes'. -/
def valMakesUptoCard : Claim7 := { stood := { row := valMakesUptoRow, standIns := [], harness := (true, "40d63b1996e91d4c5b34bee4204bffe395e798ebeac1de4c6b55cb53dfe22ed4"), looks := true }, kinds := [], alts := [], laidByText := true, laidKinds := [.data, .data, .data], laidTests := true, laidLooks := .later }
def ValMakesUptoCardSaid : Prop := Claim7.holds Tryd.pinned (.plain (OpenSpec.upto valMakesSpec)) valMakesUptoCard
end Rows
end Go.Proofs.YtbbdlcmcndhhkaaDoor
