/-
  DERIVED. GIVEN WITH THE SEED: THE CARDS: each row of YtihmbfheaghfaaaDoorRows.lean that lists a variable, with what it lists TIED to the program's text (the seventh form; the later family's looks); each row that meets fmt, with fmt's text TOLD by the authors' own Lean function (tested against real Go, not proved from fmt's source: count such statements apart). THE CARD IS WHAT COUNTS. Prove the row's statement (the work); the ties are given (YtihmbfheaghfaaaDoorTie.lean); close each card by the builder's one call (the guide's Derived/Test/ToyasCard.lean, 'card_holds'). Laid BY PROGRAM, IN A SANDBOX (cutbox-door.mjs). By AI agents, Wed Nov 11 2026. No macro, syntax, notation, axiom, sorry.
-/
import Derived.Test.YtihmbfheaghfaaaDoorRows
import GoSem.ClaimSeven
namespace Go.Proofs.YtihmbfheaghfaaaDoor
namespace Rows

/-- THE TIED CARD OF 'whirligiglaw12.EventDone'. -/
def eventDoneCard : Claim7 := { stood := { row := eventDoneRow, standIns := [], harness := (true, "2903839679769498d44946ef7d9e4e0d2d658c77de5b6ba536b6b418d1ed3302"), looks := false }, kinds := [], alts := [], laidByText := true, laidKinds := [.data, .pinned], laidTests := true, laidLooks := .later }
def EventDoneCardSaid : Prop := Claim7.holds Tryd.pinned (.plain (OpenSpec.ofChange eventDoneSpec)) eventDoneCard

/-- THE TIED CARD OF 'whirligiglaw12.EventParts'. -/
def eventPartsCard : Claim7 := { stood := { row := eventPartsRow, standIns := [], harness := (true, "2903839679769498d44946ef7d9e4e0d2d658c77de5b6ba536b6b418d1ed3302"), looks := false }, kinds := [], alts := [], laidByText := true, laidKinds := [.data, .pinned], laidTests := true, laidLooks := .later }
def EventPartsCardSaid : Prop := Claim7.holds Tryd.pinned (.plain (OpenSpec.ofChange eventPartsSpec)) eventPartsCard

/-- THE SECOND FORM's CARD OF 'whirligiglaw12.EventDone'. -/
def eventDoneUptoCard : Claim7 := { stood := { row := eventDoneUptoRow, standIns := [], harness := (true, "2903839679769498d44946ef7d9e4e0d2d658c77de5b6ba536b6b418d1ed3302"), looks := false }, kinds := [], alts := [], laidByText := true, laidKinds := [.data, .pinned], laidTests := true, laidLooks := .later }
def EventDoneUptoCardSaid : Prop := Claim7.holds Tryd.pinned (.plain (OpenSpec.upto eventDoneSpec)) eventDoneUptoCard

/-- THE SECOND FORM's CARD OF 'whirligiglaw12.EventParts'. -/
def eventPartsUptoCard : Claim7 := { stood := { row := eventPartsUptoRow, standIns := [], harness := (true, "2903839679769498d44946ef7d9e4e0d2d658c77de5b6ba536b6b418d1ed3302"), looks := false }, kinds := [], alts := [], laidByText := true, laidKinds := [.data, .pinned], laidTests := true, laidLooks := .later }
def EventPartsUptoCardSaid : Prop := Claim7.holds Tryd.pinned (.plain (OpenSpec.upto eventPartsSpec)) eventPartsUptoCard
end Rows
end Go.Proofs.YtihmbfheaghfaaaDoor
