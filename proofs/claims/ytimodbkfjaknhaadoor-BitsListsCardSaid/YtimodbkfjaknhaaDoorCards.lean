/-
  DERIVED. GIVEN WITH THE SEED: THE CARDS: each row of YtimodbkfjaknhaaDoorRows.lean that lists a variable, with what it lists TIED to the program's text (the seventh form; the later family's looks); each row that meets fmt, with fmt's text TOLD by the authors' own Lean function (tested against real Go, not proved from fmt's source: count such statements apart). THE CARD IS WHAT COUNTS. Prove the row's statement (the work); the ties are given (YtimodbkfjaknhaaDoorTie.lean); close each card by the builder's one call (the guide's Derived/Test/ToyasCard.lean, 'card_holds'). Laid BY PROGRAM, IN A SANDBOX (cutbox-door.mjs). By AI agents, Wed Nov 11 2026. No macro, syntax, notation, axiom, sorry.
-/
import Derived.Test.YtimodbkfjaknhaaDoorRows
import GoSem.ClaimSeven
namespace Go.Proofs.YtimodbkfjaknhaaDoor
namespace Rows

/-- THE TIED CARD OF 'whirligiglaw10.BitsLists'. -/
def bitsListsCard : Claim7 := { stood := { row := bitsListsRow, standIns := [], harness := (true, "077ce8af067c571f60d24228b3f89d0ebf34e0b35975374279271026163af956"), looks := false }, kinds := [], alts := [], laidByText := true, laidKinds := [.data, .data, .data], laidTests := true, laidLooks := .later }
def BitsListsCardSaid : Prop := Claim7.holds Tryd.pinned (.plain (OpenSpec.ofChange bitsListsSpec)) bitsListsCard

/-- THE TIED CARD OF 'whirligiglaw10.BitsLaws'. -/
def bitsLawsCard : Claim7 := { stood := { row := bitsLawsRow, standIns := [], harness := (true, "077ce8af067c571f60d24228b3f89d0ebf34e0b35975374279271026163af956"), looks := false }, kinds := [], alts := [], laidByText := true, laidKinds := [.data, .data, .data], laidTests := true, laidLooks := .later }
def BitsLawsCardSaid : Prop := Claim7.holds Tryd.pinned (.plain (OpenSpec.ofChange bitsLawsSpec)) bitsLawsCard

/-- THE TIED CARD OF 'whirligiglaw10.BitsSets'. -/
def bitsSetsCard : Claim7 := { stood := { row := bitsSetsRow, standIns := [], harness := (true, "077ce8af067c571f60d24228b3f89d0ebf34e0b35975374279271026163af956"), looks := false }, kinds := [], alts := [], laidByText := true, laidKinds := [.data, .data, .data], laidTests := true, laidLooks := .later }
def BitsSetsCardSaid : Prop := Claim7.holds Tryd.pinned (.plain (OpenSpec.ofChange bitsSetsSpec)) bitsSetsCard

/-- THE SECOND FORM's CARD OF 'whirligiglaw10.BitsLists'. -/
def bitsListsUptoCard : Claim7 := { stood := { row := bitsListsUptoRow, standIns := [], harness := (true, "077ce8af067c571f60d24228b3f89d0ebf34e0b35975374279271026163af956"), looks := false }, kinds := [], alts := [], laidByText := true, laidKinds := [.data, .data, .data], laidTests := true, laidLooks := .later }
def BitsListsUptoCardSaid : Prop := Claim7.holds Tryd.pinned (.plain (OpenSpec.upto bitsListsSpec)) bitsListsUptoCard

/-- THE SECOND FORM's CARD OF 'whirligiglaw10.BitsLaws'. -/
def bitsLawsUptoCard : Claim7 := { stood := { row := bitsLawsUptoRow, standIns := [], harness := (true, "077ce8af067c571f60d24228b3f89d0ebf34e0b35975374279271026163af956"), looks := false }, kinds := [], alts := [], laidByText := true, laidKinds := [.data, .data, .data], laidTests := true, laidLooks := .later }
def BitsLawsUptoCardSaid : Prop := Claim7.holds Tryd.pinned (.plain (OpenSpec.upto bitsLawsSpec)) bitsLawsUptoCard

/-- THE SECOND FORM's CARD OF 'whirligiglaw10.BitsSets'. -/
def bitsSetsUptoCard : Claim7 := { stood := { row := bitsSetsUptoRow, standIns := [], harness := (true, "077ce8af067c571f60d24228b3f89d0ebf34e0b35975374279271026163af956"), looks := false }, kinds := [], alts := [], laidByText := true, laidKinds := [.data, .data, .data], laidTests := true, laidLooks := .later }
def BitsSetsUptoCardSaid : Prop := Claim7.holds Tryd.pinned (.plain (OpenSpec.upto bitsSetsSpec)) bitsSetsUptoCard
end Rows
end Go.Proofs.YtimodbkfjaknhaaDoor
