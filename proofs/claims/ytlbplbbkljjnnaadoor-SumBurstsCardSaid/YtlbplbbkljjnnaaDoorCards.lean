/-
  DERIVED. GIVEN WITH THE SEED: THE CARDS: each row of YtlbplbbkljjnnaaDoorRows.lean that lists a variable, with what it lists TIED to the program's text (the seventh form; the later family's looks); each row that meets fmt, with fmt's text TOLD by the authors' own Lean function (tested against real Go, not proved from fmt's source: count such statements apart). THE CARD IS WHAT COUNTS. Prove the row's statement (the work); the ties are given (YtlbplbbkljjnnaaDoorTie.lean); close each card by the builder's one call (the guide's Derived/Test/ToyasCard.lean, 'card_holds'). Laid BY PROGRAM, IN A SANDBOX (cutbox-door.mjs). By AI agents, Wed Nov 11 2026. No macro, syntax, notation, axiom, sorry.
-/
import Derived.Test.YtlbplbbkljjnnaaDoorRows
import GoSem.ClaimSeven
namespace Go.Proofs.YtlbplbbkljjnnaaDoor
namespace Rows

/-- THE TIED CARD OF 'whirligiglaw25.SumOf'. -/
def sumOfCard : Claim7 := { stood := { row := sumOfRow, standIns := [], harness := (true, "b6d5acbb3756f799e5d79f28e0af9894e31b03f1acc1c320cc9dedf27c7578fc"), looks := false }, kinds := [], alts := [], laidByText := true, laidKinds := [.data, .data, .data], laidTests := true, laidLooks := .later }
def SumOfCardSaid : Prop := Claim7.holds Tryd.pinned (.plain (OpenSpec.ofChange sumOfSpec)) sumOfCard

/-- THE TIED CARD OF 'whirligiglaw25.SumBits'. -/
def sumBitsCard : Claim7 := { stood := { row := sumBitsRow, standIns := [], harness := (true, "b6d5acbb3756f799e5d79f28e0af9894e31b03f1acc1c320cc9dedf27c7578fc"), looks := false }, kinds := [], alts := [], laidByText := true, laidKinds := [.data, .data, .data], laidTests := true, laidLooks := .later }
def SumBitsCardSaid : Prop := Claim7.holds Tryd.pinned (.plain (OpenSpec.ofChange sumBitsSpec)) sumBitsCard

/-- THE TIED CARD OF 'whirligiglaw25.SumBursts'. -/
def sumBurstsCard : Claim7 := { stood := { row := sumBurstsRow, standIns := [], harness := (true, "b6d5acbb3756f799e5d79f28e0af9894e31b03f1acc1c320cc9dedf27c7578fc"), looks := false }, kinds := [], alts := [], laidByText := true, laidKinds := [.data, .data, .data], laidTests := true, laidLooks := .later }
def SumBurstsCardSaid : Prop := Claim7.holds Tryd.pinned (.plain (OpenSpec.ofChange sumBurstsSpec)) sumBurstsCard

/-- THE TIED CARD OF 'whirligiglaw25.SumReads'. -/
def sumReadsCard : Claim7 := { stood := { row := sumReadsRow, standIns := [], harness := (true, "b6d5acbb3756f799e5d79f28e0af9894e31b03f1acc1c320cc9dedf27c7578fc"), looks := false }, kinds := [], alts := [], laidByText := true, laidKinds := [.data, .data, .data], laidTests := true, laidLooks := .later }
def SumReadsCardSaid : Prop := Claim7.holds Tryd.pinned (.plain (OpenSpec.ofChange sumReadsSpec)) sumReadsCard

/-- THE SECOND FORM's CARD OF 'whirligiglaw25.SumOf'. -/
def sumOfUptoCard : Claim7 := { stood := { row := sumOfUptoRow, standIns := [], harness := (true, "b6d5acbb3756f799e5d79f28e0af9894e31b03f1acc1c320cc9dedf27c7578fc"), looks := false }, kinds := [], alts := [], laidByText := true, laidKinds := [.data, .data, .data], laidTests := true, laidLooks := .later }
def SumOfUptoCardSaid : Prop := Claim7.holds Tryd.pinned (.plain (OpenSpec.upto sumOfSpec)) sumOfUptoCard

/-- THE SECOND FORM's CARD OF 'whirligiglaw25.SumBits'. -/
def sumBitsUptoCard : Claim7 := { stood := { row := sumBitsUptoRow, standIns := [], harness := (true, "b6d5acbb3756f799e5d79f28e0af9894e31b03f1acc1c320cc9dedf27c7578fc"), looks := false }, kinds := [], alts := [], laidByText := true, laidKinds := [.data, .data, .data], laidTests := true, laidLooks := .later }
def SumBitsUptoCardSaid : Prop := Claim7.holds Tryd.pinned (.plain (OpenSpec.upto sumBitsSpec)) sumBitsUptoCard

/-- THE SECOND FORM's CARD OF 'whirligiglaw25.SumBursts'. -/
def sumBurstsUptoCard : Claim7 := { stood := { row := sumBurstsUptoRow, standIns := [], harness := (true, "b6d5acbb3756f799e5d79f28e0af9894e31b03f1acc1c320cc9dedf27c7578fc"), looks := false }, kinds := [], alts := [], laidByText := true, laidKinds := [.data, .data, .data], laidTests := true, laidLooks := .later }
def SumBurstsUptoCardSaid : Prop := Claim7.holds Tryd.pinned (.plain (OpenSpec.upto sumBurstsSpec)) sumBurstsUptoCard

/-- THE SECOND FORM's CARD OF 'whirligiglaw25.SumReads'. -/
def sumReadsUptoCard : Claim7 := { stood := { row := sumReadsUptoRow, standIns := [], harness := (true, "b6d5acbb3756f799e5d79f28e0af9894e31b03f1acc1c320cc9dedf27c7578fc"), looks := false }, kinds := [], alts := [], laidByText := true, laidKinds := [.data, .data, .data], laidTests := true, laidLooks := .later }
def SumReadsUptoCardSaid : Prop := Claim7.holds Tryd.pinned (.plain (OpenSpec.upto sumReadsSpec)) sumReadsUptoCard
end Rows
end Go.Proofs.YtlbplbbkljjnnaaDoor
