/-
  DERIVED. GIVEN WITH THE SEED: THE CARDS: each row of YthpfekjbfhldcaaDoorRows.lean that lists a variable, with what it lists TIED to the program's text (the seventh form; the later family's looks); each row that meets fmt, with fmt's text TOLD by the authors' own Lean function (tested against real Go, not proved from fmt's source: count such statements apart). THE CARD IS WHAT COUNTS. Prove the row's statement (the work); the ties are given (YthpfekjbfhldcaaDoorTie.lean); close each card by the builder's one call (the guide's Derived/Test/ToyasCard.lean, 'card_holds'). Laid BY PROGRAM, IN A SANDBOX (cutbox-door.mjs). By AI agents, Wed Nov 11 2026. No macro, syntax, notation, axiom, sorry.
-/
import Derived.Test.YthpfekjbfhldcaaDoorRows
import GoSem.ClaimSeven
namespace Go.Proofs.YthpfekjbfhldcaaDoor
namespace Rows

/-- THE TIED CARD OF 'whirligiglaw32.SayWords'. -/
def sayWordsCard : Claim7 := { stood := { row := sayWordsRow, standIns := [], harness := (true, "8f2f69cfcdd115f382657e165be4cc5dcedbc73abc9c41ef210d62f3d73a35c5"), looks := true }, kinds := [], alts := [], laidByText := true, laidKinds := [.data, .data, .data], laidTests := true, laidLooks := .later }
def SayWordsCardSaid : Prop := Claim7.holds Tryd.pinned (.plain (OpenSpec.ofChange sayWordsSpec)) sayWordsCard

/-- THE TIED CARD OF 'whirligiglaw32.SayAnswers'. -/
def sayAnswersCard : Claim7 := { stood := { row := sayAnswersRow, standIns := [], harness := (true, "8f2f69cfcdd115f382657e165be4cc5dcedbc73abc9c41ef210d62f3d73a35c5"), looks := true }, kinds := [], alts := [], laidByText := true, laidKinds := [.data, .data, .data], laidTests := true, laidLooks := .later }
def SayAnswersCardSaid : Prop := Claim7.holds Tryd.pinned (.plain (OpenSpec.ofChange sayAnswersSpec)) sayAnswersCard

/-- THE SECOND FORM's CARD OF 'whirligiglaw32.SayWords'. -/
def sayWordsUptoCard : Claim7 := { stood := { row := sayWordsUptoRow, standIns := [], harness := (true, "8f2f69cfcdd115f382657e165be4cc5dcedbc73abc9c41ef210d62f3d73a35c5"), looks := true }, kinds := [], alts := [], laidByText := true, laidKinds := [.data, .data, .data], laidTests := true, laidLooks := .later }
def SayWordsUptoCardSaid : Prop := Claim7.holds Tryd.pinned (.plain (OpenSpec.upto sayWordsSpec)) sayWordsUptoCard

/-- THE SECOND FORM's CARD OF 'whirligiglaw32.SayAnswers'. -/
def sayAnswersUptoCard : Claim7 := { stood := { row := sayAnswersUptoRow, standIns := [], harness := (true, "8f2f69cfcdd115f382657e165be4cc5dcedbc73abc9c41ef210d62f3d73a35c5"), looks := true }, kinds := [], alts := [], laidByText := true, laidKinds := [.data, .data, .data], laidTests := true, laidLooks := .later }
def SayAnswersUptoCardSaid : Prop := Claim7.holds Tryd.pinned (.plain (OpenSpec.upto sayAnswersSpec)) sayAnswersUptoCard
end Rows
end Go.Proofs.YthpfekjbfhldcaaDoor
