/-
  DERIVED. GIVEN WITH THE SEED: THE CARDS: each row of YtblomnkamngnbaaGreatDoorRows.lean that lists a variable, with what it lists TIED to the program's text (the seventh form; the later family's looks); each row that meets fmt, with fmt's text TOLD by the authors' own Lean function (tested against real Go, not proved from fmt's source: count such statements apart). THE CARD IS WHAT COUNTS. Prove the row's statement (the work); the ties are given (YtblomnkamngnbaaGreatDoorTie.lean); close each card by the builder's one call (the guide's Derived/Test/ToyasCard.lean, 'card_holds'). Laid BY PROGRAM, IN A SANDBOX (cutbox-door.mjs). By AI agents, Wed Nov 11 2026. No macro, syntax, notation, axiom, sorry.
-/
import Derived.Test.YtblomnkamngnbaaGreatDoorRows
import GoSem.ClaimSeven
namespace Go.Proofs.YtblomnkamngnbaaGreatDoor
namespace Rows

/-- THE TIED CARD OF 'triglyphlaw11.InferTells'. -/
def inferTellsCard : Claim7 := { stood := { row := inferTellsRow, standIns := [], harness := (true, "f8fe079e3261c845ab46ea247c187df7a3311246b5fc0b1864e8ef86c361494e"), looks := false }, kinds := [], alts := [], laidByText := true, laidKinds := [.data, .data, .data, .listed, .data], laidTests := true, laidLooks := .later }
def InferTellsCardSaid : Prop := Claim7.holds Tryz.pinned (.plain (OpenSpec.ofChange inferTellsSpec)) inferTellsCard

/-- THE TIED CARD OF 'triglyphlaw11.InferLets'. -/
def inferLetsCard : Claim7 := { stood := { row := inferLetsRow, standIns := [], harness := (true, "f8fe079e3261c845ab46ea247c187df7a3311246b5fc0b1864e8ef86c361494e"), looks := false }, kinds := [], alts := [], laidByText := true, laidKinds := [.data, .data, .data, .listed, .data], laidTests := true, laidLooks := .later }
def InferLetsCardSaid : Prop := Claim7.holds Tryz.pinned (.plain (OpenSpec.ofChange inferLetsSpec)) inferLetsCard

/-- THE SECOND FORM's CARD OF 'triglyphlaw11.InferTells'. -/
def inferTellsUptoCard : Claim7 := { stood := { row := inferTellsUptoRow, standIns := [], harness := (true, "f8fe079e3261c845ab46ea247c187df7a3311246b5fc0b1864e8ef86c361494e"), looks := false }, kinds := [], alts := [], laidByText := true, laidKinds := [.data, .data, .data, .listed, .data], laidTests := true, laidLooks := .later }
def InferTellsUptoCardSaid : Prop := Claim7.holds Tryz.pinned (.plain (OpenSpec.upto inferTellsSpec)) inferTellsUptoCard

/-- THE SECOND FORM's CARD OF 'triglyphlaw11.InferLets'. -/
def inferLetsUptoCard : Claim7 := { stood := { row := inferLetsUptoRow, standIns := [], harness := (true, "f8fe079e3261c845ab46ea247c187df7a3311246b5fc0b1864e8ef86c361494e"), looks := false }, kinds := [], alts := [], laidByText := true, laidKinds := [.data, .data, .data, .listed, .data], laidTests := true, laidLooks := .later }
def InferLetsUptoCardSaid : Prop := Claim7.holds Tryz.pinned (.plain (OpenSpec.upto inferLetsSpec)) inferLetsUptoCard
end Rows
end Go.Proofs.YtblomnkamngnbaaGreatDoor
