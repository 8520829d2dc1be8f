/-
  DERIVED. GIVEN WITH THE SEED: THE CARDS: each row of YtamhkcnpocdfcaaGreatDoorRows.lean that lists a variable, with what it lists TIED to the program's text (the seventh form; the later family's looks); each row that meets fmt, with fmt's text TOLD by the authors' own Lean function (tested against real Go, not proved from fmt's source: count such statements apart). THE CARD IS WHAT COUNTS. Prove the row's statement (the work); the ties are given (YtamhkcnpocdfcaaGreatDoorTie.lean); close each card by the builder's one call (the guide's Derived/Test/ToyasCard.lean, 'card_holds'). Laid BY PROGRAM, IN A SANDBOX (cutbox-door.mjs). By AI agents, Wed Nov 11 2026. No macro, syntax, notation, axiom, sorry.
-/
import Derived.Test.YtamhkcnpocdfcaaGreatDoorRows
import GoSem.ClaimSeven
namespace Go.Proofs.YtamhkcnpocdfcaaGreatDoor
namespace Rows

/-- THE TIED CARD OF 'triglyphlaw09.TypTells'. -/
def typTellsCard : Claim7 := { stood := { row := typTellsRow, standIns := [], harness := (true, "738b557307761f71fea79257b5be0ba3a3337f67e7aaa05b0a1af5c21ef1f5d2"), looks := false }, kinds := [], alts := [], laidByText := true, laidKinds := [.data, .data, .data, .listed, .data], laidTests := true, laidLooks := .later }
def TypTellsCardSaid : Prop := Claim7.holds Tryz.pinned (.plain (OpenSpec.ofChange typTellsSpec)) typTellsCard

/-- THE TIED CARD OF 'triglyphlaw09.TypTurned'. -/
def typTurnedCard : Claim7 := { stood := { row := typTurnedRow, standIns := [], harness := (true, "738b557307761f71fea79257b5be0ba3a3337f67e7aaa05b0a1af5c21ef1f5d2"), looks := false }, kinds := [], alts := [], laidByText := true, laidKinds := [.data, .data, .data, .listed, .data], laidTests := true, laidLooks := .later }
def TypTurnedCardSaid : Prop := Claim7.holds Tryz.pinned (.plain (OpenSpec.ofChange typTurnedSpec)) typTurnedCard

/-- THE SECOND FORM's CARD OF 'triglyphlaw09.TypTells'. -/
def typTellsUptoCard : Claim7 := { stood := { row := typTellsUptoRow, standIns := [], harness := (true, "738b557307761f71fea79257b5be0ba3a3337f67e7aaa05b0a1af5c21ef1f5d2"), looks := false }, kinds := [], alts := [], laidByText := true, laidKinds := [.data, .data, .data, .listed, .data], laidTests := true, laidLooks := .later }
def TypTellsUptoCardSaid : Prop := Claim7.holds Tryz.pinned (.plain (OpenSpec.upto typTellsSpec)) typTellsUptoCard

/-- THE SECOND FORM's CARD OF 'triglyphlaw09.TypTurned'. -/
def typTurnedUptoCard : Claim7 := { stood := { row := typTurnedUptoRow, standIns := [], harness := (true, "738b557307761f71fea79257b5be0ba3a3337f67e7aaa05b0a1af5c21ef1f5d2"), looks := false }, kinds := [], alts := [], laidByText := true, laidKinds := [.data, .data, .data, .listed, .data], laidTests := true, laidLooks := .later }
def TypTurnedUptoCardSaid : Prop := Claim7.holds Tryz.pinned (.plain (OpenSpec.upto typTurnedSpec)) typTurnedUptoCard
end Rows
end Go.Proofs.YtamhkcnpocdfcaaGreatDoor
