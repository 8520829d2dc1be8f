/-
  DERIVED. GIVEN WITH THE SEED: THE CARDS: each row of YtbegnjhfhnaagaaDoorRows.lean that lists a variable, with what it lists TIED to the program's text (the seventh form; the later family's looks); each row that meets fmt, with fmt's text TOLD by the authors' own Lean function (tested against real Go, not proved from fmt's source: count such statements apart). THE CARD IS WHAT COUNTS. Prove the row's statement (the work); the ties are given (YtbegnjhfhnaagaaDoorTie.lean); close each card by the builder's one call (the guide's Derived/Test/ToyasCard.lean, 'card_holds'). Laid BY PROGRAM, IN A SANDBOX (cutbox-door.mjs). By AI agents, Wed Nov 11 2026. No macro, syntax, notation, axiom, sorry.
-/
import Derived.Test.YtbegnjhfhnaagaaDoorRows
import GoSem.ClaimSeven
namespace Go.Proofs.YtbegnjhfhnaagaaDoor
namespace Rows

/-- THE TIED CARD OF 'triglyphlaw01.WordSums'. -/
def wordSumsCard : Claim7 := { stood := { row := wordSumsRow, standIns := [], harness := (true, "3769ca5a00bbf0d2cfb8dcb3cd71b79add7c71e1b21667c2ce61f65a22598d95"), looks := false }, kinds := [], alts := [], laidByText := true, laidKinds := [.data, .data, .data, .data, .pinned], laidTests := true, laidLooks := .later }
def WordSumsCardSaid : Prop := Claim7.holds Tryd.pinned (.plain (OpenSpec.ofChange wordSumsSpec)) wordSumsCard

/-- THE TIED CARD OF 'triglyphlaw01.WordDivs'. -/
def wordDivsCard : Claim7 := { stood := { row := wordDivsRow, standIns := [], harness := (true, "3769ca5a00bbf0d2cfb8dcb3cd71b79add7c71e1b21667c2ce61f65a22598d95"), looks := false }, kinds := [], alts := [], laidByText := true, laidKinds := [.data, .data, .data, .data, .pinned], laidTests := true, laidLooks := .later }
def WordDivsCardSaid : Prop := Claim7.holds Tryd.pinned (.plain (OpenSpec.ofChange wordDivsSpec)) wordDivsCard

/-- THE TIED CARD OF 'triglyphlaw01.WordTexts'. -/
def wordTextsCard : Claim7 := { stood := { row := wordTextsRow, standIns := [], harness := (true, "3769ca5a00bbf0d2cfb8dcb3cd71b79add7c71e1b21667c2ce61f65a22598d95"), looks := false }, kinds := [], alts := [], laidByText := true, laidKinds := [.data, .data, .data, .data, .pinned], laidTests := true, laidLooks := .later }
def WordTextsCardSaid : Prop := Claim7.holds Tryd.pinned (.plain (OpenSpec.ofChange wordTextsSpec)) wordTextsCard

/-- THE TIED CARD OF 'triglyphlaw01.WordAll'. -/
def wordAllCard : Claim7 := { stood := { row := wordAllRow, standIns := [], harness := (true, "3769ca5a00bbf0d2cfb8dcb3cd71b79add7c71e1b21667c2ce61f65a22598d95"), looks := false }, kinds := [], alts := [], laidByText := true, laidKinds := [.data, .data, .data, .data, .pinned], laidTests := true, laidLooks := .later }
def WordAllCardSaid : Prop := Claim7.holds Tryd.pinned (.plain (OpenSpec.ofChange wordAllSpec)) wordAllCard

/-- THE TIED CARD OF 'triglyphlaw01.WordRing'. -/
def wordRingCard : Claim7 := { stood := { row := wordRingRow, standIns := [], harness := (true, "3769ca5a00bbf0d2cfb8dcb3cd71b79add7c71e1b21667c2ce61f65a22598d95"), looks := false }, kinds := [], alts := [], laidByText := true, laidKinds := [.data, .data, .data, .data, .pinned], laidTests := true, laidLooks := .later }
def WordRingCardSaid : Prop := Claim7.holds Tryd.pinned (.plain (OpenSpec.ofChange wordRingSpec)) wordRingCard

/-- THE TIED CARD OF 'triglyphlaw01.WordBack'. -/
def wordBackCard : Claim7 := { stood := { row := wordBackRow, standIns := [], harness := (true, "3769ca5a00bbf0d2cfb8dcb3cd71b79add7c71e1b21667c2ce61f65a22598d95"), looks := false }, kinds := [], alts := [], laidByText := true, laidKinds := [.data, .data, .data, .data, .pinned], laidTests := true, laidLooks := .later }
def WordBackCardSaid : Prop := Claim7.holds Tryd.pinned (.plain (OpenSpec.ofChange wordBackSpec)) wordBackCard

/-- THE TIED CARD OF 'triglyphlaw01.WordRange'. -/
def wordRangeCard : Claim7 := { stood := { row := wordRangeRow, standIns := [], harness := (true, "3769ca5a00bbf0d2cfb8dcb3cd71b79add7c71e1b21667c2ce61f65a22598d95"), looks := false }, kinds := [], alts := [], laidByText := true, laidKinds := [.data, .data, .data, .data, .pinned], laidTests := true, laidLooks := .later }
def WordRangeCardSaid : Prop := Claim7.holds Tryd.pinned (.plain (OpenSpec.ofChange wordRangeSpec)) wordRangeCard

/-- THE SECOND FORM's CARD OF 'triglyphlaw01.WordSums'. -/
def wordSumsUptoCard : Claim7 := { stood := { row := wordSumsUptoRow, standIns := [], harness := (true, "3769ca5a00bbf0d2cfb8dcb3cd71b79add7c71e1b21667c2ce61f65a22598d95"), looks := false }, kinds := [], alts := [], laidByText := true, laidKinds := [.data, .data, .data, .data, .pinned], laidTests := true, laidLooks := .later }
def WordSumsUptoCardSaid : Prop := Claim7.holds Tryd.pinned (.plain (OpenSpec.upto wordSumsSpec)) wordSumsUptoCard

/-- THE SECOND FORM's CARD OF 'triglyphlaw01.WordDivs'. -/
def wordDivsUptoCard : Claim7 := { stood := { row := wordDivsUptoRow, standIns := [], harness := (true, "3769ca5a00bbf0d2cfb8dcb3cd71b79add7c71e1b21667c2ce61f65a22598d95"), looks := false }, kinds := [], alts := [], laidByText := true, laidKinds := [.data, .data, .data, .data, .pinned], laidTests := true, laidLooks := .later }
def WordDivsUptoCardSaid : Prop := Claim7.holds Tryd.pinned (.plain (OpenSpec.upto wordDivsSpec)) wordDivsUptoCard

/-- THE SECOND FORM's CARD OF 'triglyphlaw01.WordTexts'. -/
def wordTextsUptoCard : Claim7 := { stood := { row := wordTextsUptoRow, standIns := [], harness := (true, "3769ca5a00bbf0d2cfb8dcb3cd71b79add7c71e1b21667c2ce61f65a22598d95"), looks := false }, kinds := [], alts := [], laidByText := true, laidKinds := [.data, .data, .data, .data, .pinned], laidTests := true, laidLooks := .later }
def WordTextsUptoCardSaid : Prop := Claim7.holds Tryd.pinned (.plain (OpenSpec.upto wordTextsSpec)) wordTextsUptoCard

/-- THE SECOND FORM's CARD OF 'triglyphlaw01.WordAll'. -/
def wordAllUptoCard : Claim7 := { stood := { row := wordAllUptoRow, standIns := [], harness := (true, "3769ca5a00bbf0d2cfb8dcb3cd71b79add7c71e1b21667c2ce61f65a22598d95"), looks := false }, kinds := [], alts := [], laidByText := true, laidKinds := [.data, .data, .data, .data, .pinned], laidTests := true, laidLooks := .later }
def WordAllUptoCardSaid : Prop := Claim7.holds Tryd.pinned (.plain (OpenSpec.upto wordAllSpec)) wordAllUptoCard

/-- THE SECOND FORM's CARD OF 'triglyphlaw01.WordRing'. -/
def wordRingUptoCard : Claim7 := { stood := { row := wordRingUptoRow, standIns := [], harness := (true, "3769ca5a00bbf0d2cfb8dcb3cd71b79add7c71e1b21667c2ce61f65a22598d95"), looks := false }, kinds := [], alts := [], laidByText := true, laidKinds := [.data, .data, .data, .data, .pinned], laidTests := true, laidLooks := .later }
def WordRingUptoCardSaid : Prop := Claim7.holds Tryd.pinned (.plain (OpenSpec.upto wordRingSpec)) wordRingUptoCard

/-- THE SECOND FORM's CARD OF 'triglyphlaw01.WordBack'. -/
def wordBackUptoCard : Claim7 := { stood := { row := wordBackUptoRow, standIns := [], harness := (true, "3769ca5a00bbf0d2cfb8dcb3cd71b79add7c71e1b21667c2ce61f65a22598d95"), looks := false }, kinds := [], alts := [], laidByText := true, laidKinds := [.data, .data, .data, .data, .pinned], laidTests := true, laidLooks := .later }
def WordBackUptoCardSaid : Prop := Claim7.holds Tryd.pinned (.plain (OpenSpec.upto wordBackSpec)) wordBackUptoCard

/-- THE SECOND FORM's CARD OF 'triglyphlaw01.WordRange'. -/
def wordRangeUptoCard : Claim7 := { stood := { row := wordRangeUptoRow, standIns := [], harness := (true, "3769ca5a00bbf0d2cfb8dcb3cd71b79add7c71e1b21667c2ce61f65a22598d95"), looks := false }, kinds := [], alts := [], laidByText := true, laidKinds := [.data, .data, .data, .data, .pinned], laidTests := true, laidLooks := .later }
def WordRangeUptoCardSaid : Prop := Claim7.holds Tryd.pinned (.plain (OpenSpec.upto wordRangeSpec)) wordRangeUptoCard
end Rows
end Go.Proofs.YtbegnjhfhnaagaaDoor
