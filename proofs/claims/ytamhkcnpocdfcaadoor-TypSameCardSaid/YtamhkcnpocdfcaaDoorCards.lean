/-
  DERIVED. GIVEN WITH THE SEED: THE CARDS: each row of YtamhkcnpocdfcaaDoorRows.lean that lists a variable, with what it lists TIED to the program's text (the seventh form; the later family's looks); each row that meets fmt, with fmt's text TOLD by the authors' own Lean function (tested against real Go, not proved from fmt's source: count such statements apart). THE CARD IS WHAT COUNTS. Prove the row's statement (the work); the ties are given (YtamhkcnpocdfcaaDoorTie.lean); close each card by the builder's one call (the guide's Derived/Test/ToyasCard.lean, 'card_holds'). Laid BY PROGRAM, IN A SANDBOX (cutbox-door.mjs). By AI agents, Wed Nov 11 2026. No macro, syntax, notation, axiom, sorry.
-/
import Derived.Test.YtamhkcnpocdfcaaDoorRows
import GoSem.ClaimSeven
namespace Go.Proofs.YtamhkcnpocdfcaaDoor
namespace Rows

/-- THE TIED CARD OF 'triglyphlaw09.TypSame'. -/
def typSameCard : Claim7 := { stood := { row := typSameRow, standIns := [], harness := (true, "41ecae5e7bf591b1e6b29948bd1409838e684877dd66f09e8f123d4d1316caf6"), looks := false }, kinds := [], alts := [], laidByText := true, laidKinds := [.data, .data, .data, .listed, .data], laidTests := true, laidLooks := .later }
def TypSameCardSaid : Prop := Claim7.holds Tryd.pinned (.plain (OpenSpec.ofChange typSameSpec)) typSameCard

/-- THE TIED CARD OF 'triglyphlaw09.TypCanons'. -/
def typCanonsCard : Claim7 := { stood := { row := typCanonsRow, standIns := [], harness := (true, "41ecae5e7bf591b1e6b29948bd1409838e684877dd66f09e8f123d4d1316caf6"), looks := false }, kinds := [], alts := [], laidByText := true, laidKinds := [.data, .data, .data, .listed, .data], laidTests := true, laidLooks := .later }
def TypCanonsCardSaid : Prop := Claim7.holds Tryd.pinned (.plain (OpenSpec.ofChange typCanonsSpec)) typCanonsCard

/-- THE SECOND FORM's CARD OF 'triglyphlaw09.TypSame'. -/
def typSameUptoCard : Claim7 := { stood := { row := typSameUptoRow, standIns := [], harness := (true, "41ecae5e7bf591b1e6b29948bd1409838e684877dd66f09e8f123d4d1316caf6"), looks := false }, kinds := [], alts := [], laidByText := true, laidKinds := [.data, .data, .data, .listed, .data], laidTests := true, laidLooks := .later }
def TypSameUptoCardSaid : Prop := Claim7.holds Tryd.pinned (.plain (OpenSpec.upto typSameSpec)) typSameUptoCard

/-- THE SECOND FORM's CARD OF 'triglyphlaw09.TypCanons'. -/
def typCanonsUptoCard : Claim7 := { stood := { row := typCanonsUptoRow, standIns := [], harness := (true, "41ecae5e7bf591b1e6b29948bd1409838e684877dd66f09e8f123d4d1316caf6"), looks := false }, kinds := [], alts := [], laidByText := true, laidKinds := [.data, .data, .data, .listed, .data], laidTests := true, laidLooks := .later }
def TypCanonsUptoCardSaid : Prop := Claim7.holds Tryd.pinned (.plain (OpenSpec.upto typCanonsSpec)) typCanonsUptoCard
end Rows
end Go.Proofs.YtamhkcnpocdfcaaDoor
