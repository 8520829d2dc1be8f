/-
  DERIVED. GIVEN WITH THE SEED: THE CARDS: each row of YtcagoomibpcdlaaGreatDoorRows.lean that lists a variable, with what it lists TIED to the program's text (the seventh form; the later family's looks); each row that meets fmt, with fmt's text TOLD by the authors' own Lean function (tested against real Go, not proved from fmt's source: count such statements apart). THE CARD IS WHAT COUNTS. Prove the row's statement (the work); the ties are given (YtcagoomibpcdlaaGreatDoorTie.lean); close each card by the builder's one call (the guide's Derived/Test/ToyasCard.lean, 'card_holds'). Laid BY PROGRAM, IN A SANDBOX (cutbox-door.mjs). By AI agents, Wed Nov 11 2026. No macro, syntax, notation, axiom, sorry.
-/
import Derived.Test.YtcagoomibpcdlaaGreatDoorRows
import GoSem.ClaimSeven
namespace Go.Proofs.YtcagoomibpcdlaaGreatDoor
namespace Rows

/-- THE TIED CARD OF 'triglyphlaw21.VmRuns'. -/
def vmRunsCard : Claim7 := { stood := { row := vmRunsRow, standIns := [], harness := (true, "a5d788bc9bad30aeee99861f231cfbc73751a606f8a62379fc461aefd4fe9212"), looks := false }, kinds := [], alts := [], laidByText := true, laidKinds := [.data, .data, .data, .data, .data, .listed, .data, .pinned], laidTests := true, laidLooks := .later }
def VmRunsCardSaid : Prop := Claim7.holds Tryz.pinned (.plain (OpenSpec.ofChange vmRunsSpec)) vmRunsCard

/-- THE TIED CARD OF 'triglyphlaw21.VmWords'. -/
def vmWordsCard : Claim7 := { stood := { row := vmWordsRow, standIns := [], harness := (true, "a5d788bc9bad30aeee99861f231cfbc73751a606f8a62379fc461aefd4fe9212"), looks := false }, kinds := [], alts := [], laidByText := true, laidKinds := [.data, .data, .data, .data, .data, .listed, .data, .pinned], laidTests := true, laidLooks := .later }
def VmWordsCardSaid : Prop := Claim7.holds Tryz.pinned (.plain (OpenSpec.ofChange vmWordsSpec)) vmWordsCard

/-- THE TIED CARD OF 'triglyphlaw21.VmFuels'. -/
def vmFuelsCard : Claim7 := { stood := { row := vmFuelsRow, standIns := [], harness := (true, "a5d788bc9bad30aeee99861f231cfbc73751a606f8a62379fc461aefd4fe9212"), looks := false }, kinds := [], alts := [], laidByText := true, laidKinds := [.data, .data, .data, .data, .data, .listed, .data, .pinned], laidTests := true, laidLooks := .later }
def VmFuelsCardSaid : Prop := Claim7.holds Tryz.pinned (.plain (OpenSpec.ofChange vmFuelsSpec)) vmFuelsCard

/-- THE TIED CARD OF 'triglyphlaw21.VmEnds'. -/
def vmEndsCard : Claim7 := { stood := { row := vmEndsRow, standIns := [], harness := (true, "a5d788bc9bad30aeee99861f231cfbc73751a606f8a62379fc461aefd4fe9212"), looks := false }, kinds := [], alts := [], laidByText := true, laidKinds := [.data, .data, .data, .data, .data, .listed, .data, .pinned], laidTests := true, laidLooks := .later }
def VmEndsCardSaid : Prop := Claim7.holds Tryz.pinned (.plain (OpenSpec.ofChange vmEndsSpec)) vmEndsCard

/-- THE TIED CARD OF 'triglyphlaw21.VmFirst'. -/
def vmFirstCard : Claim7 := { stood := { row := vmFirstRow, standIns := [], harness := (true, "a5d788bc9bad30aeee99861f231cfbc73751a606f8a62379fc461aefd4fe9212"), looks := false }, kinds := [], alts := [], laidByText := true, laidKinds := [.data, .data, .data, .data, .data, .listed, .data, .pinned], laidTests := true, laidLooks := .later }
def VmFirstCardSaid : Prop := Claim7.holds Tryz.pinned (.plain (OpenSpec.ofChange vmFirstSpec)) vmFirstCard

/-- THE SECOND FORM's CARD OF 'triglyphlaw21.VmRuns'. -/
def vmRunsUptoCard : Claim7 := { stood := { row := vmRunsUptoRow, standIns := [], harness := (true, "a5d788bc9bad30aeee99861f231cfbc73751a606f8a62379fc461aefd4fe9212"), looks := false }, kinds := [], alts := [], laidByText := true, laidKinds := [.data, .data, .data, .data, .data, .listed, .data, .pinned], laidTests := true, laidLooks := .later }
def VmRunsUptoCardSaid : Prop := Claim7.holds Tryz.pinned (.plain (OpenSpec.upto vmRunsSpec)) vmRunsUptoCard

/-- THE SECOND FORM's CARD OF 'triglyphlaw21.VmWords'. -/
def vmWordsUptoCard : Claim7 := { stood := { row := vmWordsUptoRow, standIns := [], harness := (true, "a5d788bc9bad30aeee99861f231cfbc73751a606f8a62379fc461aefd4fe9212"), looks := false }, kinds := [], alts := [], laidByText := true, laidKinds := [.data, .data, .data, .data, .data, .listed, .data, .pinned], laidTests := true, laidLooks := .later }
def VmWordsUptoCardSaid : Prop := Claim7.holds Tryz.pinned (.plain (OpenSpec.upto vmWordsSpec)) vmWordsUptoCard

/-- THE SECOND FORM's CARD OF 'triglyphlaw21.VmFuels'. -/
def vmFuelsUptoCard : Claim7 := { stood := { row := vmFuelsUptoRow, standIns := [], harness := (true, "a5d788bc9bad30aeee99861f231cfbc73751a606f8a62379fc461aefd4fe9212"), looks := false }, kinds := [], alts := [], laidByText := true, laidKinds := [.data, .data, .data, .data, .data, .listed, .data, .pinned], laidTests := true, laidLooks := .later }
def VmFuelsUptoCardSaid : Prop := Claim7.holds Tryz.pinned (.plain (OpenSpec.upto vmFuelsSpec)) vmFuelsUptoCard

/-- THE SECOND FORM's CARD OF 'triglyphlaw21.VmEnds'. -/
def vmEndsUptoCard : Claim7 := { stood := { row := vmEndsUptoRow, standIns := [], harness := (true, "a5d788bc9bad30aeee99861f231cfbc73751a606f8a62379fc461aefd4fe9212"), looks := false }, kinds := [], alts := [], laidByText := true, laidKinds := [.data, .data, .data, .data, .data, .listed, .data, .pinned], laidTests := true, laidLooks := .later }
def VmEndsUptoCardSaid : Prop := Claim7.holds Tryz.pinned (.plain (OpenSpec.upto vmEndsSpec)) vmEndsUptoCard

/-- THE SECOND FORM's CARD OF 'triglyphlaw21.VmFirst'. -/
def vmFirstUptoCard : Claim7 := { stood := { row := vmFirstUptoRow, standIns := [], harness := (true, "a5d788bc9bad30aeee99861f231cfbc73751a606f8a62379fc461aefd4fe9212"), looks := false }, kinds := [], alts := [], laidByText := true, laidKinds := [.data, .data, .data, .data, .data, .listed, .data, .pinned], laidTests := true, laidLooks := .later }
def VmFirstUptoCardSaid : Prop := Claim7.holds Tryz.pinned (.plain (OpenSpec.upto vmFirstSpec)) vmFirstUptoCard
end Rows
end Go.Proofs.YtcagoomibpcdlaaGreatDoor
