/-
  DERIVED. GIVEN WITH THE SEED: THE CARDS: each row of YtjcgiiedaccjpaaGreatDoorRows.lean that lists a variable, with what it lists TIED to the program's text (the seventh form; the later family's looks); each row that meets fmt, with fmt's text TOLD by the authors' own Lean function (tested against real Go, not proved from fmt's source: count such statements apart). THE CARD IS WHAT COUNTS. Prove the row's statement (the work); the ties are given (YtjcgiiedaccjpaaGreatDoorTie.lean); close each card by the builder's one call (the guide's Derived/Test/ToyasCard.lean, 'card_holds'). Laid BY PROGRAM, IN A SANDBOX (cutbox-door.mjs). By AI agents, Wed Nov 11 2026. No macro, syntax, notation, axiom, sorry.
-/
import Derived.Test.YtjcgiiedaccjpaaGreatDoorRows
import GoSem.ClaimSeven
namespace Go.Proofs.YtjcgiiedaccjpaaGreatDoor
namespace Rows

/-- THE TIED CARD OF 'triglyphlaw14.EvalRuns'. -/
def evalRunsCard : Claim7 := { stood := { row := evalRunsRow, standIns := [], harness := (true, "cf1b28aad157743a531971d7a251c3664c1d893c7b2b0ad752e56ec4736e8a2a"), looks := true }, kinds := [], alts := [], laidByText := true, laidKinds := [.data, .data, .data, .data, .listed, .data, .pinned], laidTests := true, laidLooks := .later }
def EvalRunsCardSaid : Prop := Claim7.holds Tryz.pinned (.plain (OpenSpec.ofChange evalRunsSpec)) evalRunsCard

/-- THE TIED CARD OF 'triglyphlaw14.EvalFuels'. -/
def evalFuelsCard : Claim7 := { stood := { row := evalFuelsRow, standIns := [], harness := (true, "cf1b28aad157743a531971d7a251c3664c1d893c7b2b0ad752e56ec4736e8a2a"), looks := true }, kinds := [], alts := [], laidByText := true, laidKinds := [.data, .data, .data, .data, .listed, .data, .pinned], laidTests := true, laidLooks := .later }
def EvalFuelsCardSaid : Prop := Claim7.holds Tryz.pinned (.plain (OpenSpec.ofChange evalFuelsSpec)) evalFuelsCard

/-- THE TIED CARD OF 'triglyphlaw14.EvalBuiltins'. -/
def evalBuiltinsCard : Claim7 := { stood := { row := evalBuiltinsRow, standIns := [], harness := (true, "cf1b28aad157743a531971d7a251c3664c1d893c7b2b0ad752e56ec4736e8a2a"), looks := true }, kinds := [], alts := [], laidByText := true, laidKinds := [.data, .data, .data, .data, .listed, .data, .pinned], laidTests := true, laidLooks := .later }
def EvalBuiltinsCardSaid : Prop := Claim7.holds Tryz.pinned (.plain (OpenSpec.ofChange evalBuiltinsSpec)) evalBuiltinsCard

/-- THE SECOND FORM's CARD OF 'triglyphlaw14.EvalRuns'. -/
def evalRunsUptoCard : Claim7 := { stood := { row := evalRunsUptoRow, standIns := [], harness := (true, "cf1b28aad157743a531971d7a251c3664c1d893c7b2b0ad752e56ec4736e8a2a"), looks := true }, kinds := [], alts := [], laidByText := true, laidKinds := [.data, .data, .data, .data, .listed, .data, .pinned], laidTests := true, laidLooks := .later }
def EvalRunsUptoCardSaid : Prop := Claim7.holds Tryz.pinned (.plain (OpenSpec.upto evalRunsSpec)) evalRunsUptoCard

/-- THE SECOND FORM's CARD OF 'triglyphlaw14.EvalFuels'. -/
def evalFuelsUptoCard : Claim7 := { stood := { row := evalFuelsUptoRow, standIns := [], harness := (true, "cf1b28aad157743a531971d7a251c3664c1d893c7b2b0ad752e56ec4736e8a2a"), looks := true }, kinds := [], alts := [], laidByText := true, laidKinds := [.data, .data, .data, .data, .listed, .data, .pinned], laidTests := true, laidLooks := .later }
def EvalFuelsUptoCardSaid : Prop := Claim7.holds Tryz.pinned (.plain (OpenSpec.upto evalFuelsSpec)) evalFuelsUptoCard

/-- THE SECOND FORM's CARD OF 'triglyphlaw14.EvalBuiltins'. -/
def evalBuiltinsUptoCard : Claim7 := { stood := { row := evalBuiltinsUptoRow, standIns := [], harness := (true, "cf1b28aad157743a531971d7a251c3664c1d893c7b2b0ad752e56ec4736e8a2a"), looks := true }, kinds := [], alts := [], laidByText := true, laidKinds := [.data, .data, .data, .data, .listed, .data, .pinned], laidTests := true, laidLooks := .later }
def EvalBuiltinsUptoCardSaid : Prop := Claim7.holds Tryz.pinned (.plain (OpenSpec.upto evalBuiltinsSpec)) evalBuiltinsUptoCard
end Rows
end Go.Proofs.YtjcgiiedaccjpaaGreatDoor
