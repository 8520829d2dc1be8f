/-
  No cell of these rows narrows 'for every input' (looked for: loops, veiled, ifaces, maps, wideKeys, modest, calm, conditions, laid).
  DERIVED. THE GIVEN ROWS OF THIS SEAT. 5 by the template 'for every input the law returns true; each argument reads behind the call as it read before'; 0 by the template 'total and deterministic' (their statements: YtcjakkbanlgafaaTotals.lean).
  GIVEN WITH THE SEED: the statements are not yours to turn. If you find one false, say at which input.
  Laid BY PROGRAM, IN A SANDBOX (cutbox-rows.mjs): the forced cells as the released guide's own fill.sh prints them over the translation ea0cb13511966588… (all of the seat's roots in one cut). By AI agents, Wed Nov 11 2026. No macro, syntax, notation, axiom, sorry.
-/
import Derived.Test.YtcjakkbanlgafaaChecked
import GoSem.Claim
import GoSem.ClaimJoined
import GoSem.ClaimMapViews
import Derived.JoinedTies
import Derived.KernelRfl
namespace Go.Proofs.Ytcjakkbanlgafaa
/- THE CELL 'sum', in the pinned program and in every row, IS THE sha256 OF THE DUMP (.gsa) THAT YtcjakkbanlgafaaProg.lean LOADS. Nothing in Lean hashes anything: it is a label: what it is worth is what the hold of that sum in a sandbox is worth. -/
noncomputable def Try.pinned : Pinned := { name := "ytcjakkbanlgafaa", sum := "ea0cb13511966588ef5214fa9ecb96ccfdaadad56555fc4b4e0b4d65a5c5a6d1", checked := Try.checked }
namespace Rows
def none {H : Type} : Left H := { results := [], args := [] }

/-- 'triglyphlaw05.LayoutIs': WHATEVER THE INPUT: true; the input reads as it did. -/
def layoutIsSpec : ChangeSpec := { name := "layoutIs", fn := fun _ => fun
  | [d1, d2] => { results := [.lit (.bool true)], args := [d1, d2] }
  | _ => none }
def layoutIsRow : OpenClaim := { program := "ytcjakkbanlgafaa", sum := "ea0cb13511966588ef5214fa9ecb96ccfdaadad56555fc4b4e0b4d65a5c5a6d1", func := "triglyph/triglyphlaw05.LayoutIs", spec := "layoutIs", inPlace := ["internal/abi.NoEscape", "internal/bytealg.MakeNoZero"], unfollowed := true, recurses := true, apart := false }
def LayoutIsSaid : Prop := layoutIsRow.holds Try.pinned (OpenSpec.ofChange layoutIsSpec)

/-- ITS FALSE NEIGHBOUR: 'it returns false'. Refute it at one input. -/
def layoutIsWrong : ChangeSpec := { name := "layoutIs", fn := fun _ => fun
  | [d1, d2] => { results := [.lit (.bool false)], args := [d1, d2] }
  | _ => none }
def LayoutIsWrongFalsely : Prop := layoutIsRow.holds Try.pinned (OpenSpec.ofChange layoutIsWrong)

/-- 'triglyphlaw05.LayoutMakes': WHATEVER THE INPUT: true; the input reads as it did. -/
def layoutMakesSpec : ChangeSpec := { name := "layoutMakes", fn := fun _ => fun
  | [d1, d2, d3] => { results := [.lit (.bool true)], args := [d1, d2, d3] }
  | _ => none }
def layoutMakesRow : OpenClaim := { program := "ytcjakkbanlgafaa", sum := "ea0cb13511966588ef5214fa9ecb96ccfdaadad56555fc4b4e0b4d65a5c5a6d1", func := "triglyph/triglyphlaw05.LayoutMakes", spec := "layoutMakes", inPlace := ["internal/abi.NoEscape", "internal/bytealg.MakeNoZero"], unfollowed := true, recurses := true, apart := false }
def LayoutMakesSaid : Prop := layoutMakesRow.holds Try.pinned (OpenSpec.ofChange layoutMakesSpec)

/-- ITS FALSE NEIGHBOUR: 'it returns false'. Refute it at one input. -/
def layoutMakesWrong : ChangeSpec := { name := "layoutMakes", fn := fun _ => fun
  | [d1, d2, d3] => { results := [.lit (.bool false)], args := [d1, d2, d3] }
  | _ => none }
def LayoutMakesWrongFalsely : Prop := layoutMakesRow.holds Try.pinned (OpenSpec.ofChange layoutMakesWrong)

/-- 'triglyphlaw05.LayoutBare': WHATEVER THE INPUT: true; the input reads as it did. -/
def layoutBareSpec : ChangeSpec := { name := "layoutBare", fn := fun _ => fun
  | [d1, d2] => { results := [.lit (.bool true)], args := [d1, d2] }
  | _ => none }
def layoutBareRow : OpenClaim := { program := "ytcjakkbanlgafaa", sum := "ea0cb13511966588ef5214fa9ecb96ccfdaadad56555fc4b4e0b4d65a5c5a6d1", func := "triglyph/triglyphlaw05.LayoutBare", spec := "layoutBare", inPlace := ["internal/abi.NoEscape", "internal/bytealg.MakeNoZero"], unfollowed := true, recurses := true, apart := false }
def LayoutBareSaid : Prop := layoutBareRow.holds Try.pinned (OpenSpec.ofChange layoutBareSpec)

/-- ITS FALSE NEIGHBOUR: 'it returns false'. Refute it at one input. -/
def layoutBareWrong : ChangeSpec := { name := "layoutBare", fn := fun _ => fun
  | [d1, d2] => { results := [.lit (.bool false)], args := [d1, d2] }
  | _ => none }
def LayoutBareWrongFalsely : Prop := layoutBareRow.holds Try.pinned (OpenSpec.ofChange layoutBareWrong)

/-- 'triglyphlaw05.LayoutWide': WHATEVER THE INPUT: true; the input reads as it did. -/
def layoutWideSpec : ChangeSpec := { name := "layoutWide", fn := fun _ => fun
  | [d1, d2] => { results := [.lit (.bool true)], args := [d1, d2] }
  | _ => none }
def layoutWideRow : OpenClaim := { program := "ytcjakkbanlgafaa", sum := "ea0cb13511966588ef5214fa9ecb96ccfdaadad56555fc4b4e0b4d65a5c5a6d1", func := "triglyph/triglyphlaw05.LayoutWide", spec := "layoutWide", inPlace := ["internal/abi.NoEscape", "internal/bytealg.MakeNoZero"], unfollowed := true, recurses := true, apart := false }
def LayoutWideSaid : Prop := layoutWideRow.holds Try.pinned (OpenSpec.ofChange layoutWideSpec)

/-- ITS FALSE NEIGHBOUR: 'it returns false'. Refute it at one input. -/
def layoutWideWrong : ChangeSpec := { name := "layoutWide", fn := fun _ => fun
  | [d1, d2] => { results := [.lit (.bool false)], args := [d1, d2] }
  | _ => none }
def LayoutWideWrongFalsely : Prop := layoutWideRow.holds Try.pinned (OpenSpec.ofChange layoutWideWrong)

/-- 'triglyphlaw05.LayoutNests': WHATEVER THE INPUT: true; the input reads as it did. -/
def layoutNestsSpec : ChangeSpec := { name := "layoutNests", fn := fun _ => fun
  | [d1, d2, d3] => { results := [.lit (.bool true)], args := [d1, d2, d3] }
  | _ => none }
def layoutNestsRow : OpenClaim := { program := "ytcjakkbanlgafaa", sum := "ea0cb13511966588ef5214fa9ecb96ccfdaadad56555fc4b4e0b4d65a5c5a6d1", func := "triglyph/triglyphlaw05.LayoutNests", spec := "layoutNests", inPlace := ["internal/abi.NoEscape", "internal/bytealg.MakeNoZero"], unfollowed := true, recurses := true, apart := false }
def LayoutNestsSaid : Prop := layoutNestsRow.holds Try.pinned (OpenSpec.ofChange layoutNestsSpec)

/-- ITS FALSE NEIGHBOUR: 'it returns false'. Refute it at one input. -/
def layoutNestsWrong : ChangeSpec := { name := "layoutNests", fn := fun _ => fun
  | [d1, d2, d3] => { results := [.lit (.bool false)], args := [d1, d2, d3] }
  | _ => none }
def LayoutNestsWrongFalsely : Prop := layoutNestsRow.holds Try.pinned (OpenSpec.ofChange layoutNestsWrong)

/- THE SECOND FORM. 'bulk': how many values and letters a reading holds, each counted each time it is reached (what is shared counts as often as it is met; a slice's spare places count too). A statement '..UptoSaid' is the law's where the arguments, and the package variables that the reading takes, are together of bulk at most 1048576: NARROWER than '..Said'. Prove '..Said' where nothing that the law and all that it calls make is longer than what came in: it says more and counts as full. Else prove '..UptoSaid'. A law counts once. -/
mutual
def uptoBulk {H : Type} : DataW H → Nat
  | .lit (.string bytes) => bytes.length + 1
  | .lit _ => 1
  | .nil => 1
  | .ptr d => uptoBulk d + 1
  | .slice elems spare => uptoBulkAll elems + uptoBulkAll spare + 1
  | .agg parts => uptoBulkAll parts + 1
  | .iface _ d => uptoBulk d + 1
  | .map entries => uptoBulkEntries entries + 1
  | .held _ => 1
def uptoBulkAll {H : Type} : List (DataW H) → Nat
  | [] => 0
  | d :: r => uptoBulk d + uptoBulkAll r
def uptoBulkEntries {H : Type} : List (Lit × DataW H) → Nat
  | [] => 0
  | x :: r => uptoBulkEntry x + uptoBulkEntries r
def uptoBulkEntry {H : Type} : Lit × DataW H → Nat
  | (.string bytes, d) => bytes.length + uptoBulk d + 1
  | (_, d) => uptoBulk d + 1
 end
def uptoSmall : (H : Type) → List (DataW H) → Bool := fun _ ds => decide (uptoBulkAll ds ≤ 1048576)
def OpenSpec.upto (s : _root_.Go.ChangeSpec) : _root_.Go.OpenSpec := { _root_.Go.OpenSpec.ofChange s with cond := some uptoSmall }

/-- 'triglyphlaw05.LayoutIs', WHERE WHAT IT READS IS OF BULK AT MOST 1048576: true; the input reads as it did. -/
def layoutIsUptoRow : OpenClaim := { program := "ytcjakkbanlgafaa", sum := "ea0cb13511966588ef5214fa9ecb96ccfdaadad56555fc4b4e0b4d65a5c5a6d1", func := "triglyph/triglyphlaw05.LayoutIs", spec := "layoutIs", inPlace := ["internal/abi.NoEscape", "internal/bytealg.MakeNoZero"], unfollowed := true, recurses := true, apart := false, narrowed := true }
def LayoutIsUptoSaid : Prop := layoutIsUptoRow.holds Try.pinned (OpenSpec.upto layoutIsSpec)

/-- 'triglyphlaw05.LayoutMakes', WHERE WHAT IT READS IS OF BULK AT MOST 1048576: true; the input reads as it did. -/
def layoutMakesUptoRow : OpenClaim := { program := "ytcjakkbanlgafaa", sum := "ea0cb13511966588ef5214fa9ecb96ccfdaadad56555fc4b4e0b4d65a5c5a6d1", func := "triglyph/triglyphlaw05.LayoutMakes", spec := "layoutMakes", inPlace := ["internal/abi.NoEscape", "internal/bytealg.MakeNoZero"], unfollowed := true, recurses := true, apart := false, narrowed := true }
def LayoutMakesUptoSaid : Prop := layoutMakesUptoRow.holds Try.pinned (OpenSpec.upto layoutMakesSpec)

/-- 'triglyphlaw05.LayoutBare', WHERE WHAT IT READS IS OF BULK AT MOST 1048576: true; the input reads as it did. -/
def layoutBareUptoRow : OpenClaim := { program := "ytcjakkbanlgafaa", sum := "ea0cb13511966588ef5214fa9ecb96ccfdaadad56555fc4b4e0b4d65a5c5a6d1", func := "triglyph/triglyphlaw05.LayoutBare", spec := "layoutBare", inPlace := ["internal/abi.NoEscape", "internal/bytealg.MakeNoZero"], unfollowed := true, recurses := true, apart := false, narrowed := true }
def LayoutBareUptoSaid : Prop := layoutBareUptoRow.holds Try.pinned (OpenSpec.upto layoutBareSpec)

/-- 'triglyphlaw05.LayoutWide', WHERE WHAT IT READS IS OF BULK AT MOST 1048576: true; the input reads as it did. -/
def layoutWideUptoRow : OpenClaim := { program := "ytcjakkbanlgafaa", sum := "ea0cb13511966588ef5214fa9ecb96ccfdaadad56555fc4b4e0b4d65a5c5a6d1", func := "triglyph/triglyphlaw05.LayoutWide", spec := "layoutWide", inPlace := ["internal/abi.NoEscape", "internal/bytealg.MakeNoZero"], unfollowed := true, recurses := true, apart := false, narrowed := true }
def LayoutWideUptoSaid : Prop := layoutWideUptoRow.holds Try.pinned (OpenSpec.upto layoutWideSpec)

/-- 'triglyphlaw05.LayoutNests', WHERE WHAT IT READS IS OF BULK AT MOST 1048576: true; the input reads as it did. -/
def layoutNestsUptoRow : OpenClaim := { program := "ytcjakkbanlgafaa", sum := "ea0cb13511966588ef5214fa9ecb96ccfdaadad56555fc4b4e0b4d65a5c5a6d1", func := "triglyph/triglyphlaw05.LayoutNests", spec := "layoutNests", inPlace := ["internal/abi.NoEscape", "internal/bytealg.MakeNoZero"], unfollowed := true, recurses := true, apart := false, narrowed := true }
def LayoutNestsUptoSaid : Prop := layoutNestsUptoRow.holds Try.pinned (OpenSpec.upto layoutNestsSpec)

end Rows
end Go.Proofs.Ytcjakkbanlgafaa
