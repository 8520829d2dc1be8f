/-
  No cell of these rows narrows 'for every input' (looked for: loops, veiled, ifaces, maps, wideKeys, modest, calm, conditions, laid).
  DERIVED. THE GIVEN ROWS OF THIS SEAT. 6 by the template 'for every input the law returns true; each argument reads behind the call as it read before'; 0 by the template 'total and deterministic' (their statements: YtcmbbnidnddomaaTotals.lean).
  GIVEN WITH THE SEED: the statements are not yours to turn. If you find one false, say at which input.
  Laid BY PROGRAM, IN A SANDBOX (cutbox-rows.mjs): the forced cells as the released guide's own fill.sh prints them over the translation ef54123a053446b7… (all of the seat's roots in one cut). By AI agents, Wed Nov 11 2026. No macro, syntax, notation, axiom, sorry.
-/
import Derived.Test.YtcmbbnidnddomaaChecked
import GoSem.Claim
import GoSem.ClaimJoined
import GoSem.ClaimMapViews
import Derived.JoinedTies
import Derived.KernelRfl
namespace Go.Proofs.Ytcmbbnidnddomaa
/- THE CELL 'sum', in the pinned program and in every row, IS THE sha256 OF THE DUMP (.gsa) THAT YtcmbbnidnddomaaProg.lean LOADS. Nothing in Lean hashes anything: it is a label: what it is worth is what the hold of that sum in a sandbox is worth. -/
noncomputable def Try.pinned : Pinned := { name := "ytcmbbnidnddomaa", sum := "ef54123a053446b712f8337aa88b02868f3d8fad4eb184df77d9e0e9998aacb1", checked := Try.checked }
namespace Rows
def none {H : Type} : Left H := { results := [], args := [] }

/-- 'triglyphlaw02.TreeEnds': WHATEVER THE INPUT: true; the input reads as it did. -/
def treeEndsSpec : ChangeSpec := { name := "treeEnds", fn := fun _ => fun
  | [d1, d2] => { results := [.lit (.bool true)], args := [d1, d2] }
  | _ => none }
def treeEndsRow : OpenClaim := { program := "ytcmbbnidnddomaa", sum := "ef54123a053446b712f8337aa88b02868f3d8fad4eb184df77d9e0e9998aacb1", func := "triglyph/triglyphlaw02.TreeEnds", spec := "treeEnds", unfollowed := true, recurses := true, apart := false }
def TreeEndsSaid : Prop := treeEndsRow.holds Try.pinned (OpenSpec.ofChange treeEndsSpec)

/-- ITS FALSE NEIGHBOUR: 'it returns false'. Refute it at one input. -/
def treeEndsWrong : ChangeSpec := { name := "treeEnds", fn := fun _ => fun
  | [d1, d2] => { results := [.lit (.bool false)], args := [d1, d2] }
  | _ => none }
def TreeEndsWrongFalsely : Prop := treeEndsRow.holds Try.pinned (OpenSpec.ofChange treeEndsWrong)

/-- 'triglyphlaw02.TreeMakes': WHATEVER THE INPUT: true; the input reads as it did. -/
def treeMakesSpec : ChangeSpec := { name := "treeMakes", fn := fun _ => fun
  | [d1, d2] => { results := [.lit (.bool true)], args := [d1, d2] }
  | _ => none }
def treeMakesRow : OpenClaim := { program := "ytcmbbnidnddomaa", sum := "ef54123a053446b712f8337aa88b02868f3d8fad4eb184df77d9e0e9998aacb1", func := "triglyph/triglyphlaw02.TreeMakes", spec := "treeMakes", unfollowed := true, recurses := true, apart := false }
def TreeMakesSaid : Prop := treeMakesRow.holds Try.pinned (OpenSpec.ofChange treeMakesSpec)

/-- ITS FALSE NEIGHBOUR: 'it returns false'. Refute it at one input. -/
def treeMakesWrong : ChangeSpec := { name := "treeMakes", fn := fun _ => fun
  | [d1, d2] => { results := [.lit (.bool false)], args := [d1, d2] }
  | _ => none }
def TreeMakesWrongFalsely : Prop := treeMakesRow.holds Try.pinned (OpenSpec.ofChange treeMakesWrong)

/-- 'triglyphlaw02.TreePuts': WHATEVER THE INPUT: true; the input reads as it did. -/
def treePutsSpec : ChangeSpec := { name := "treePuts", fn := fun _ => fun
  | [d1, d2, d3] => { results := [.lit (.bool true)], args := [d1, d2, d3] }
  | _ => none }
def treePutsRow : OpenClaim := { program := "ytcmbbnidnddomaa", sum := "ef54123a053446b712f8337aa88b02868f3d8fad4eb184df77d9e0e9998aacb1", func := "triglyph/triglyphlaw02.TreePuts", spec := "treePuts", unfollowed := true, recurses := true, apart := false }
def TreePutsSaid : Prop := treePutsRow.holds Try.pinned (OpenSpec.ofChange treePutsSpec)

/-- ITS FALSE NEIGHBOUR: 'it returns false'. Refute it at one input. -/
def treePutsWrong : ChangeSpec := { name := "treePuts", fn := fun _ => fun
  | [d1, d2, d3] => { results := [.lit (.bool false)], args := [d1, d2, d3] }
  | _ => none }
def TreePutsWrongFalsely : Prop := treePutsRow.holds Try.pinned (OpenSpec.ofChange treePutsWrong)

/-- 'triglyphlaw02.TreeDeeps': WHATEVER THE INPUT: true; the input reads as it did. -/
def treeDeepsSpec : ChangeSpec := { name := "treeDeeps", fn := fun _ => fun
  | [d1, d2] => { results := [.lit (.bool true)], args := [d1, d2] }
  | _ => none }
def treeDeepsRow : OpenClaim := { program := "ytcmbbnidnddomaa", sum := "ef54123a053446b712f8337aa88b02868f3d8fad4eb184df77d9e0e9998aacb1", func := "triglyph/triglyphlaw02.TreeDeeps", spec := "treeDeeps", unfollowed := true, recurses := true, apart := false }
def TreeDeepsSaid : Prop := treeDeepsRow.holds Try.pinned (OpenSpec.ofChange treeDeepsSpec)

/-- ITS FALSE NEIGHBOUR: 'it returns false'. Refute it at one input. -/
def treeDeepsWrong : ChangeSpec := { name := "treeDeeps", fn := fun _ => fun
  | [d1, d2] => { results := [.lit (.bool false)], args := [d1, d2] }
  | _ => none }
def TreeDeepsWrongFalsely : Prop := treeDeepsRow.holds Try.pinned (OpenSpec.ofChange treeDeepsWrong)

/-- 'triglyphlaw02.TreeUps': WHATEVER THE INPUT: true; the input reads as it did. -/
def treeUpsSpec : ChangeSpec := { name := "treeUps", fn := fun _ => fun
  | [d] => { results := [.lit (.bool true)], args := [d] }
  | _ => none }
def treeUpsRow : OpenClaim := { program := "ytcmbbnidnddomaa", sum := "ef54123a053446b712f8337aa88b02868f3d8fad4eb184df77d9e0e9998aacb1", func := "triglyph/triglyphlaw02.TreeUps", spec := "treeUps", unfollowed := true, recurses := true, apart := false }
def TreeUpsSaid : Prop := treeUpsRow.holds Try.pinned (OpenSpec.ofChange treeUpsSpec)

/-- ITS FALSE NEIGHBOUR: 'it returns false'. Refute it at one input. -/
def treeUpsWrong : ChangeSpec := { name := "treeUps", fn := fun _ => fun
  | [d] => { results := [.lit (.bool false)], args := [d] }
  | _ => none }
def TreeUpsWrongFalsely : Prop := treeUpsRow.holds Try.pinned (OpenSpec.ofChange treeUpsWrong)

/-- 'triglyphlaw02.TreeParts': WHATEVER THE INPUT: true; the input reads as it did. -/
def treePartsSpec : ChangeSpec := { name := "treeParts", fn := fun _ => fun
  | [d1, d2] => { results := [.lit (.bool true)], args := [d1, d2] }
  | _ => none }
def treePartsRow : OpenClaim := { program := "ytcmbbnidnddomaa", sum := "ef54123a053446b712f8337aa88b02868f3d8fad4eb184df77d9e0e9998aacb1", func := "triglyph/triglyphlaw02.TreeParts", spec := "treeParts", unfollowed := true, recurses := true, apart := false }
def TreePartsSaid : Prop := treePartsRow.holds Try.pinned (OpenSpec.ofChange treePartsSpec)

/-- ITS FALSE NEIGHBOUR: 'it returns false'. Refute it at one input. -/
def treePartsWrong : ChangeSpec := { name := "treeParts", fn := fun _ => fun
  | [d1, d2] => { results := [.lit (.bool false)], args := [d1, d2] }
  | _ => none }
def TreePartsWrongFalsely : Prop := treePartsRow.holds Try.pinned (OpenSpec.ofChange treePartsWrong)

/- THE SECOND FORM. 'bulk': how many values and letters a reading holds, each counted each time it is reached (what is shared counts as often as it is met; a slice's spare places count too). A statement '..UptoSaid' is the law's where the arguments, and the package variables that the reading takes, are together of bulk at most 1048576: NARROWER than '..Said'. Prove '..Said' where nothing that the law and all that it calls make is longer than what came in: it says more and counts as full. Else prove '..UptoSaid'. A law counts once. -/
mutual
def uptoBulk {H : Type} : DataW H → Nat
  | .lit (.string bytes) => bytes.length + 1
  | .lit _ => 1
  | .nil => 1
  | .ptr d => uptoBulk d + 1
  | .slice elems spare => uptoBulkAll elems + uptoBulkAll spare + 1
  | .agg parts => uptoBulkAll parts + 1
  | .iface _ d => uptoBulk d + 1
  | .map entries => uptoBulkEntries entries + 1
  | .held _ => 1
def uptoBulkAll {H : Type} : List (DataW H) → Nat
  | [] => 0
  | d :: r => uptoBulk d + uptoBulkAll r
def uptoBulkEntries {H : Type} : List (Lit × DataW H) → Nat
  | [] => 0
  | x :: r => uptoBulkEntry x + uptoBulkEntries r
def uptoBulkEntry {H : Type} : Lit × DataW H → Nat
  | (.string bytes, d) => bytes.length + uptoBulk d + 1
  | (_, d) => uptoBulk d + 1
 end
def uptoSmall : (H : Type) → List (DataW H) → Bool := fun _ ds => decide (uptoBulkAll ds ≤ 1048576)
def OpenSpec.upto (s : _root_.Go.ChangeSpec) : _root_.Go.OpenSpec := { _root_.Go.OpenSpec.ofChange s with cond := some uptoSmall }

/-- 'triglyphlaw02.TreeEnds', WHERE WHAT IT READS IS OF BULK AT MOST 1048576: true; the input reads as it did. -/
def treeEndsUptoRow : OpenClaim := { program := "ytcmbbnidnddomaa", sum := "ef54123a053446b712f8337aa88b02868f3d8fad4eb184df77d9e0e9998aacb1", func := "triglyph/triglyphlaw02.TreeEnds", spec := "treeEnds", unfollowed := true, recurses := true, apart := false, narrowed := true }
def TreeEndsUptoSaid : Prop := treeEndsUptoRow.holds Try.pinned (OpenSpec.upto treeEndsSpec)

/-- 'triglyphlaw02.TreeMakes', WHERE WHAT IT READS IS OF BULK AT MOST 1048576: true; the input reads as it did. -/
def treeMakesUptoRow : OpenClaim := { program := "ytcmbbnidnddomaa", sum := "ef54123a053446b712f8337aa88b02868f3d8fad4eb184df77d9e0e9998aacb1", func := "triglyph/triglyphlaw02.TreeMakes", spec := "treeMakes", unfollowed := true, recurses := true, apart := false, narrowed := true }
def TreeMakesUptoSaid : Prop := treeMakesUptoRow.holds Try.pinned (OpenSpec.upto treeMakesSpec)

/-- 'triglyphlaw02.TreePuts', WHERE WHAT IT READS IS OF BULK AT MOST 1048576: true; the input reads as it did. -/
def treePutsUptoRow : OpenClaim := { program := "ytcmbbnidnddomaa", sum := "ef54123a053446b712f8337aa88b02868f3d8fad4eb184df77d9e0e9998aacb1", func := "triglyph/triglyphlaw02.TreePuts", spec := "treePuts", unfollowed := true, recurses := true, apart := false, narrowed := true }
def TreePutsUptoSaid : Prop := treePutsUptoRow.holds Try.pinned (OpenSpec.upto treePutsSpec)

/-- 'triglyphlaw02.TreeDeeps', WHERE WHAT IT READS IS OF BULK AT MOST 1048576: true; the input reads as it did. -/
def treeDeepsUptoRow : OpenClaim := { program := "ytcmbbnidnddomaa", sum := "ef54123a053446b712f8337aa88b02868f3d8fad4eb184df77d9e0e9998aacb1", func := "triglyph/triglyphlaw02.TreeDeeps", spec := "treeDeeps", unfollowed := true, recurses := true, apart := false, narrowed := true }
def TreeDeepsUptoSaid : Prop := treeDeepsUptoRow.holds Try.pinned (OpenSpec.upto treeDeepsSpec)

/-- 'triglyphlaw02.TreeUps', WHERE WHAT IT READS IS OF BULK AT MOST 1048576: true; the input reads as it did. -/
def treeUpsUptoRow : OpenClaim := { program := "ytcmbbnidnddomaa", sum := "ef54123a053446b712f8337aa88b02868f3d8fad4eb184df77d9e0e9998aacb1", func := "triglyph/triglyphlaw02.TreeUps", spec := "treeUps", unfollowed := true, recurses := true, apart := false, narrowed := true }
def TreeUpsUptoSaid : Prop := treeUpsUptoRow.holds Try.pinned (OpenSpec.upto treeUpsSpec)

/-- 'triglyphlaw02.TreeParts', WHERE WHAT IT READS IS OF BULK AT MOST 1048576: true; the input reads as it did. -/
def treePartsUptoRow : OpenClaim := { program := "ytcmbbnidnddomaa", sum := "ef54123a053446b712f8337aa88b02868f3d8fad4eb184df77d9e0e9998aacb1", func := "triglyph/triglyphlaw02.TreeParts", spec := "treeParts", unfollowed := true, recurses := true, apart := false, narrowed := true }
def TreePartsUptoSaid : Prop := treePartsUptoRow.holds Try.pinned (OpenSpec.upto treePartsSpec)

end Rows
end Go.Proofs.Ytcmbbnidnddomaa
