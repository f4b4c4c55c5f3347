/-
  No cell of these rows narrows 'for every input' (looked for: loops, veiled, ifaces, maps, wideKeys, modest, calm, conditions, laid).
  DERIVED. THE GIVEN ROWS OF THIS SEAT. 7 by the template 'for every input the law returns true; each argument reads behind the call as it read before'; 0 by the template 'total and deterministic' (their statements: YtohleiikedpmkaaTotals.lean).
  GIVEN WITH THE SEED: the statements are not yours to turn. If you find one false, say at which input.
  Laid BY PROGRAM, IN A SANDBOX (cutbox-rows.mjs): the forced cells as the released guide's own fill.sh prints them over the translation 74a5219ca5f7f8f3… (all of the seat's roots in one cut). By AI agents, Wed Nov 11 2026. No macro, syntax, notation, axiom, sorry.
-/
import Derived.Test.YtohleiikedpmkaaChecked
import GoSem.Claim
import GoSem.ClaimJoined
import GoSem.ClaimMapViews
import Derived.JoinedTies
import Derived.KernelRfl
namespace Go.Proofs.Ytohleiikedpmkaa
/- THE CELL 'sum', in the pinned program and in every row, IS THE sha256 OF THE DUMP (.gsa) THAT YtohleiikedpmkaaProg.lean LOADS. Nothing in Lean hashes anything: it is a label: what it is worth is what the hold of that sum in a sandbox is worth. -/
noncomputable def Try.pinned : Pinned := { name := "ytohleiikedpmkaa", sum := "74a5219ca5f7f8f35ce82f39387f60a9eab87802022eec2de9dbb65cffa0420b", checked := Try.checked }
namespace Rows
def none {H : Type} : Left H := { results := [], args := [] }

/-- 'portholelaw25.RenderLeast': WHATEVER THE INPUT: true; the input reads as it did. -/
def renderLeastSpec : ChangeSpec := { name := "renderLeast", fn := fun _ => fun
  | [d1, d2, d3, d4] => { results := [.lit (.bool true)], args := [d1, d2, d3, d4] }
  | _ => none }
def renderLeastRow : OpenClaim := { program := "ytohleiikedpmkaa", sum := "74a5219ca5f7f8f35ce82f39387f60a9eab87802022eec2de9dbb65cffa0420b", func := "porthole/portholelaw25.RenderLeast", spec := "renderLeast", unfollowed := true, recurses := true, apart := false }
def RenderLeastSaid : Prop := renderLeastRow.holds Try.pinned (OpenSpec.ofChange renderLeastSpec)

/-- ITS FALSE NEIGHBOUR: 'it returns false'. Refute it at one input. -/
def renderLeastWrong : ChangeSpec := { name := "renderLeast", fn := fun _ => fun
  | [d1, d2, d3, d4] => { results := [.lit (.bool false)], args := [d1, d2, d3, d4] }
  | _ => none }
def RenderLeastWrongFalsely : Prop := renderLeastRow.holds Try.pinned (OpenSpec.ofChange renderLeastWrong)

/-- 'portholelaw25.RenderApplies': WHATEVER THE INPUT: true; the input reads as it did. -/
def renderAppliesSpec : ChangeSpec := { name := "renderApplies", fn := fun _ => fun
  | [d1, d2, d3, d4, d5, d6, d7, d8] => { results := [.lit (.bool true)], args := [d1, d2, d3, d4, d5, d6, d7, d8] }
  | _ => none }
def renderAppliesRow : OpenClaim := { program := "ytohleiikedpmkaa", sum := "74a5219ca5f7f8f35ce82f39387f60a9eab87802022eec2de9dbb65cffa0420b", func := "porthole/portholelaw25.RenderApplies", spec := "renderApplies", unfollowed := true, recurses := true, apart := false }
def RenderAppliesSaid : Prop := renderAppliesRow.holds Try.pinned (OpenSpec.ofChange renderAppliesSpec)

/-- ITS FALSE NEIGHBOUR: 'it returns false'. Refute it at one input. -/
def renderAppliesWrong : ChangeSpec := { name := "renderApplies", fn := fun _ => fun
  | [d1, d2, d3, d4, d5, d6, d7, d8] => { results := [.lit (.bool false)], args := [d1, d2, d3, d4, d5, d6, d7, d8] }
  | _ => none }
def RenderAppliesWrongFalsely : Prop := renderAppliesRow.holds Try.pinned (OpenSpec.ofChange renderAppliesWrong)

/-- 'portholelaw25.RenderDiffs': WHATEVER THE INPUT: true; the input reads as it did. -/
def renderDiffsSpec : ChangeSpec := { name := "renderDiffs", fn := fun _ => fun
  | [d1, d2, d3, d4, d5, d6] => { results := [.lit (.bool true)], args := [d1, d2, d3, d4, d5, d6] }
  | _ => none }
def renderDiffsRow : OpenClaim := { program := "ytohleiikedpmkaa", sum := "74a5219ca5f7f8f35ce82f39387f60a9eab87802022eec2de9dbb65cffa0420b", func := "porthole/portholelaw25.RenderDiffs", spec := "renderDiffs", unfollowed := true, recurses := true, apart := false }
def RenderDiffsSaid : Prop := renderDiffsRow.holds Try.pinned (OpenSpec.ofChange renderDiffsSpec)

/-- ITS FALSE NEIGHBOUR: 'it returns false'. Refute it at one input. -/
def renderDiffsWrong : ChangeSpec := { name := "renderDiffs", fn := fun _ => fun
  | [d1, d2, d3, d4, d5, d6] => { results := [.lit (.bool false)], args := [d1, d2, d3, d4, d5, d6] }
  | _ => none }
def RenderDiffsWrongFalsely : Prop := renderDiffsRow.holds Try.pinned (OpenSpec.ofChange renderDiffsWrong)

/-- 'portholelaw25.RenderCodes': WHATEVER THE INPUT: true; the input reads as it did. -/
def renderCodesSpec : ChangeSpec := { name := "renderCodes", fn := fun _ => fun
  | [d1, d2, d3, d4, d5, d6, d7, d8, d9, d10] => { results := [.lit (.bool true)], args := [d1, d2, d3, d4, d5, d6, d7, d8, d9, d10] }
  | _ => none }
def renderCodesRow : OpenClaim := { program := "ytohleiikedpmkaa", sum := "74a5219ca5f7f8f35ce82f39387f60a9eab87802022eec2de9dbb65cffa0420b", func := "porthole/portholelaw25.RenderCodes", spec := "renderCodes", unfollowed := true, recurses := true, apart := false }
def RenderCodesSaid : Prop := renderCodesRow.holds Try.pinned (OpenSpec.ofChange renderCodesSpec)

/-- ITS FALSE NEIGHBOUR: 'it returns false'. Refute it at one input. -/
def renderCodesWrong : ChangeSpec := { name := "renderCodes", fn := fun _ => fun
  | [d1, d2, d3, d4, d5, d6, d7, d8, d9, d10] => { results := [.lit (.bool false)], args := [d1, d2, d3, d4, d5, d6, d7, d8, d9, d10] }
  | _ => none }
def RenderCodesWrongFalsely : Prop := renderCodesRow.holds Try.pinned (OpenSpec.ofChange renderCodesWrong)

/-- 'portholelaw25.RenderKnown': WHATEVER THE INPUT: true; the input reads as it did. -/
def renderKnownSpec : ChangeSpec := { name := "renderKnown", fn := fun _ => fun
  | [] => { results := [.lit (.bool true)], args := [] }
  | _ => none }
def renderKnownRow : OpenClaim := { program := "ytohleiikedpmkaa", sum := "74a5219ca5f7f8f35ce82f39387f60a9eab87802022eec2de9dbb65cffa0420b", func := "porthole/portholelaw25.RenderKnown", spec := "renderKnown", unfollowed := true, recurses := true, apart := false }
def RenderKnownSaid : Prop := renderKnownRow.holds Try.pinned (OpenSpec.ofChange renderKnownSpec)

/-- ITS FALSE NEIGHBOUR: 'it returns false'. Refute it at one input. -/
def renderKnownWrong : ChangeSpec := { name := "renderKnown", fn := fun _ => fun
  | [] => { results := [.lit (.bool false)], args := [] }
  | _ => none }
def RenderKnownWrongFalsely : Prop := renderKnownRow.holds Try.pinned (OpenSpec.ofChange renderKnownWrong)

/-- 'portholelaw25.RenderBack': WHATEVER THE INPUT: true; the input reads as it did. -/
def renderBackSpec : ChangeSpec := { name := "renderBack", fn := fun _ => fun
  | [d1, d2, d3, d4, d5] => { results := [.lit (.bool true)], args := [d1, d2, d3, d4, d5] }
  | _ => none }
def renderBackRow : OpenClaim := { program := "ytohleiikedpmkaa", sum := "74a5219ca5f7f8f35ce82f39387f60a9eab87802022eec2de9dbb65cffa0420b", func := "porthole/portholelaw25.RenderBack", spec := "renderBack", unfollowed := true, recurses := true, apart := false }
def RenderBackSaid : Prop := renderBackRow.holds Try.pinned (OpenSpec.ofChange renderBackSpec)

/-- ITS FALSE NEIGHBOUR: 'it returns false'. Refute it at one input. -/
def renderBackWrong : ChangeSpec := { name := "renderBack", fn := fun _ => fun
  | [d1, d2, d3, d4, d5] => { results := [.lit (.bool false)], args := [d1, d2, d3, d4, d5] }
  | _ => none }
def RenderBackWrongFalsely : Prop := renderBackRow.holds Try.pinned (OpenSpec.ofChange renderBackWrong)

/-- 'portholelaw25.RenderSteps': WHATEVER THE INPUT: true; the input reads as it did. -/
def renderStepsSpec : ChangeSpec := { name := "renderSteps", fn := fun _ => fun
  | [d1, d2, d3, d4] => { results := [.lit (.bool true)], args := [d1, d2, d3, d4] }
  | _ => none }
def renderStepsRow : OpenClaim := { program := "ytohleiikedpmkaa", sum := "74a5219ca5f7f8f35ce82f39387f60a9eab87802022eec2de9dbb65cffa0420b", func := "porthole/portholelaw25.RenderSteps", spec := "renderSteps", unfollowed := true, recurses := true, apart := false }
def RenderStepsSaid : Prop := renderStepsRow.holds Try.pinned (OpenSpec.ofChange renderStepsSpec)

/-- ITS FALSE NEIGHBOUR: 'it returns false'. Refute it at one input. -/
def renderStepsWrong : ChangeSpec := { name := "renderSteps", fn := fun _ => fun
  | [d1, d2, d3, d4] => { results := [.lit (.bool false)], args := [d1, d2, d3, d4] }
  | _ => none }
def RenderStepsWrongFalsely : Prop := renderStepsRow.holds Try.pinned (OpenSpec.ofChange renderStepsWrong)

/- THE SECOND FORM. 'bulk': how many values and letters a reading holds, each counted each time it is reached (what is shared counts as often as it is met; a slice's spare places count too). A statement '..UptoSaid' is the law's where the arguments, and the package variables that the reading takes, are together of bulk at most 1048576: NARROWER than '..Said'. Prove '..Said' where nothing that the law and all that it calls make is longer than what came in: it says more and counts as full. Else prove '..UptoSaid'. A law counts once. -/
mutual
def uptoBulk {H : Type} : DataW H → Nat
  | .lit (.string bytes) => bytes.length + 1
  | .lit _ => 1
  | .nil => 1
  | .ptr d => uptoBulk d + 1
  | .slice elems spare => uptoBulkAll elems + uptoBulkAll spare + 1
  | .agg parts => uptoBulkAll parts + 1
  | .iface _ d => uptoBulk d + 1
  | .map entries => uptoBulkEntries entries + 1
  | .held _ => 1
def uptoBulkAll {H : Type} : List (DataW H) → Nat
  | [] => 0
  | d :: r => uptoBulk d + uptoBulkAll r
def uptoBulkEntries {H : Type} : List (Lit × DataW H) → Nat
  | [] => 0
  | x :: r => uptoBulkEntry x + uptoBulkEntries r
def uptoBulkEntry {H : Type} : Lit × DataW H → Nat
  | (.string bytes, d) => bytes.length + uptoBulk d + 1
  | (_, d) => uptoBulk d + 1
 end
def uptoSmall : (H : Type) → List (DataW H) → Bool := fun _ ds => decide (uptoBulkAll ds ≤ 1048576)
def OpenSpec.upto (s : _root_.Go.ChangeSpec) : _root_.Go.OpenSpec := { _root_.Go.OpenSpec.ofChange s with cond := some uptoSmall }

/-- 'portholelaw25.RenderLeast', WHERE WHAT IT READS IS OF BULK AT MOST 1048576: true; the input reads as it did. -/
def renderLeastUptoRow : OpenClaim := { program := "ytohleiikedpmkaa", sum := "74a5219ca5f7f8f35ce82f39387f60a9eab87802022eec2de9dbb65cffa0420b", func := "porthole/portholelaw25.RenderLeast", spec := "renderLeast", unfollowed := true, recurses := true, apart := false, narrowed := true }
def RenderLeastUptoSaid : Prop := renderLeastUptoRow.holds Try.pinned (OpenSpec.upto renderLeastSpec)

/-- 'portholelaw25.RenderApplies', WHERE WHAT IT READS IS OF BULK AT MOST 1048576: true; the input reads as it did. -/
def renderAppliesUptoRow : OpenClaim := { program := "ytohleiikedpmkaa", sum := "74a5219ca5f7f8f35ce82f39387f60a9eab87802022eec2de9dbb65cffa0420b", func := "porthole/portholelaw25.RenderApplies", spec := "renderApplies", unfollowed := true, recurses := true, apart := false, narrowed := true }
def RenderAppliesUptoSaid : Prop := renderAppliesUptoRow.holds Try.pinned (OpenSpec.upto renderAppliesSpec)

/-- 'portholelaw25.RenderDiffs', WHERE WHAT IT READS IS OF BULK AT MOST 1048576: true; the input reads as it did. -/
def renderDiffsUptoRow : OpenClaim := { program := "ytohleiikedpmkaa", sum := "74a5219ca5f7f8f35ce82f39387f60a9eab87802022eec2de9dbb65cffa0420b", func := "porthole/portholelaw25.RenderDiffs", spec := "renderDiffs", unfollowed := true, recurses := true, apart := false, narrowed := true }
def RenderDiffsUptoSaid : Prop := renderDiffsUptoRow.holds Try.pinned (OpenSpec.upto renderDiffsSpec)

/-- 'portholelaw25.RenderCodes', WHERE WHAT IT READS IS OF BULK AT MOST 1048576: true; the input reads as it did. -/
def renderCodesUptoRow : OpenClaim := { program := "ytohleiikedpmkaa", sum := "74a5219ca5f7f8f35ce82f39387f60a9eab87802022eec2de9dbb65cffa0420b", func := "porthole/portholelaw25.RenderCodes", spec := "renderCodes", unfollowed := true, recurses := true, apart := false, narrowed := true }
def RenderCodesUptoSaid : Prop := renderCodesUptoRow.holds Try.pinned (OpenSpec.upto renderCodesSpec)

/-- 'portholelaw25.RenderKnown', WHERE WHAT IT READS IS OF BULK AT MOST 1048576: true; the input reads as it did. -/
def renderKnownUptoRow : OpenClaim := { program := "ytohleiikedpmkaa", sum := "74a5219ca5f7f8f35ce82f39387f60a9eab87802022eec2de9dbb65cffa0420b", func := "porthole/portholelaw25.RenderKnown", spec := "renderKnown", unfollowed := true, recurses := true, apart := false, narrowed := true }
def RenderKnownUptoSaid : Prop := renderKnownUptoRow.holds Try.pinned (OpenSpec.upto renderKnownSpec)

/-- 'portholelaw25.RenderBack', WHERE WHAT IT READS IS OF BULK AT MOST 1048576: true; the input reads as it did. -/
def renderBackUptoRow : OpenClaim := { program := "ytohleiikedpmkaa", sum := "74a5219ca5f7f8f35ce82f39387f60a9eab87802022eec2de9dbb65cffa0420b", func := "porthole/portholelaw25.RenderBack", spec := "renderBack", unfollowed := true, recurses := true, apart := false, narrowed := true }
def RenderBackUptoSaid : Prop := renderBackUptoRow.holds Try.pinned (OpenSpec.upto renderBackSpec)

/-- 'portholelaw25.RenderSteps', WHERE WHAT IT READS IS OF BULK AT MOST 1048576: true; the input reads as it did. -/
def renderStepsUptoRow : OpenClaim := { program := "ytohleiikedpmkaa", sum := "74a5219ca5f7f8f35ce82f39387f60a9eab87802022eec2de9dbb65cffa0420b", func := "porthole/portholelaw25.RenderSteps", spec := "renderSteps", unfollowed := true, recurses := true, apart := false, narrowed := true }
def RenderStepsUptoSaid : Prop := renderStepsUptoRow.holds Try.pinned (OpenSpec.upto renderStepsSpec)

end Rows
end Go.Proofs.Ytohleiikedpmkaa
