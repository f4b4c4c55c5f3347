/-
  No cell of these rows narrows 'for every input' (looked for: loops, veiled, ifaces, maps, wideKeys, modest, calm, conditions, laid).
  DERIVED. THE GIVEN ROWS OF THIS SEAT. 11 by the template 'for every input the law returns true; each argument reads behind the call as it read before'; 0 by the template 'total and deterministic' (their statements: YtkjbjgkjplmkhaaTotals.lean).
  GIVEN WITH THE SEED: the statements are not yours to turn. If you find one false, say at which input.
  Laid BY PROGRAM, IN A SANDBOX (cutbox-rows.mjs): the forced cells as the released guide's own fill.sh prints them over the translation 637a54cb658f179f… (all of the seat's roots in one cut). By AI agents, Wed Nov 11 2026. No macro, syntax, notation, axiom, sorry.
-/
import Derived.Test.YtkjbjgkjplmkhaaChecked
import GoSem.Claim
import GoSem.ClaimJoined
import GoSem.ClaimMapViews
import Derived.JoinedTies
import Derived.KernelRfl
namespace Go.Proofs.Ytkjbjgkjplmkhaa
/- THE CELL 'sum', in the pinned program and in every row, IS THE sha256 OF THE DUMP (.gsa) THAT YtkjbjgkjplmkhaaProg.lean LOADS. Nothing in Lean hashes anything: it is a label: what it is worth is what the hold of that sum in a sandbox is worth. -/
noncomputable def Try.pinned : Pinned := { name := "ytkjbjgkjplmkhaa", sum := "637a54cb658f179f75aa958366027616c363caa5fe053fd191fdc4f51b2a0384", checked := Try.checked }
namespace Rows
def none {H : Type} : Left H := { results := [], args := [] }

/-- 'portholelaw2.FieldBytes': WHATEVER THE INPUT: true; the input reads as it did. -/
def fieldBytesSpec : ChangeSpec := { name := "fieldBytes", fn := fun _ => fun
  | [d1, d2] => { results := [.lit (.bool true)], args := [d1, d2] }
  | _ => none }
def fieldBytesRow : OpenClaim := { program := "ytkjbjgkjplmkhaa", sum := "637a54cb658f179f75aa958366027616c363caa5fe053fd191fdc4f51b2a0384", func := "porthole/portholelaw2.FieldBytes", spec := "fieldBytes", apart := false }
def FieldBytesSaid : Prop := fieldBytesRow.holds Try.pinned (OpenSpec.ofChange fieldBytesSpec)

/-- ITS FALSE NEIGHBOUR: 'it returns false'. Refute it at one input. -/
def fieldBytesWrong : ChangeSpec := { name := "fieldBytes", fn := fun _ => fun
  | [d1, d2] => { results := [.lit (.bool false)], args := [d1, d2] }
  | _ => none }
def FieldBytesWrongFalsely : Prop := fieldBytesRow.holds Try.pinned (OpenSpec.ofChange fieldBytesWrong)

/-- 'portholelaw2.FieldSwaps': WHATEVER THE INPUT: true; the input reads as it did. -/
def fieldSwapsSpec : ChangeSpec := { name := "fieldSwaps", fn := fun _ => fun
  | [d1, d2, d3] => { results := [.lit (.bool true)], args := [d1, d2, d3] }
  | _ => none }
def fieldSwapsRow : OpenClaim := { program := "ytkjbjgkjplmkhaa", sum := "637a54cb658f179f75aa958366027616c363caa5fe053fd191fdc4f51b2a0384", func := "porthole/portholelaw2.FieldSwaps", spec := "fieldSwaps", apart := false }
def FieldSwapsSaid : Prop := fieldSwapsRow.holds Try.pinned (OpenSpec.ofChange fieldSwapsSpec)

/-- ITS FALSE NEIGHBOUR: 'it returns false'. Refute it at one input. -/
def fieldSwapsWrong : ChangeSpec := { name := "fieldSwaps", fn := fun _ => fun
  | [d1, d2, d3] => { results := [.lit (.bool false)], args := [d1, d2, d3] }
  | _ => none }
def FieldSwapsWrongFalsely : Prop := fieldSwapsRow.holds Try.pinned (OpenSpec.ofChange fieldSwapsWrong)

/-- 'portholelaw2.FieldSquares': WHATEVER THE INPUT: true; the input reads as it did. -/
def fieldSquaresSpec : ChangeSpec := { name := "fieldSquares", fn := fun _ => fun
  | [d1, d2, d3, d4] => { results := [.lit (.bool true)], args := [d1, d2, d3, d4] }
  | _ => none }
def fieldSquaresRow : OpenClaim := { program := "ytkjbjgkjplmkhaa", sum := "637a54cb658f179f75aa958366027616c363caa5fe053fd191fdc4f51b2a0384", func := "porthole/portholelaw2.FieldSquares", spec := "fieldSquares", inPlace := ["math/bits.Add64"], apart := false }
def FieldSquaresSaid : Prop := fieldSquaresRow.holds Try.pinned (OpenSpec.ofChange fieldSquaresSpec)

/-- ITS FALSE NEIGHBOUR: 'it returns false'. Refute it at one input. -/
def fieldSquaresWrong : ChangeSpec := { name := "fieldSquares", fn := fun _ => fun
  | [d1, d2, d3, d4] => { results := [.lit (.bool false)], args := [d1, d2, d3, d4] }
  | _ => none }
def FieldSquaresWrongFalsely : Prop := fieldSquaresRow.holds Try.pinned (OpenSpec.ofChange fieldSquaresWrong)

/-- 'portholelaw2.FieldSmalls': WHATEVER THE INPUT: true; the input reads as it did. -/
def fieldSmallsSpec : ChangeSpec := { name := "fieldSmalls", fn := fun _ => fun
  | [d1, d2, d3, d4] => { results := [.lit (.bool true)], args := [d1, d2, d3, d4] }
  | _ => none }
def fieldSmallsRow : OpenClaim := { program := "ytkjbjgkjplmkhaa", sum := "637a54cb658f179f75aa958366027616c363caa5fe053fd191fdc4f51b2a0384", func := "porthole/portholelaw2.FieldSmalls", spec := "fieldSmalls", inPlace := ["math/bits.Add64"], apart := false }
def FieldSmallsSaid : Prop := fieldSmallsRow.holds Try.pinned (OpenSpec.ofChange fieldSmallsSpec)

/-- ITS FALSE NEIGHBOUR: 'it returns false'. Refute it at one input. -/
def fieldSmallsWrong : ChangeSpec := { name := "fieldSmalls", fn := fun _ => fun
  | [d1, d2, d3, d4] => { results := [.lit (.bool false)], args := [d1, d2, d3, d4] }
  | _ => none }
def FieldSmallsWrongFalsely : Prop := fieldSmallsRow.holds Try.pinned (OpenSpec.ofChange fieldSmallsWrong)

/-- 'portholelaw2.FieldInverts': WHATEVER THE INPUT: true; the input reads as it did. -/
def fieldInvertsSpec : ChangeSpec := { name := "fieldInverts", fn := fun _ => fun
  | [d1, d2, d3] => { results := [.lit (.bool true)], args := [d1, d2, d3] }
  | _ => none }
def fieldInvertsRow : OpenClaim := { program := "ytkjbjgkjplmkhaa", sum := "637a54cb658f179f75aa958366027616c363caa5fe053fd191fdc4f51b2a0384", func := "porthole/portholelaw2.FieldInverts", spec := "fieldInverts", inPlace := ["math/bits.Add64"], apart := false }
def FieldInvertsSaid : Prop := fieldInvertsRow.holds Try.pinned (OpenSpec.ofChange fieldInvertsSpec)

/-- ITS FALSE NEIGHBOUR: 'it returns false'. Refute it at one input. -/
def fieldInvertsWrong : ChangeSpec := { name := "fieldInverts", fn := fun _ => fun
  | [d1, d2, d3] => { results := [.lit (.bool false)], args := [d1, d2, d3] }
  | _ => none }
def FieldInvertsWrongFalsely : Prop := fieldInvertsRow.holds Try.pinned (OpenSpec.ofChange fieldInvertsWrong)

/-- 'portholelaw2.FieldLaws': WHATEVER THE INPUT: true; the input reads as it did. -/
def fieldLawsSpec : ChangeSpec := { name := "fieldLaws", fn := fun _ => fun
  | [d1, d2, d3, d4, d5] => { results := [.lit (.bool true)], args := [d1, d2, d3, d4, d5] }
  | _ => none }
def fieldLawsRow : OpenClaim := { program := "ytkjbjgkjplmkhaa", sum := "637a54cb658f179f75aa958366027616c363caa5fe053fd191fdc4f51b2a0384", func := "porthole/portholelaw2.FieldLaws", spec := "fieldLaws", inPlace := ["math/bits.Add64"], apart := false }
def FieldLawsSaid : Prop := fieldLawsRow.holds Try.pinned (OpenSpec.ofChange fieldLawsSpec)

/-- ITS FALSE NEIGHBOUR: 'it returns false'. Refute it at one input. -/
def fieldLawsWrong : ChangeSpec := { name := "fieldLaws", fn := fun _ => fun
  | [d1, d2, d3, d4, d5] => { results := [.lit (.bool false)], args := [d1, d2, d3, d4, d5] }
  | _ => none }
def FieldLawsWrongFalsely : Prop := fieldLawsRow.holds Try.pinned (OpenSpec.ofChange fieldLawsWrong)

/-- 'portholelaw2.FieldKnown': WHATEVER THE INPUT: true; the input reads as it did. -/
def fieldKnownSpec : ChangeSpec := { name := "fieldKnown", fn := fun _ => fun
  | [] => { results := [.lit (.bool true)], args := [] }
  | _ => none }
def fieldKnownRow : OpenClaim := { program := "ytkjbjgkjplmkhaa", sum := "637a54cb658f179f75aa958366027616c363caa5fe053fd191fdc4f51b2a0384", func := "porthole/portholelaw2.FieldKnown", spec := "fieldKnown", inPlace := ["math/bits.Add64"], apart := false }
def FieldKnownSaid : Prop := fieldKnownRow.holds Try.pinned (OpenSpec.ofChange fieldKnownSpec)

/-- ITS FALSE NEIGHBOUR: 'it returns false'. Refute it at one input. -/
def fieldKnownWrong : ChangeSpec := { name := "fieldKnown", fn := fun _ => fun
  | [] => { results := [.lit (.bool false)], args := [] }
  | _ => none }
def FieldKnownWrongFalsely : Prop := fieldKnownRow.holds Try.pinned (OpenSpec.ofChange fieldKnownWrong)

/-- 'portholelaw3.CurveSame': WHATEVER THE INPUT: true; the input reads as it did. -/
def curveSameSpec : ChangeSpec := { name := "curveSame", fn := fun _ => fun
  | [d1, d2] => { results := [.lit (.bool true)], args := [d1, d2] }
  | _ => none }
def curveSameRow : OpenClaim := { program := "ytkjbjgkjplmkhaa", sum := "637a54cb658f179f75aa958366027616c363caa5fe053fd191fdc4f51b2a0384", func := "porthole/portholelaw3.CurveSame", spec := "curveSame", inPlace := ["math/bits.Add64"], apart := false }
def CurveSameSaid : Prop := curveSameRow.holds Try.pinned (OpenSpec.ofChange curveSameSpec)

/-- ITS FALSE NEIGHBOUR: 'it returns false'. Refute it at one input. -/
def curveSameWrong : ChangeSpec := { name := "curveSame", fn := fun _ => fun
  | [d1, d2] => { results := [.lit (.bool false)], args := [d1, d2] }
  | _ => none }
def CurveSameWrongFalsely : Prop := curveSameRow.holds Try.pinned (OpenSpec.ofChange curveSameWrong)

/-- 'portholelaw3.CurveAgrees': WHATEVER THE INPUT: true; the input reads as it did. -/
def curveAgreesSpec : ChangeSpec := { name := "curveAgrees", fn := fun _ => fun
  | [d1, d2] => { results := [.lit (.bool true)], args := [d1, d2] }
  | _ => none }
def curveAgreesRow : OpenClaim := { program := "ytkjbjgkjplmkhaa", sum := "637a54cb658f179f75aa958366027616c363caa5fe053fd191fdc4f51b2a0384", func := "porthole/portholelaw3.CurveAgrees", spec := "curveAgrees", inPlace := ["math/bits.Add64"], apart := false }
def CurveAgreesSaid : Prop := curveAgreesRow.holds Try.pinned (OpenSpec.ofChange curveAgreesSpec)

/-- ITS FALSE NEIGHBOUR: 'it returns false'. Refute it at one input. -/
def curveAgreesWrong : ChangeSpec := { name := "curveAgrees", fn := fun _ => fun
  | [d1, d2] => { results := [.lit (.bool false)], args := [d1, d2] }
  | _ => none }
def CurveAgreesWrongFalsely : Prop := curveAgreesRow.holds Try.pinned (OpenSpec.ofChange curveAgreesWrong)

/-- 'portholelaw3.CurveThree': WHATEVER THE INPUT: true; the input reads as it did. -/
def curveThreeSpec : ChangeSpec := { name := "curveThree", fn := fun _ => fun
  | [d1, d2, d3] => { results := [.lit (.bool true)], args := [d1, d2, d3] }
  | _ => none }
def curveThreeRow : OpenClaim := { program := "ytkjbjgkjplmkhaa", sum := "637a54cb658f179f75aa958366027616c363caa5fe053fd191fdc4f51b2a0384", func := "porthole/portholelaw3.CurveThree", spec := "curveThree", inPlace := ["math/bits.Add64"], apart := false }
def CurveThreeSaid : Prop := curveThreeRow.holds Try.pinned (OpenSpec.ofChange curveThreeSpec)

/-- ITS FALSE NEIGHBOUR: 'it returns false'. Refute it at one input. -/
def curveThreeWrong : ChangeSpec := { name := "curveThree", fn := fun _ => fun
  | [d1, d2, d3] => { results := [.lit (.bool false)], args := [d1, d2, d3] }
  | _ => none }
def CurveThreeWrongFalsely : Prop := curveThreeRow.holds Try.pinned (OpenSpec.ofChange curveThreeWrong)

/-- 'portholelaw3.CurvePublic': WHATEVER THE INPUT: true; the input reads as it did. -/
def curvePublicSpec : ChangeSpec := { name := "curvePublic", fn := fun _ => fun
  | [d1, d2] => { results := [.lit (.bool true)], args := [d1, d2] }
  | _ => none }
def curvePublicRow : OpenClaim := { program := "ytkjbjgkjplmkhaa", sum := "637a54cb658f179f75aa958366027616c363caa5fe053fd191fdc4f51b2a0384", func := "porthole/portholelaw3.CurvePublic", spec := "curvePublic", inPlace := ["math/bits.Add64"], apart := false }
def CurvePublicSaid : Prop := curvePublicRow.holds Try.pinned (OpenSpec.ofChange curvePublicSpec)

/-- ITS FALSE NEIGHBOUR: 'it returns false'. Refute it at one input. -/
def curvePublicWrong : ChangeSpec := { name := "curvePublic", fn := fun _ => fun
  | [d1, d2] => { results := [.lit (.bool false)], args := [d1, d2] }
  | _ => none }
def CurvePublicWrongFalsely : Prop := curvePublicRow.holds Try.pinned (OpenSpec.ofChange curvePublicWrong)

/- THE SECOND FORM. 'bulk': how many values and letters a reading holds, each counted each time it is reached (what is shared counts as often as it is met; a slice's spare places count too). A statement '..UptoSaid' is the law's where the arguments, and the package variables that the reading takes, are together of bulk at most 1048576: NARROWER than '..Said'. Prove '..Said' where nothing that the law and all that it calls make is longer than what came in: it says more and counts as full. Else prove '..UptoSaid'. A law counts once. -/
mutual
def uptoBulk {H : Type} : DataW H → Nat
  | .lit (.string bytes) => bytes.length + 1
  | .lit _ => 1
  | .nil => 1
  | .ptr d => uptoBulk d + 1
  | .slice elems spare => uptoBulkAll elems + uptoBulkAll spare + 1
  | .agg parts => uptoBulkAll parts + 1
  | .iface _ d => uptoBulk d + 1
  | .map entries => uptoBulkEntries entries + 1
  | .held _ => 1
def uptoBulkAll {H : Type} : List (DataW H) → Nat
  | [] => 0
  | d :: r => uptoBulk d + uptoBulkAll r
def uptoBulkEntries {H : Type} : List (Lit × DataW H) → Nat
  | [] => 0
  | x :: r => uptoBulkEntry x + uptoBulkEntries r
def uptoBulkEntry {H : Type} : Lit × DataW H → Nat
  | (.string bytes, d) => bytes.length + uptoBulk d + 1
  | (_, d) => uptoBulk d + 1
 end
def uptoSmall : (H : Type) → List (DataW H) → Bool := fun _ ds => decide (uptoBulkAll ds ≤ 1048576)
def OpenSpec.upto (s : _root_.Go.ChangeSpec) : _root_.Go.OpenSpec := { _root_.Go.OpenSpec.ofChange s with cond := some uptoSmall }

/-- 'portholelaw2.FieldBytes', WHERE WHAT IT READS IS OF BULK AT MOST 1048576: true; the input reads as it did. -/
def fieldBytesUptoRow : OpenClaim := { program := "ytkjbjgkjplmkhaa", sum := "637a54cb658f179f75aa958366027616c363caa5fe053fd191fdc4f51b2a0384", func := "porthole/portholelaw2.FieldBytes", spec := "fieldBytes", apart := false, narrowed := true }
def FieldBytesUptoSaid : Prop := fieldBytesUptoRow.holds Try.pinned (OpenSpec.upto fieldBytesSpec)

/-- 'portholelaw2.FieldSwaps', WHERE WHAT IT READS IS OF BULK AT MOST 1048576: true; the input reads as it did. -/
def fieldSwapsUptoRow : OpenClaim := { program := "ytkjbjgkjplmkhaa", sum := "637a54cb658f179f75aa958366027616c363caa5fe053fd191fdc4f51b2a0384", func := "porthole/portholelaw2.FieldSwaps", spec := "fieldSwaps", apart := false, narrowed := true }
def FieldSwapsUptoSaid : Prop := fieldSwapsUptoRow.holds Try.pinned (OpenSpec.upto fieldSwapsSpec)

/-- 'portholelaw2.FieldSquares', WHERE WHAT IT READS IS OF BULK AT MOST 1048576: true; the input reads as it did. -/
def fieldSquaresUptoRow : OpenClaim := { program := "ytkjbjgkjplmkhaa", sum := "637a54cb658f179f75aa958366027616c363caa5fe053fd191fdc4f51b2a0384", func := "porthole/portholelaw2.FieldSquares", spec := "fieldSquares", inPlace := ["math/bits.Add64"], apart := false, narrowed := true }
def FieldSquaresUptoSaid : Prop := fieldSquaresUptoRow.holds Try.pinned (OpenSpec.upto fieldSquaresSpec)

/-- 'portholelaw2.FieldSmalls', WHERE WHAT IT READS IS OF BULK AT MOST 1048576: true; the input reads as it did. -/
def fieldSmallsUptoRow : OpenClaim := { program := "ytkjbjgkjplmkhaa", sum := "637a54cb658f179f75aa958366027616c363caa5fe053fd191fdc4f51b2a0384", func := "porthole/portholelaw2.FieldSmalls", spec := "fieldSmalls", inPlace := ["math/bits.Add64"], apart := false, narrowed := true }
def FieldSmallsUptoSaid : Prop := fieldSmallsUptoRow.holds Try.pinned (OpenSpec.upto fieldSmallsSpec)

/-- 'portholelaw2.FieldInverts', WHERE WHAT IT READS IS OF BULK AT MOST 1048576: true; the input reads as it did. -/
def fieldInvertsUptoRow : OpenClaim := { program := "ytkjbjgkjplmkhaa", sum := "637a54cb658f179f75aa958366027616c363caa5fe053fd191fdc4f51b2a0384", func := "porthole/portholelaw2.FieldInverts", spec := "fieldInverts", inPlace := ["math/bits.Add64"], apart := false, narrowed := true }
def FieldInvertsUptoSaid : Prop := fieldInvertsUptoRow.holds Try.pinned (OpenSpec.upto fieldInvertsSpec)

/-- 'portholelaw2.FieldLaws', WHERE WHAT IT READS IS OF BULK AT MOST 1048576: true; the input reads as it did. -/
def fieldLawsUptoRow : OpenClaim := { program := "ytkjbjgkjplmkhaa", sum := "637a54cb658f179f75aa958366027616c363caa5fe053fd191fdc4f51b2a0384", func := "porthole/portholelaw2.FieldLaws", spec := "fieldLaws", inPlace := ["math/bits.Add64"], apart := false, narrowed := true }
def FieldLawsUptoSaid : Prop := fieldLawsUptoRow.holds Try.pinned (OpenSpec.upto fieldLawsSpec)

/-- 'portholelaw2.FieldKnown', WHERE WHAT IT READS IS OF BULK AT MOST 1048576: true; the input reads as it did. -/
def fieldKnownUptoRow : OpenClaim := { program := "ytkjbjgkjplmkhaa", sum := "637a54cb658f179f75aa958366027616c363caa5fe053fd191fdc4f51b2a0384", func := "porthole/portholelaw2.FieldKnown", spec := "fieldKnown", inPlace := ["math/bits.Add64"], apart := false, narrowed := true }
def FieldKnownUptoSaid : Prop := fieldKnownUptoRow.holds Try.pinned (OpenSpec.upto fieldKnownSpec)

/-- 'portholelaw3.CurveSame', WHERE WHAT IT READS IS OF BULK AT MOST 1048576: true; the input reads as it did. -/
def curveSameUptoRow : OpenClaim := { program := "ytkjbjgkjplmkhaa", sum := "637a54cb658f179f75aa958366027616c363caa5fe053fd191fdc4f51b2a0384", func := "porthole/portholelaw3.CurveSame", spec := "curveSame", inPlace := ["math/bits.Add64"], apart := false, narrowed := true }
def CurveSameUptoSaid : Prop := curveSameUptoRow.holds Try.pinned (OpenSpec.upto curveSameSpec)

/-- 'portholelaw3.CurveAgrees', WHERE WHAT IT READS IS OF BULK AT MOST 1048576: true; the input reads as it did. -/
def curveAgreesUptoRow : OpenClaim := { program := "ytkjbjgkjplmkhaa", sum := "637a54cb658f179f75aa958366027616c363caa5fe053fd191fdc4f51b2a0384", func := "porthole/portholelaw3.CurveAgrees", spec := "curveAgrees", inPlace := ["math/bits.Add64"], apart := false, narrowed := true }
def CurveAgreesUptoSaid : Prop := curveAgreesUptoRow.holds Try.pinned (OpenSpec.upto curveAgreesSpec)

/-- 'portholelaw3.CurveThree', WHERE WHAT IT READS IS OF BULK AT MOST 1048576: true; the input reads as it did. -/
def curveThreeUptoRow : OpenClaim := { program := "ytkjbjgkjplmkhaa", sum := "637a54cb658f179f75aa958366027616c363caa5fe053fd191fdc4f51b2a0384", func := "porthole/portholelaw3.CurveThree", spec := "curveThree", inPlace := ["math/bits.Add64"], apart := false, narrowed := true }
def CurveThreeUptoSaid : Prop := curveThreeUptoRow.holds Try.pinned (OpenSpec.upto curveThreeSpec)

/-- 'portholelaw3.CurvePublic', WHERE WHAT IT READS IS OF BULK AT MOST 1048576: true; the input reads as it did. -/
def curvePublicUptoRow : OpenClaim := { program := "ytkjbjgkjplmkhaa", sum := "637a54cb658f179f75aa958366027616c363caa5fe053fd191fdc4f51b2a0384", func := "porthole/portholelaw3.CurvePublic", spec := "curvePublic", inPlace := ["math/bits.Add64"], apart := false, narrowed := true }
def CurvePublicUptoSaid : Prop := curvePublicUptoRow.holds Try.pinned (OpenSpec.upto curvePublicSpec)

end Rows
end Go.Proofs.Ytkjbjgkjplmkhaa
