/-
  NARROWER THAN 'FOR EVERY INPUT', by the rows' own cells (each row's printed sentence says how): FieldTimes: laid · FieldAdds: laid · CurveX: laid · CurveKnown: laid.
  DERIVED. THE GIVEN ROWS OF THIS SEAT. 4 by the template 'for every input the law returns true; each argument reads behind the call as it read before'; 0 by the template 'total and deterministic' (their statements: YtkjbjgkjplmkhaaDoorTotals.lean).
  GIVEN WITH THE SEED: the statements are not yours to turn. If you find one false, say at which input.
  Laid BY PROGRAM, IN A SANDBOX (cutbox-rows.mjs): the forced cells as the released guide's own fill.sh prints them over the translation 778670064ccaddf9… (all of the seat's roots in one cut). By AI agents, Wed Nov 11 2026. No macro, syntax, notation, axiom, sorry.
-/
import Derived.Test.YtkjbjgkjplmkhaaDoorChecked
import GoSem.Claim
import GoSem.ClaimJoined
import GoSem.ClaimMapViews
import Derived.JoinedTies
import Derived.KernelRfl
namespace Go.Proofs.YtkjbjgkjplmkhaaDoor
/- THE CELL 'sum', in the pinned program and in every row, IS THE sha256 OF THE DUMP (.gsa) THAT YtkjbjgkjplmkhaaDoorProg.lean LOADS. Nothing in Lean hashes anything: it is a label: what it is worth is what the hold of that sum in a sandbox is worth. -/
noncomputable def Tryd.pinned : Pinned := { name := "ytkjbjgkjplmkhaadoor", sum := "778670064ccaddf922ccbb35184049be2691db0786f57cc5f8933f10349371b2", checked := Tryd.checked }
namespace Rows
def none {H : Type} : Left H := { results := [], args := [] }

/- WHAT THE LISTED PACKAGE-LEVEL VARIABLES READ AS WHEN THE CALL BEGINS. Each datum BY PROGRAM (the guide's laid-datum.mjs) off the statement by which the dump's own 'gosem.cut.vars' lays the variable. In a bare row this is a premise. The card (YtkjbjgkjplmkhaaDoorCards.lean) ties it to the program's text. -/
def laid_porthole_portholeref1_prime {H : Type} : DataW H := .agg [.lit (.int .u64 65517), .lit (.int .u64 65535), .lit (.int .u64 65535), .lit (.int .u64 65535), .lit (.int .u64 65535), .lit (.int .u64 65535), .lit (.int .u64 65535), .lit (.int .u64 65535), .lit (.int .u64 65535), .lit (.int .u64 65535), .lit (.int .u64 65535), .lit (.int .u64 65535), .lit (.int .u64 65535), .lit (.int .u64 65535), .lit (.int .u64 65535), .lit (.int .u64 32767)]

/-- 'portholelaw2.FieldTimes': WHATEVER THE INPUT: true; the input reads as it did. -/
def fieldTimesSpec : ChangeSpec := { name := "fieldTimes", fn := fun _ => fun
  | [d1, d2, d3, d4] => { results := [.lit (.bool true)], args := [d1, d2, d3, d4] }
  | _ => none }
def fieldTimesRow : OpenClaim := { program := "ytkjbjgkjplmkhaadoor", sum := "778670064ccaddf922ccbb35184049be2691db0786f57cc5f8933f10349371b2", func := "porthole/portholelaw2.FieldTimes", spec := "fieldTimes", inPlace := ["math/bits.Add64"], named := ["porthole/portholeref1.prime"], apart := false, laid := [("porthole/portholeref1.prime", laid_porthole_portholeref1_prime)] }
def FieldTimesSaid : Prop := fieldTimesRow.holds Tryd.pinned (OpenSpec.ofChange fieldTimesSpec)

/-- ITS FALSE NEIGHBOUR: 'it returns false'. Refute it at one input. -/
def fieldTimesWrong : ChangeSpec := { name := "fieldTimes", fn := fun _ => fun
  | [d1, d2, d3, d4] => { results := [.lit (.bool false)], args := [d1, d2, d3, d4] }
  | _ => none }
def FieldTimesWrongFalsely : Prop := fieldTimesRow.holds Tryd.pinned (OpenSpec.ofChange fieldTimesWrong)

/-- 'portholelaw2.FieldAdds': WHATEVER THE INPUT: true; the input reads as it did. -/
def fieldAddsSpec : ChangeSpec := { name := "fieldAdds", fn := fun _ => fun
  | [d1, d2, d3, d4, d5] => { results := [.lit (.bool true)], args := [d1, d2, d3, d4, d5] }
  | _ => none }
def fieldAddsRow : OpenClaim := { program := "ytkjbjgkjplmkhaadoor", sum := "778670064ccaddf922ccbb35184049be2691db0786f57cc5f8933f10349371b2", func := "porthole/portholelaw2.FieldAdds", spec := "fieldAdds", inPlace := ["math/bits.Add64"], named := ["porthole/portholeref1.prime"], apart := false, laid := [("porthole/portholeref1.prime", laid_porthole_portholeref1_prime)] }
def FieldAddsSaid : Prop := fieldAddsRow.holds Tryd.pinned (OpenSpec.ofChange fieldAddsSpec)

/-- ITS FALSE NEIGHBOUR: 'it returns false'. Refute it at one input. -/
def fieldAddsWrong : ChangeSpec := { name := "fieldAdds", fn := fun _ => fun
  | [d1, d2, d3, d4, d5] => { results := [.lit (.bool false)], args := [d1, d2, d3, d4, d5] }
  | _ => none }
def FieldAddsWrongFalsely : Prop := fieldAddsRow.holds Tryd.pinned (OpenSpec.ofChange fieldAddsWrong)

/-- 'portholelaw3.CurveX': WHATEVER THE INPUT: true; the input reads as it did. -/
def curveXSpec : ChangeSpec := { name := "curveX", fn := fun _ => fun
  | [d1, d2, d3] => { results := [.lit (.bool true)], args := [d1, d2, d3] }
  | _ => none }
def curveXRow : OpenClaim := { program := "ytkjbjgkjplmkhaadoor", sum := "778670064ccaddf922ccbb35184049be2691db0786f57cc5f8933f10349371b2", func := "porthole/portholelaw3.CurveX", spec := "curveX", inPlace := ["math/bits.Add64"], named := ["porthole/portholeref1.prime"], apart := false, laid := [("porthole/portholeref1.prime", laid_porthole_portholeref1_prime)] }
def CurveXSaid : Prop := curveXRow.holds Tryd.pinned (OpenSpec.ofChange curveXSpec)

/-- ITS FALSE NEIGHBOUR: 'it returns false'. Refute it at one input. -/
def curveXWrong : ChangeSpec := { name := "curveX", fn := fun _ => fun
  | [d1, d2, d3] => { results := [.lit (.bool false)], args := [d1, d2, d3] }
  | _ => none }
def CurveXWrongFalsely : Prop := curveXRow.holds Tryd.pinned (OpenSpec.ofChange curveXWrong)

/-- 'portholelaw3.CurveKnown': WHATEVER THE INPUT: true; the input reads as it did. -/
def curveKnownSpec : ChangeSpec := { name := "curveKnown", fn := fun _ => fun
  | [] => { results := [.lit (.bool true)], args := [] }
  | _ => none }
def curveKnownRow : OpenClaim := { program := "ytkjbjgkjplmkhaadoor", sum := "778670064ccaddf922ccbb35184049be2691db0786f57cc5f8933f10349371b2", func := "porthole/portholelaw3.CurveKnown", spec := "curveKnown", inPlace := ["math/bits.Add64"], named := ["porthole/portholeref1.prime"], apart := false, laid := [("porthole/portholeref1.prime", laid_porthole_portholeref1_prime)] }
def CurveKnownSaid : Prop := curveKnownRow.holds Tryd.pinned (OpenSpec.ofChange curveKnownSpec)

/-- ITS FALSE NEIGHBOUR: 'it returns false'. Refute it at one input. -/
def curveKnownWrong : ChangeSpec := { name := "curveKnown", fn := fun _ => fun
  | [] => { results := [.lit (.bool false)], args := [] }
  | _ => none }
def CurveKnownWrongFalsely : Prop := curveKnownRow.holds Tryd.pinned (OpenSpec.ofChange curveKnownWrong)

/- THE SECOND FORM. 'bulk': how many values and letters a reading holds, each counted each time it is reached (what is shared counts as often as it is met; a slice's spare places count too). A statement '..UptoSaid' is the law's where the arguments, and the package variables that the reading takes, are together of bulk at most 1048576: NARROWER than '..Said'. Prove '..Said' where nothing that the law and all that it calls make is longer than what came in: it says more and counts as full. Else prove '..UptoSaid'. A law counts once. -/
mutual
def uptoBulk {H : Type} : DataW H → Nat
  | .lit (.string bytes) => bytes.length + 1
  | .lit _ => 1
  | .nil => 1
  | .ptr d => uptoBulk d + 1
  | .slice elems spare => uptoBulkAll elems + uptoBulkAll spare + 1
  | .agg parts => uptoBulkAll parts + 1
  | .iface _ d => uptoBulk d + 1
  | .map entries => uptoBulkEntries entries + 1
  | .held _ => 1
def uptoBulkAll {H : Type} : List (DataW H) → Nat
  | [] => 0
  | d :: r => uptoBulk d + uptoBulkAll r
def uptoBulkEntries {H : Type} : List (Lit × DataW H) → Nat
  | [] => 0
  | x :: r => uptoBulkEntry x + uptoBulkEntries r
def uptoBulkEntry {H : Type} : Lit × DataW H → Nat
  | (.string bytes, d) => bytes.length + uptoBulk d + 1
  | (_, d) => uptoBulk d + 1
 end
def uptoSmall : (H : Type) → List (DataW H) → Bool := fun _ ds => decide (uptoBulkAll ds ≤ 1048576)
def OpenSpec.upto (s : _root_.Go.ChangeSpec) : _root_.Go.OpenSpec := { _root_.Go.OpenSpec.ofChange s with cond := some uptoSmall }

/-- 'portholelaw2.FieldTimes', WHERE WHAT IT READS IS OF BULK AT MOST 1048576: true; the input reads as it did. -/
def fieldTimesUptoRow : OpenClaim := { program := "ytkjbjgkjplmkhaadoor", sum := "778670064ccaddf922ccbb35184049be2691db0786f57cc5f8933f10349371b2", func := "porthole/portholelaw2.FieldTimes", spec := "fieldTimes", inPlace := ["math/bits.Add64"], named := ["porthole/portholeref1.prime"], apart := false, laid := [("porthole/portholeref1.prime", laid_porthole_portholeref1_prime)], narrowed := true }
def FieldTimesUptoSaid : Prop := fieldTimesUptoRow.holds Tryd.pinned (OpenSpec.upto fieldTimesSpec)

/-- 'portholelaw2.FieldAdds', WHERE WHAT IT READS IS OF BULK AT MOST 1048576: true; the input reads as it did. -/
def fieldAddsUptoRow : OpenClaim := { program := "ytkjbjgkjplmkhaadoor", sum := "778670064ccaddf922ccbb35184049be2691db0786f57cc5f8933f10349371b2", func := "porthole/portholelaw2.FieldAdds", spec := "fieldAdds", inPlace := ["math/bits.Add64"], named := ["porthole/portholeref1.prime"], apart := false, laid := [("porthole/portholeref1.prime", laid_porthole_portholeref1_prime)], narrowed := true }
def FieldAddsUptoSaid : Prop := fieldAddsUptoRow.holds Tryd.pinned (OpenSpec.upto fieldAddsSpec)

/-- 'portholelaw3.CurveX', WHERE WHAT IT READS IS OF BULK AT MOST 1048576: true; the input reads as it did. -/
def curveXUptoRow : OpenClaim := { program := "ytkjbjgkjplmkhaadoor", sum := "778670064ccaddf922ccbb35184049be2691db0786f57cc5f8933f10349371b2", func := "porthole/portholelaw3.CurveX", spec := "curveX", inPlace := ["math/bits.Add64"], named := ["porthole/portholeref1.prime"], apart := false, laid := [("porthole/portholeref1.prime", laid_porthole_portholeref1_prime)], narrowed := true }
def CurveXUptoSaid : Prop := curveXUptoRow.holds Tryd.pinned (OpenSpec.upto curveXSpec)

/-- 'portholelaw3.CurveKnown', WHERE WHAT IT READS IS OF BULK AT MOST 1048576: true; the input reads as it did. -/
def curveKnownUptoRow : OpenClaim := { program := "ytkjbjgkjplmkhaadoor", sum := "778670064ccaddf922ccbb35184049be2691db0786f57cc5f8933f10349371b2", func := "porthole/portholelaw3.CurveKnown", spec := "curveKnown", inPlace := ["math/bits.Add64"], named := ["porthole/portholeref1.prime"], apart := false, laid := [("porthole/portholeref1.prime", laid_porthole_portholeref1_prime)], narrowed := true }
def CurveKnownUptoSaid : Prop := curveKnownUptoRow.holds Tryd.pinned (OpenSpec.upto curveKnownSpec)

end Rows
end Go.Proofs.YtkjbjgkjplmkhaaDoor
