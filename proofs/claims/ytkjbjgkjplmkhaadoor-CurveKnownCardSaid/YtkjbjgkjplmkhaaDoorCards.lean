/-
  DERIVED. GIVEN WITH THE SEED: THE CARDS: each row of YtkjbjgkjplmkhaaDoorRows.lean that lists a variable, with what it lists TIED to the program's text (the seventh form; the later family's looks); each row that meets fmt, with fmt's text TOLD by the authors' own Lean function (tested against real Go, not proved from fmt's source: count such statements apart). THE CARD IS WHAT COUNTS. Prove the row's statement (the work); the ties are given (YtkjbjgkjplmkhaaDoorTie.lean); close each card by the builder's one call (the guide's Derived/Test/ToyasCard.lean, 'card_holds'). Laid BY PROGRAM, IN A SANDBOX (cutbox-door.mjs). By AI agents, Wed Nov 11 2026. No macro, syntax, notation, axiom, sorry.
-/
import Derived.Test.YtkjbjgkjplmkhaaDoorRows
import GoSem.ClaimSeven
namespace Go.Proofs.YtkjbjgkjplmkhaaDoor
namespace Rows

/-- THE TIED CARD OF 'portholelaw2.FieldTimes'. -/
def fieldTimesCard : Claim7 := { stood := { row := fieldTimesRow, standIns := [], harness := (true, "f207112b1c5369846603d58492f46fc3f7d4fea2eaf5f16a52573f06f82cf56d"), looks := false }, kinds := [], alts := [], laidByText := true, laidKinds := [.data], laidTests := true, laidLooks := .later }
def FieldTimesCardSaid : Prop := Claim7.holds Tryd.pinned (.plain (OpenSpec.ofChange fieldTimesSpec)) fieldTimesCard

/-- THE TIED CARD OF 'portholelaw2.FieldAdds'. -/
def fieldAddsCard : Claim7 := { stood := { row := fieldAddsRow, standIns := [], harness := (true, "f207112b1c5369846603d58492f46fc3f7d4fea2eaf5f16a52573f06f82cf56d"), looks := false }, kinds := [], alts := [], laidByText := true, laidKinds := [.data], laidTests := true, laidLooks := .later }
def FieldAddsCardSaid : Prop := Claim7.holds Tryd.pinned (.plain (OpenSpec.ofChange fieldAddsSpec)) fieldAddsCard

/-- THE TIED CARD OF 'portholelaw3.CurveX'. -/
def curveXCard : Claim7 := { stood := { row := curveXRow, standIns := [], harness := (true, "f207112b1c5369846603d58492f46fc3f7d4fea2eaf5f16a52573f06f82cf56d"), looks := false }, kinds := [], alts := [], laidByText := true, laidKinds := [.data], laidTests := true, laidLooks := .later }
def CurveXCardSaid : Prop := Claim7.holds Tryd.pinned (.plain (OpenSpec.ofChange curveXSpec)) curveXCard

/-- THE TIED CARD OF 'portholelaw3.CurveKnown'. -/
def curveKnownCard : Claim7 := { stood := { row := curveKnownRow, standIns := [], harness := (true, "f207112b1c5369846603d58492f46fc3f7d4fea2eaf5f16a52573f06f82cf56d"), looks := false }, kinds := [], alts := [], laidByText := true, laidKinds := [.data], laidTests := true, laidLooks := .later }
def CurveKnownCardSaid : Prop := Claim7.holds Tryd.pinned (.plain (OpenSpec.ofChange curveKnownSpec)) curveKnownCard

/-- THE SECOND FORM's CARD OF 'portholelaw2.FieldTimes'. -/
def fieldTimesUptoCard : Claim7 := { stood := { row := fieldTimesUptoRow, standIns := [], harness := (true, "f207112b1c5369846603d58492f46fc3f7d4fea2eaf5f16a52573f06f82cf56d"), looks := false }, kinds := [], alts := [], laidByText := true, laidKinds := [.data], laidTests := true, laidLooks := .later }
def FieldTimesUptoCardSaid : Prop := Claim7.holds Tryd.pinned (.plain (OpenSpec.upto fieldTimesSpec)) fieldTimesUptoCard

/-- THE SECOND FORM's CARD OF 'portholelaw2.FieldAdds'. -/
def fieldAddsUptoCard : Claim7 := { stood := { row := fieldAddsUptoRow, standIns := [], harness := (true, "f207112b1c5369846603d58492f46fc3f7d4fea2eaf5f16a52573f06f82cf56d"), looks := false }, kinds := [], alts := [], laidByText := true, laidKinds := [.data], laidTests := true, laidLooks := .later }
def FieldAddsUptoCardSaid : Prop := Claim7.holds Tryd.pinned (.plain (OpenSpec.upto fieldAddsSpec)) fieldAddsUptoCard

/-- THE SECOND FORM's CARD OF 'portholelaw3.CurveX'. -/
def curveXUptoCard : Claim7 := { stood := { row := curveXUptoRow, standIns := [], harness := (true, "f207112b1c5369846603d58492f46fc3f7d4fea2eaf5f16a52573f06f82cf56d"), looks := false }, kinds := [], alts := [], laidByText := true, laidKinds := [.data], laidTests := true, laidLooks := .later }
def CurveXUptoCardSaid : Prop := Claim7.holds Tryd.pinned (.plain (OpenSpec.upto curveXSpec)) curveXUptoCard

/-- THE SECOND FORM's CARD OF 'portholelaw3.CurveKnown'. -/
def curveKnownUptoCard : Claim7 := { stood := { row := curveKnownUptoRow, standIns := [], harness := (true, "f207112b1c5369846603d58492f46fc3f7d4fea2eaf5f16a52573f06f82cf56d"), looks := false }, kinds := [], alts := [], laidByText := true, laidKinds := [.data], laidTests := true, laidLooks := .later }
def CurveKnownUptoCardSaid : Prop := Claim7.holds Tryd.pinned (.plain (OpenSpec.upto curveKnownSpec)) curveKnownUptoCard
end Rows
end Go.Proofs.YtkjbjgkjplmkhaaDoor
