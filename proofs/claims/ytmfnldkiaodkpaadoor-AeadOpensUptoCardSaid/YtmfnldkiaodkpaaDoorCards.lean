/-
  DERIVED. GIVEN WITH THE SEED: THE CARDS: each row of YtmfnldkiaodkpaaDoorRows.lean that lists a variable, with what it lists TIED to the program's text (the seventh form; the later family's looks); each row that meets fmt, with fmt's text TOLD by the authors' own Lean function (tested against real Go, not proved from fmt's source: count such statements apart). THE CARD IS WHAT COUNTS. Prove the row's statement (the work); the ties are given (YtmfnldkiaodkpaaDoorTie.lean); close each card by the builder's one call (the guide's Derived/Test/ToyasCard.lean, 'card_holds'). Laid BY PROGRAM, IN A SANDBOX (cutbox-door.mjs). By AI agents, Wed Nov 11 2026. No macro, syntax, notation, axiom, sorry.
-/
import Derived.Test.YtmfnldkiaodkpaaDoorRows
import GoSem.ClaimSeven
namespace Go.Proofs.YtmfnldkiaodkpaaDoor
namespace Rows

/-- THE TIED CARD OF 'portholelaw10.SymmKnown'. -/
def symmKnownCard : Claim7 := { stood := { row := symmKnownRow, standIns := [], harness := (true, "57379fb396293dcdff7313882e003e64d5edc198c7835746b3f9a79e738fbc5b"), looks := false }, kinds := [], alts := [], laidByText := true, laidKinds := [.data, .data, .data], laidTests := true, laidLooks := .later }
def SymmKnownCardSaid : Prop := Claim7.holds Tryd.pinned (.plain (OpenSpec.ofChange symmKnownSpec)) symmKnownCard

/-- THE TIED CARD OF 'portholelaw6.AeadSeals'. -/
def aeadSealsCard : Claim7 := { stood := { row := aeadSealsRow, standIns := [], harness := (true, "57379fb396293dcdff7313882e003e64d5edc198c7835746b3f9a79e738fbc5b"), looks := false }, kinds := [], alts := [], laidByText := true, laidKinds := [.data], laidTests := true, laidLooks := .later }
def AeadSealsCardSaid : Prop := Claim7.holds Tryd.pinned (.plain (OpenSpec.ofChange aeadSealsSpec)) aeadSealsCard

/-- THE TIED CARD OF 'portholelaw6.AeadOpens'. -/
def aeadOpensCard : Claim7 := { stood := { row := aeadOpensRow, standIns := [], harness := (true, "57379fb396293dcdff7313882e003e64d5edc198c7835746b3f9a79e738fbc5b"), looks := false }, kinds := [], alts := [], laidByText := true, laidKinds := [.data], laidTests := true, laidLooks := .later }
def AeadOpensCardSaid : Prop := Claim7.holds Tryd.pinned (.plain (OpenSpec.ofChange aeadOpensSpec)) aeadOpensCard

/-- THE TIED CARD OF 'portholelaw9.CipherPlays'. -/
def cipherPlaysCard : Claim7 := { stood := { row := cipherPlaysRow, standIns := [], harness := (true, "57379fb396293dcdff7313882e003e64d5edc198c7835746b3f9a79e738fbc5b"), looks := false }, kinds := [], alts := [], laidByText := true, laidKinds := [.data], laidTests := true, laidLooks := .later }
def CipherPlaysCardSaid : Prop := Claim7.holds Tryd.pinned (.plain (OpenSpec.ofChange cipherPlaysSpec)) cipherPlaysCard

/-- THE TIED CARD OF 'portholelaw16.RecordHalves'. -/
def recordHalvesCard : Claim7 := { stood := { row := recordHalvesRow, standIns := [], harness := (true, "57379fb396293dcdff7313882e003e64d5edc198c7835746b3f9a79e738fbc5b"), looks := false }, kinds := [], alts := [], laidByText := true, laidKinds := [.data, .data], laidTests := true, laidLooks := .later }
def RecordHalvesCardSaid : Prop := Claim7.holds Tryd.pinned (.plain (OpenSpec.ofChange recordHalvesSpec)) recordHalvesCard

/-- THE TIED CARD OF 'portholelaw16.RecordStream'. -/
def recordStreamCard : Claim7 := { stood := { row := recordStreamRow, standIns := [], harness := (true, "57379fb396293dcdff7313882e003e64d5edc198c7835746b3f9a79e738fbc5b"), looks := false }, kinds := [], alts := [], laidByText := true, laidKinds := [.data], laidTests := true, laidLooks := .later }
def RecordStreamCardSaid : Prop := Claim7.holds Tryd.pinned (.plain (OpenSpec.ofChange recordStreamSpec)) recordStreamCard

/-- THE TIED CARD OF 'portholelaw10.SymmPlays'. -/
def symmPlaysCard : Claim7 := { stood := { row := symmPlaysRow, standIns := [], harness := (true, "57379fb396293dcdff7313882e003e64d5edc198c7835746b3f9a79e738fbc5b"), looks := false }, kinds := [], alts := [], laidByText := true, laidKinds := [.data, .data, .data], laidTests := true, laidLooks := .later }
def SymmPlaysCardSaid : Prop := Claim7.holds Tryd.pinned (.plain (OpenSpec.ofChange symmPlaysSpec)) symmPlaysCard

/-- THE SECOND FORM's CARD OF 'portholelaw10.SymmKnown'. -/
def symmKnownUptoCard : Claim7 := { stood := { row := symmKnownUptoRow, standIns := [], harness := (true, "57379fb396293dcdff7313882e003e64d5edc198c7835746b3f9a79e738fbc5b"), looks := false }, kinds := [], alts := [], laidByText := true, laidKinds := [.data, .data, .data], laidTests := true, laidLooks := .later }
def SymmKnownUptoCardSaid : Prop := Claim7.holds Tryd.pinned (.plain (OpenSpec.upto symmKnownSpec)) symmKnownUptoCard

/-- THE SECOND FORM's CARD OF 'portholelaw6.AeadSeals'. -/
def aeadSealsUptoCard : Claim7 := { stood := { row := aeadSealsUptoRow, standIns := [], harness := (true, "57379fb396293dcdff7313882e003e64d5edc198c7835746b3f9a79e738fbc5b"), looks := false }, kinds := [], alts := [], laidByText := true, laidKinds := [.data], laidTests := true, laidLooks := .later }
def AeadSealsUptoCardSaid : Prop := Claim7.holds Tryd.pinned (.plain (OpenSpec.upto aeadSealsSpec)) aeadSealsUptoCard

/-- THE SECOND FORM's CARD OF 'portholelaw6.AeadOpens'. -/
def aeadOpensUptoCard : Claim7 := { stood := { row := aeadOpensUptoRow, standIns := [], harness := (true, "57379fb396293dcdff7313882e003e64d5edc198c7835746b3f9a79e738fbc5b"), looks := false }, kinds := [], alts := [], laidByText := true, laidKinds := [.data], laidTests := true, laidLooks := .later }
def AeadOpensUptoCardSaid : Prop := Claim7.holds Tryd.pinned (.plain (OpenSpec.upto aeadOpensSpec)) aeadOpensUptoCard

/-- THE SECOND FORM's CARD OF 'portholelaw9.CipherPlays'. -/
def cipherPlaysUptoCard : Claim7 := { stood := { row := cipherPlaysUptoRow, standIns := [], harness := (true, "57379fb396293dcdff7313882e003e64d5edc198c7835746b3f9a79e738fbc5b"), looks := false }, kinds := [], alts := [], laidByText := true, laidKinds := [.data], laidTests := true, laidLooks := .later }
def CipherPlaysUptoCardSaid : Prop := Claim7.holds Tryd.pinned (.plain (OpenSpec.upto cipherPlaysSpec)) cipherPlaysUptoCard

/-- THE SECOND FORM's CARD OF 'portholelaw16.RecordHalves'. -/
def recordHalvesUptoCard : Claim7 := { stood := { row := recordHalvesUptoRow, standIns := [], harness := (true, "57379fb396293dcdff7313882e003e64d5edc198c7835746b3f9a79e738fbc5b"), looks := false }, kinds := [], alts := [], laidByText := true, laidKinds := [.data, .data], laidTests := true, laidLooks := .later }
def RecordHalvesUptoCardSaid : Prop := Claim7.holds Tryd.pinned (.plain (OpenSpec.upto recordHalvesSpec)) recordHalvesUptoCard

/-- THE SECOND FORM's CARD OF 'portholelaw16.RecordStream'. -/
def recordStreamUptoCard : Claim7 := { stood := { row := recordStreamUptoRow, standIns := [], harness := (true, "57379fb396293dcdff7313882e003e64d5edc198c7835746b3f9a79e738fbc5b"), looks := false }, kinds := [], alts := [], laidByText := true, laidKinds := [.data], laidTests := true, laidLooks := .later }
def RecordStreamUptoCardSaid : Prop := Claim7.holds Tryd.pinned (.plain (OpenSpec.upto recordStreamSpec)) recordStreamUptoCard

/-- THE SECOND FORM's CARD OF 'portholelaw10.SymmPlays'. -/
def symmPlaysUptoCard : Claim7 := { stood := { row := symmPlaysUptoRow, standIns := [], harness := (true, "57379fb396293dcdff7313882e003e64d5edc198c7835746b3f9a79e738fbc5b"), looks := false }, kinds := [], alts := [], laidByText := true, laidKinds := [.data, .data, .data], laidTests := true, laidLooks := .later }
def SymmPlaysUptoCardSaid : Prop := Claim7.holds Tryd.pinned (.plain (OpenSpec.upto symmPlaysSpec)) symmPlaysUptoCard
end Rows
end Go.Proofs.YtmfnldkiaodkpaaDoor
