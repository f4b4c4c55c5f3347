/-
  NARROWER THAN 'FOR EVERY INPUT', by the rows' own cells (each row's printed sentence says how): SymmKnown: laid · AeadSeals: laid · AeadOpens: laid · CipherPlays: laid · RecordHalves: laid · RecordStream: laid · SymmPlays: laid.
  DERIVED. THE GIVEN ROWS OF THIS SEAT. 7 by the template 'for every input the law returns true; each argument reads behind the call as it read before'; 0 by the template 'total and deterministic' (their statements: YtmfnldkiaodkpaaDoorTotals.lean).
  GIVEN WITH THE SEED: the statements are not yours to turn. If you find one false, say at which input.
  Laid BY PROGRAM, IN A SANDBOX (cutbox-rows.mjs): the forced cells as the released guide's own fill.sh prints them over the translation 33b494dc750cfd50… (all of the seat's roots in one cut). By AI agents, Wed Nov 11 2026. No macro, syntax, notation, axiom, sorry.
-/
import Derived.Test.YtmfnldkiaodkpaaDoorChecked
import GoSem.Claim
import GoSem.ClaimJoined
import GoSem.ClaimMapViews
import Derived.JoinedTies
import Derived.KernelRfl
namespace Go.Proofs.YtmfnldkiaodkpaaDoor
/- THE CELL 'sum', in the pinned program and in every row, IS THE sha256 OF THE DUMP (.gsa) THAT YtmfnldkiaodkpaaDoorProg.lean LOADS. Nothing in Lean hashes anything: it is a label: what it is worth is what the hold of that sum in a sandbox is worth. -/
noncomputable def Tryd.pinned : Pinned := { name := "ytmfnldkiaodkpaadoor", sum := "33b494dc750cfd50ef41575b6991c6ce74fefdcab3b7553255e4eb6e84badae7", checked := Tryd.checked }
namespace Rows
def none {H : Type} : Left H := { results := [], args := [] }

/- WHAT THE LISTED PACKAGE-LEVEL VARIABLES READ AS WHEN THE CALL BEGINS. Each datum BY PROGRAM (the guide's laid-datum.mjs) off the statement by which the dump's own 'gosem.cut.vars' lays the variable. In a bare row this is a premise. The card (YtmfnldkiaodkpaaDoorCards.lean) ties it to the program's text. -/
def laid_porthole_portholeref4_rows {H : Type} : DataW H := .agg [.agg [.lit (.int .i64 0), .lit (.int .i64 4), .lit (.int .i64 8), .lit (.int .i64 12)], .agg [.lit (.int .i64 1), .lit (.int .i64 5), .lit (.int .i64 9), .lit (.int .i64 13)], .agg [.lit (.int .i64 2), .lit (.int .i64 6), .lit (.int .i64 10), .lit (.int .i64 14)], .agg [.lit (.int .i64 3), .lit (.int .i64 7), .lit (.int .i64 11), .lit (.int .i64 15)], .agg [.lit (.int .i64 0), .lit (.int .i64 5), .lit (.int .i64 10), .lit (.int .i64 15)], .agg [.lit (.int .i64 1), .lit (.int .i64 6), .lit (.int .i64 11), .lit (.int .i64 12)], .agg [.lit (.int .i64 2), .lit (.int .i64 7), .lit (.int .i64 8), .lit (.int .i64 13)], .agg [.lit (.int .i64 3), .lit (.int .i64 4), .lit (.int .i64 9), .lit (.int .i64 14)]]
def laid_porthole_portholeref4_iv {H : Type} : DataW H := .agg [.lit (.int .u32 1779033703), .lit (.int .u32 3144134277), .lit (.int .u32 1013904242), .lit (.int .u32 2773480762), .lit (.int .u32 1359893119), .lit (.int .u32 2600822924), .lit (.int .u32 528734635), .lit (.int .u32 1541459225)]
def laid_porthole_portholeref4_sigma {H : Type} : DataW H := .agg [.agg [.lit (.int .i64 0), .lit (.int .i64 1), .lit (.int .i64 2), .lit (.int .i64 3), .lit (.int .i64 4), .lit (.int .i64 5), .lit (.int .i64 6), .lit (.int .i64 7), .lit (.int .i64 8), .lit (.int .i64 9), .lit (.int .i64 10), .lit (.int .i64 11), .lit (.int .i64 12), .lit (.int .i64 13), .lit (.int .i64 14), .lit (.int .i64 15)], .agg [.lit (.int .i64 14), .lit (.int .i64 10), .lit (.int .i64 4), .lit (.int .i64 8), .lit (.int .i64 9), .lit (.int .i64 15), .lit (.int .i64 13), .lit (.int .i64 6), .lit (.int .i64 1), .lit (.int .i64 12), .lit (.int .i64 0), .lit (.int .i64 2), .lit (.int .i64 11), .lit (.int .i64 7), .lit (.int .i64 5), .lit (.int .i64 3)], .agg [.lit (.int .i64 11), .lit (.int .i64 8), .lit (.int .i64 12), .lit (.int .i64 0), .lit (.int .i64 5), .lit (.int .i64 2), .lit (.int .i64 15), .lit (.int .i64 13), .lit (.int .i64 10), .lit (.int .i64 14), .lit (.int .i64 3), .lit (.int .i64 6), .lit (.int .i64 7), .lit (.int .i64 1), .lit (.int .i64 9), .lit (.int .i64 4)], .agg [.lit (.int .i64 7), .lit (.int .i64 9), .lit (.int .i64 3), .lit (.int .i64 1), .lit (.int .i64 13), .lit (.int .i64 12), .lit (.int .i64 11), .lit (.int .i64 14), .lit (.int .i64 2), .lit (.int .i64 6), .lit (.int .i64 5), .lit (.int .i64 10), .lit (.int .i64 4), .lit (.int .i64 0), .lit (.int .i64 15), .lit (.int .i64 8)], .agg [.lit (.int .i64 9), .lit (.int .i64 0), .lit (.int .i64 5), .lit (.int .i64 7), .lit (.int .i64 2), .lit (.int .i64 4), .lit (.int .i64 10), .lit (.int .i64 15), .lit (.int .i64 14), .lit (.int .i64 1), .lit (.int .i64 11), .lit (.int .i64 12), .lit (.int .i64 6), .lit (.int .i64 8), .lit (.int .i64 3), .lit (.int .i64 13)], .agg [.lit (.int .i64 2), .lit (.int .i64 12), .lit (.int .i64 6), .lit (.int .i64 10), .lit (.int .i64 0), .lit (.int .i64 11), .lit (.int .i64 8), .lit (.int .i64 3), .lit (.int .i64 4), .lit (.int .i64 13), .lit (.int .i64 7), .lit (.int .i64 5), .lit (.int .i64 15), .lit (.int .i64 14), .lit (.int .i64 1), .lit (.int .i64 9)], .agg [.lit (.int .i64 12), .lit (.int .i64 5), .lit (.int .i64 1), .lit (.int .i64 15), .lit (.int .i64 14), .lit (.int .i64 13), .lit (.int .i64 4), .lit (.int .i64 10), .lit (.int .i64 0), .lit (.int .i64 7), .lit (.int .i64 6), .lit (.int .i64 3), .lit (.int .i64 9), .lit (.int .i64 2), .lit (.int .i64 8), .lit (.int .i64 11)], .agg [.lit (.int .i64 13), .lit (.int .i64 11), .lit (.int .i64 7), .lit (.int .i64 14), .lit (.int .i64 12), .lit (.int .i64 1), .lit (.int .i64 3), .lit (.int .i64 9), .lit (.int .i64 5), .lit (.int .i64 0), .lit (.int .i64 15), .lit (.int .i64 4), .lit (.int .i64 8), .lit (.int .i64 6), .lit (.int .i64 2), .lit (.int .i64 10)], .agg [.lit (.int .i64 6), .lit (.int .i64 15), .lit (.int .i64 14), .lit (.int .i64 9), .lit (.int .i64 11), .lit (.int .i64 3), .lit (.int .i64 0), .lit (.int .i64 8), .lit (.int .i64 12), .lit (.int .i64 2), .lit (.int .i64 13), .lit (.int .i64 7), .lit (.int .i64 1), .lit (.int .i64 4), .lit (.int .i64 10), .lit (.int .i64 5)], .agg [.lit (.int .i64 10), .lit (.int .i64 2), .lit (.int .i64 8), .lit (.int .i64 4), .lit (.int .i64 7), .lit (.int .i64 6), .lit (.int .i64 1), .lit (.int .i64 5), .lit (.int .i64 15), .lit (.int .i64 11), .lit (.int .i64 9), .lit (.int .i64 14), .lit (.int .i64 3), .lit (.int .i64 12), .lit (.int .i64 13), .lit (.int .i64 0)]]
def laid_porthole_portholeref15_sizes {H : Type} : DataW H := .agg [.lit (.int .i64 64), .lit (.int .i64 256), .lit (.int .i64 1024), .lit (.int .i64 3968)]

/-- 'portholelaw10.SymmKnown': WHATEVER THE INPUT: true; the input reads as it did. -/
def symmKnownSpec : ChangeSpec := { name := "symmKnown", fn := fun _ => fun
  | [] => { results := [.lit (.bool true)], args := [] }
  | _ => none }
def symmKnownRow : OpenClaim := { program := "ytmfnldkiaodkpaadoor", sum := "33b494dc750cfd50ef41575b6991c6ce74fefdcab3b7553255e4eb6e84badae7", func := "porthole/portholelaw10.SymmKnown", spec := "symmKnown", unfollowed := true, recurses := true, named := ["porthole/portholeref4.iv", "porthole/portholeref4.rows", "porthole/portholeref4.sigma"], apart := false, laid := [("porthole/portholeref4.rows", laid_porthole_portholeref4_rows), ("porthole/portholeref4.iv", laid_porthole_portholeref4_iv), ("porthole/portholeref4.sigma", laid_porthole_portholeref4_sigma)] }
def SymmKnownSaid : Prop := symmKnownRow.holds Tryd.pinned (OpenSpec.ofChange symmKnownSpec)

/-- ITS FALSE NEIGHBOUR: 'it returns false'. Refute it at one input. -/
def symmKnownWrong : ChangeSpec := { name := "symmKnown", fn := fun _ => fun
  | [] => { results := [.lit (.bool false)], args := [] }
  | _ => none }
def SymmKnownWrongFalsely : Prop := symmKnownRow.holds Tryd.pinned (OpenSpec.ofChange symmKnownWrong)

/-- 'portholelaw6.AeadSeals': WHATEVER THE INPUT: true; the input reads as it did. -/
def aeadSealsSpec : ChangeSpec := { name := "aeadSeals", fn := fun _ => fun
  | [d1, d2, d3, d4, d5] => { results := [.lit (.bool true)], args := [d1, d2, d3, d4, d5] }
  | _ => none }
def aeadSealsRow : OpenClaim := { program := "ytmfnldkiaodkpaadoor", sum := "33b494dc750cfd50ef41575b6991c6ce74fefdcab3b7553255e4eb6e84badae7", func := "porthole/portholelaw6.AeadSeals", spec := "aeadSeals", unfollowed := true, recurses := true, named := ["porthole/portholeref4.rows"], apart := false, laid := [("porthole/portholeref4.rows", laid_porthole_portholeref4_rows)] }
def AeadSealsSaid : Prop := aeadSealsRow.holds Tryd.pinned (OpenSpec.ofChange aeadSealsSpec)

/-- ITS FALSE NEIGHBOUR: 'it returns false'. Refute it at one input. -/
def aeadSealsWrong : ChangeSpec := { name := "aeadSeals", fn := fun _ => fun
  | [d1, d2, d3, d4, d5] => { results := [.lit (.bool false)], args := [d1, d2, d3, d4, d5] }
  | _ => none }
def AeadSealsWrongFalsely : Prop := aeadSealsRow.holds Tryd.pinned (OpenSpec.ofChange aeadSealsWrong)

/-- 'portholelaw6.AeadOpens': WHATEVER THE INPUT: true; the input reads as it did. -/
def aeadOpensSpec : ChangeSpec := { name := "aeadOpens", fn := fun _ => fun
  | [d1, d2, d3, d4, d5, d6, d7, d8] => { results := [.lit (.bool true)], args := [d1, d2, d3, d4, d5, d6, d7, d8] }
  | _ => none }
def aeadOpensRow : OpenClaim := { program := "ytmfnldkiaodkpaadoor", sum := "33b494dc750cfd50ef41575b6991c6ce74fefdcab3b7553255e4eb6e84badae7", func := "porthole/portholelaw6.AeadOpens", spec := "aeadOpens", unfollowed := true, recurses := true, named := ["porthole/portholeref4.rows"], apart := false, laid := [("porthole/portholeref4.rows", laid_porthole_portholeref4_rows)] }
def AeadOpensSaid : Prop := aeadOpensRow.holds Tryd.pinned (OpenSpec.ofChange aeadOpensSpec)

/-- ITS FALSE NEIGHBOUR: 'it returns false'. Refute it at one input. -/
def aeadOpensWrong : ChangeSpec := { name := "aeadOpens", fn := fun _ => fun
  | [d1, d2, d3, d4, d5, d6, d7, d8] => { results := [.lit (.bool false)], args := [d1, d2, d3, d4, d5, d6, d7, d8] }
  | _ => none }
def AeadOpensWrongFalsely : Prop := aeadOpensRow.holds Tryd.pinned (OpenSpec.ofChange aeadOpensWrong)

/-- 'portholelaw9.CipherPlays': WHATEVER THE INPUT: true; the input reads as it did. -/
def cipherPlaysSpec : ChangeSpec := { name := "cipherPlays", fn := fun _ => fun
  | [d] => { results := [.lit (.bool true)], args := [d] }
  | _ => none }
def cipherPlaysRow : OpenClaim := { program := "ytmfnldkiaodkpaadoor", sum := "33b494dc750cfd50ef41575b6991c6ce74fefdcab3b7553255e4eb6e84badae7", func := "porthole/portholelaw9.CipherPlays", spec := "cipherPlays", unfollowed := true, recurses := true, named := ["porthole/portholeref4.rows"], apart := false, laid := [("porthole/portholeref4.rows", laid_porthole_portholeref4_rows)] }
def CipherPlaysSaid : Prop := cipherPlaysRow.holds Tryd.pinned (OpenSpec.ofChange cipherPlaysSpec)

/-- ITS FALSE NEIGHBOUR: 'it returns false'. Refute it at one input. -/
def cipherPlaysWrong : ChangeSpec := { name := "cipherPlays", fn := fun _ => fun
  | [d] => { results := [.lit (.bool false)], args := [d] }
  | _ => none }
def CipherPlaysWrongFalsely : Prop := cipherPlaysRow.holds Tryd.pinned (OpenSpec.ofChange cipherPlaysWrong)

/-- 'portholelaw16.RecordHalves': WHATEVER THE INPUT: true; the input reads as it did. -/
def recordHalvesSpec : ChangeSpec := { name := "recordHalves", fn := fun _ => fun
  | [d1, d2, d3, d4] => { results := [.lit (.bool true)], args := [d1, d2, d3, d4] }
  | _ => none }
def recordHalvesRow : OpenClaim := { program := "ytmfnldkiaodkpaadoor", sum := "33b494dc750cfd50ef41575b6991c6ce74fefdcab3b7553255e4eb6e84badae7", func := "porthole/portholelaw16.RecordHalves", spec := "recordHalves", unfollowed := true, recurses := true, named := ["porthole/portholeref15.sizes", "porthole/portholeref4.rows"], apart := false, laid := [("porthole/portholeref4.rows", laid_porthole_portholeref4_rows), ("porthole/portholeref15.sizes", laid_porthole_portholeref15_sizes)] }
def RecordHalvesSaid : Prop := recordHalvesRow.holds Tryd.pinned (OpenSpec.ofChange recordHalvesSpec)

/-- ITS FALSE NEIGHBOUR: 'it returns false'. Refute it at one input. -/
def recordHalvesWrong : ChangeSpec := { name := "recordHalves", fn := fun _ => fun
  | [d1, d2, d3, d4] => { results := [.lit (.bool false)], args := [d1, d2, d3, d4] }
  | _ => none }
def RecordHalvesWrongFalsely : Prop := recordHalvesRow.holds Tryd.pinned (OpenSpec.ofChange recordHalvesWrong)

/-- 'portholelaw16.RecordStream': WHATEVER THE INPUT: true; the input reads as it did. -/
def recordStreamSpec : ChangeSpec := { name := "recordStream", fn := fun _ => fun
  | [d1, d2, d3] => { results := [.lit (.bool true)], args := [d1, d2, d3] }
  | _ => none }
def recordStreamRow : OpenClaim := { program := "ytmfnldkiaodkpaadoor", sum := "33b494dc750cfd50ef41575b6991c6ce74fefdcab3b7553255e4eb6e84badae7", func := "porthole/portholelaw16.RecordStream", spec := "recordStream", unfollowed := true, recurses := true, named := ["porthole/portholeref15.sizes"], apart := false, laid := [("porthole/portholeref15.sizes", laid_porthole_portholeref15_sizes)] }
def RecordStreamSaid : Prop := recordStreamRow.holds Tryd.pinned (OpenSpec.ofChange recordStreamSpec)

/-- ITS FALSE NEIGHBOUR: 'it returns false'. Refute it at one input. -/
def recordStreamWrong : ChangeSpec := { name := "recordStream", fn := fun _ => fun
  | [d1, d2, d3] => { results := [.lit (.bool false)], args := [d1, d2, d3] }
  | _ => none }
def RecordStreamWrongFalsely : Prop := recordStreamRow.holds Tryd.pinned (OpenSpec.ofChange recordStreamWrong)

/-- 'portholelaw10.SymmPlays': WHATEVER THE INPUT: true; the input reads as it did. -/
def symmPlaysSpec : ChangeSpec := { name := "symmPlays", fn := fun _ => fun
  | [d1, d2] => { results := [.lit (.bool true)], args := [d1, d2] }
  | _ => none }
def symmPlaysRow : OpenClaim := { program := "ytmfnldkiaodkpaadoor", sum := "33b494dc750cfd50ef41575b6991c6ce74fefdcab3b7553255e4eb6e84badae7", func := "porthole/portholelaw10.SymmPlays", spec := "symmPlays", unfollowed := true, recurses := true, named := ["porthole/portholeref4.iv", "porthole/portholeref4.rows", "porthole/portholeref4.sigma"], apart := false, laid := [("porthole/portholeref4.rows", laid_porthole_portholeref4_rows), ("porthole/portholeref4.iv", laid_porthole_portholeref4_iv), ("porthole/portholeref4.sigma", laid_porthole_portholeref4_sigma)] }
def SymmPlaysSaid : Prop := symmPlaysRow.holds Tryd.pinned (OpenSpec.ofChange symmPlaysSpec)

/-- ITS FALSE NEIGHBOUR: 'it returns false'. Refute it at one input. -/
def symmPlaysWrong : ChangeSpec := { name := "symmPlays", fn := fun _ => fun
  | [d1, d2] => { results := [.lit (.bool false)], args := [d1, d2] }
  | _ => none }
def SymmPlaysWrongFalsely : Prop := symmPlaysRow.holds Tryd.pinned (OpenSpec.ofChange symmPlaysWrong)

/- THE SECOND FORM. 'bulk': how many values and letters a reading holds, each counted each time it is reached (what is shared counts as often as it is met; a slice's spare places count too). A statement '..UptoSaid' is the law's where the arguments, and the package variables that the reading takes, are together of bulk at most 1048576: NARROWER than '..Said'. Prove '..Said' where nothing that the law and all that it calls make is longer than what came in: it says more and counts as full. Else prove '..UptoSaid'. A law counts once. -/
mutual
def uptoBulk {H : Type} : DataW H → Nat
  | .lit (.string bytes) => bytes.length + 1
  | .lit _ => 1
  | .nil => 1
  | .ptr d => uptoBulk d + 1
  | .slice elems spare => uptoBulkAll elems + uptoBulkAll spare + 1
  | .agg parts => uptoBulkAll parts + 1
  | .iface _ d => uptoBulk d + 1
  | .map entries => uptoBulkEntries entries + 1
  | .held _ => 1
def uptoBulkAll {H : Type} : List (DataW H) → Nat
  | [] => 0
  | d :: r => uptoBulk d + uptoBulkAll r
def uptoBulkEntries {H : Type} : List (Lit × DataW H) → Nat
  | [] => 0
  | x :: r => uptoBulkEntry x + uptoBulkEntries r
def uptoBulkEntry {H : Type} : Lit × DataW H → Nat
  | (.string bytes, d) => bytes.length + uptoBulk d + 1
  | (_, d) => uptoBulk d + 1
 end
def uptoSmall : (H : Type) → List (DataW H) → Bool := fun _ ds => decide (uptoBulkAll ds ≤ 1048576)
def OpenSpec.upto (s : _root_.Go.ChangeSpec) : _root_.Go.OpenSpec := { _root_.Go.OpenSpec.ofChange s with cond := some uptoSmall }

/-- 'portholelaw10.SymmKnown', WHERE WHAT IT READS IS OF BULK AT MOST 1048576: true; the input reads as it did. -/
def symmKnownUptoRow : OpenClaim := { program := "ytmfnldkiaodkpaadoor", sum := "33b494dc750cfd50ef41575b6991c6ce74fefdcab3b7553255e4eb6e84badae7", func := "porthole/portholelaw10.SymmKnown", spec := "symmKnown", unfollowed := true, recurses := true, named := ["porthole/portholeref4.iv", "porthole/portholeref4.rows", "porthole/portholeref4.sigma"], apart := false, laid := [("porthole/portholeref4.rows", laid_porthole_portholeref4_rows), ("porthole/portholeref4.iv", laid_porthole_portholeref4_iv), ("porthole/portholeref4.sigma", laid_porthole_portholeref4_sigma)], narrowed := true }
def SymmKnownUptoSaid : Prop := symmKnownUptoRow.holds Tryd.pinned (OpenSpec.upto symmKnownSpec)

/-- 'portholelaw6.AeadSeals', WHERE WHAT IT READS IS OF BULK AT MOST 1048576: true; the input reads as it did. -/
def aeadSealsUptoRow : OpenClaim := { program := "ytmfnldkiaodkpaadoor", sum := "33b494dc750cfd50ef41575b6991c6ce74fefdcab3b7553255e4eb6e84badae7", func := "porthole/portholelaw6.AeadSeals", spec := "aeadSeals", unfollowed := true, recurses := true, named := ["porthole/portholeref4.rows"], apart := false, laid := [("porthole/portholeref4.rows", laid_porthole_portholeref4_rows)], narrowed := true }
def AeadSealsUptoSaid : Prop := aeadSealsUptoRow.holds Tryd.pinned (OpenSpec.upto aeadSealsSpec)

/-- 'portholelaw6.AeadOpens', WHERE WHAT IT READS IS OF BULK AT MOST 1048576: true; the input reads as it did. -/
def aeadOpensUptoRow : OpenClaim := { program := "ytmfnldkiaodkpaadoor", sum := "33b494dc750cfd50ef41575b6991c6ce74fefdcab3b7553255e4eb6e84badae7", func := "porthole/portholelaw6.AeadOpens", spec := "aeadOpens", unfollowed := true, recurses := true, named := ["porthole/portholeref4.rows"], apart := false, laid := [("porthole/portholeref4.rows", laid_porthole_portholeref4_rows)], narrowed := true }
def AeadOpensUptoSaid : Prop := aeadOpensUptoRow.holds Tryd.pinned (OpenSpec.upto aeadOpensSpec)

/-- 'portholelaw9.CipherPlays', WHERE WHAT IT READS IS OF BULK AT MOST 1048576: true; the input reads as it did. -/
def cipherPlaysUptoRow : OpenClaim := { program := "ytmfnldkiaodkpaadoor", sum := "33b494dc750cfd50ef41575b6991c6ce74fefdcab3b7553255e4eb6e84badae7", func := "porthole/portholelaw9.CipherPlays", spec := "cipherPlays", unfollowed := true, recurses := true, named := ["porthole/portholeref4.rows"], apart := false, laid := [("porthole/portholeref4.rows", laid_porthole_portholeref4_rows)], narrowed := true }
def CipherPlaysUptoSaid : Prop := cipherPlaysUptoRow.holds Tryd.pinned (OpenSpec.upto cipherPlaysSpec)

/-- 'portholelaw16.RecordHalves', WHERE WHAT IT READS IS OF BULK AT MOST 1048576: true; the input reads as it did. -/
def recordHalvesUptoRow : OpenClaim := { program := "ytmfnldkiaodkpaadoor", sum := "33b494dc750cfd50ef41575b6991c6ce74fefdcab3b7553255e4eb6e84badae7", func := "porthole/portholelaw16.RecordHalves", spec := "recordHalves", unfollowed := true, recurses := true, named := ["porthole/portholeref15.sizes", "porthole/portholeref4.rows"], apart := false, laid := [("porthole/portholeref4.rows", laid_porthole_portholeref4_rows), ("porthole/portholeref15.sizes", laid_porthole_portholeref15_sizes)], narrowed := true }
def RecordHalvesUptoSaid : Prop := recordHalvesUptoRow.holds Tryd.pinned (OpenSpec.upto recordHalvesSpec)

/-- 'portholelaw16.RecordStream', WHERE WHAT IT READS IS OF BULK AT MOST 1048576: true; the input reads as it did. -/
def recordStreamUptoRow : OpenClaim := { program := "ytmfnldkiaodkpaadoor", sum := "33b494dc750cfd50ef41575b6991c6ce74fefdcab3b7553255e4eb6e84badae7", func := "porthole/portholelaw16.RecordStream", spec := "recordStream", unfollowed := true, recurses := true, named := ["porthole/portholeref15.sizes"], apart := false, laid := [("porthole/portholeref15.sizes", laid_porthole_portholeref15_sizes)], narrowed := true }
def RecordStreamUptoSaid : Prop := recordStreamUptoRow.holds Tryd.pinned (OpenSpec.upto recordStreamSpec)

/-- 'portholelaw10.SymmPlays', WHERE WHAT IT READS IS OF BULK AT MOST 1048576: true; the input reads as it did. -/
def symmPlaysUptoRow : OpenClaim := { program := "ytmfnldkiaodkpaadoor", sum := "33b494dc750cfd50ef41575b6991c6ce74fefdcab3b7553255e4eb6e84badae7", func := "porthole/portholelaw10.SymmPlays", spec := "symmPlays", unfollowed := true, recurses := true, named := ["porthole/portholeref4.iv", "porthole/portholeref4.rows", "porthole/portholeref4.sigma"], apart := false, laid := [("porthole/portholeref4.rows", laid_porthole_portholeref4_rows), ("porthole/portholeref4.iv", laid_porthole_portholeref4_iv), ("porthole/portholeref4.sigma", laid_porthole_portholeref4_sigma)], narrowed := true }
def SymmPlaysUptoSaid : Prop := symmPlaysUptoRow.holds Tryd.pinned (OpenSpec.upto symmPlaysSpec)

end Rows
end Go.Proofs.YtmfnldkiaodkpaaDoor
