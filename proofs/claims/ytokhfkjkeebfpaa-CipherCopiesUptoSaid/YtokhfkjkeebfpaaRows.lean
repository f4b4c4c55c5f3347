/-
  No cell of these rows narrows 'for every input' (looked for: loops, veiled, ifaces, maps, wideKeys, modest, calm, conditions, laid).
  DERIVED. THE GIVEN ROWS OF THIS SEAT. 15 by the template 'for every input the law returns true; each argument reads behind the call as it read before'; 0 by the template 'total and deterministic' (their statements: YtokhfkjkeebfpaaTotals.lean).
  GIVEN WITH THE SEED: the statements are not yours to turn. If you find one false, say at which input.
  Laid BY PROGRAM, IN A SANDBOX (cutbox-rows.mjs): the forced cells as the released guide's own fill.sh prints them over the translation 1ebd1c364299862b… (all of the seat's roots in one cut). By AI agents, Wed Nov 11 2026. No macro, syntax, notation, axiom, sorry.
-/
import Derived.Test.YtokhfkjkeebfpaaChecked
import GoSem.Claim
import GoSem.ClaimJoined
import GoSem.ClaimMapViews
import Derived.JoinedTies
import Derived.KernelRfl
namespace Go.Proofs.Ytokhfkjkeebfpaa
/- THE CELL 'sum', in the pinned program and in every row, IS THE sha256 OF THE DUMP (.gsa) THAT YtokhfkjkeebfpaaProg.lean LOADS. Nothing in Lean hashes anything: it is a label: what it is worth is what the hold of that sum in a sandbox is worth. -/
noncomputable def Try.pinned : Pinned := { name := "ytokhfkjkeebfpaa", sum := "1ebd1c364299862b5fd3237414d92904c36610403d2a98c6be76fcfdc50e89d7", checked := Try.checked }
namespace Rows
def none {H : Type} : Left H := { results := [], args := [] }

/-- 'portholelaw5.PolyKnown': WHATEVER THE INPUT: true; the input reads as it did. -/
def polyKnownSpec : ChangeSpec := { name := "polyKnown", fn := fun _ => fun
  | [] => { results := [.lit (.bool true)], args := [] }
  | _ => none }
def polyKnownRow : OpenClaim := { program := "ytokhfkjkeebfpaa", sum := "1ebd1c364299862b5fd3237414d92904c36610403d2a98c6be76fcfdc50e89d7", func := "porthole/portholelaw5.PolyKnown", spec := "polyKnown", apart := false }
def PolyKnownSaid : Prop := polyKnownRow.holds Try.pinned (OpenSpec.ofChange polyKnownSpec)

/-- ITS FALSE NEIGHBOUR: 'it returns false'. Refute it at one input. -/
def polyKnownWrong : ChangeSpec := { name := "polyKnown", fn := fun _ => fun
  | [] => { results := [.lit (.bool false)], args := [] }
  | _ => none }
def PolyKnownWrongFalsely : Prop := polyKnownRow.holds Try.pinned (OpenSpec.ofChange polyKnownWrong)

/-- 'portholelaw5.PolyTags': WHATEVER THE INPUT: true; the input reads as it did. -/
def polyTagsSpec : ChangeSpec := { name := "polyTags", fn := fun _ => fun
  | [d1, d2, d3, d4] => { results := [.lit (.bool true)], args := [d1, d2, d3, d4] }
  | _ => none }
def polyTagsRow : OpenClaim := { program := "ytokhfkjkeebfpaa", sum := "1ebd1c364299862b5fd3237414d92904c36610403d2a98c6be76fcfdc50e89d7", func := "porthole/portholelaw5.PolyTags", spec := "polyTags", apart := false }
def PolyTagsSaid : Prop := polyTagsRow.holds Try.pinned (OpenSpec.ofChange polyTagsSpec)

/-- ITS FALSE NEIGHBOUR: 'it returns false'. Refute it at one input. -/
def polyTagsWrong : ChangeSpec := { name := "polyTags", fn := fun _ => fun
  | [d1, d2, d3, d4] => { results := [.lit (.bool false)], args := [d1, d2, d3, d4] }
  | _ => none }
def PolyTagsWrongFalsely : Prop := polyTagsRow.holds Try.pinned (OpenSpec.ofChange polyTagsWrong)

/-- 'portholelaw5.PolyShifts': WHATEVER THE INPUT: true; the input reads as it did. -/
def polyShiftsSpec : ChangeSpec := { name := "polyShifts", fn := fun _ => fun
  | [d1, d2, d3] => { results := [.lit (.bool true)], args := [d1, d2, d3] }
  | _ => none }
def polyShiftsRow : OpenClaim := { program := "ytokhfkjkeebfpaa", sum := "1ebd1c364299862b5fd3237414d92904c36610403d2a98c6be76fcfdc50e89d7", func := "porthole/portholelaw5.PolyShifts", spec := "polyShifts", apart := false }
def PolyShiftsSaid : Prop := polyShiftsRow.holds Try.pinned (OpenSpec.ofChange polyShiftsSpec)

/-- ITS FALSE NEIGHBOUR: 'it returns false'. Refute it at one input. -/
def polyShiftsWrong : ChangeSpec := { name := "polyShifts", fn := fun _ => fun
  | [d1, d2, d3] => { results := [.lit (.bool false)], args := [d1, d2, d3] }
  | _ => none }
def PolyShiftsWrongFalsely : Prop := polyShiftsRow.holds Try.pinned (OpenSpec.ofChange polyShiftsWrong)

/-- 'portholelaw5.PolyZero': WHATEVER THE INPUT: true; the input reads as it did. -/
def polyZeroSpec : ChangeSpec := { name := "polyZero", fn := fun _ => fun
  | [d1, d2] => { results := [.lit (.bool true)], args := [d1, d2] }
  | _ => none }
def polyZeroRow : OpenClaim := { program := "ytokhfkjkeebfpaa", sum := "1ebd1c364299862b5fd3237414d92904c36610403d2a98c6be76fcfdc50e89d7", func := "porthole/portholelaw5.PolyZero", spec := "polyZero", apart := false }
def PolyZeroSaid : Prop := polyZeroRow.holds Try.pinned (OpenSpec.ofChange polyZeroSpec)

/-- ITS FALSE NEIGHBOUR: 'it returns false'. Refute it at one input. -/
def polyZeroWrong : ChangeSpec := { name := "polyZero", fn := fun _ => fun
  | [d1, d2] => { results := [.lit (.bool false)], args := [d1, d2] }
  | _ => none }
def PolyZeroWrongFalsely : Prop := polyZeroRow.holds Try.pinned (OpenSpec.ofChange polyZeroWrong)

/-- 'portholelaw5.PolyParts': WHATEVER THE INPUT: true; the input reads as it did. -/
def polyPartsSpec : ChangeSpec := { name := "polyParts", fn := fun _ => fun
  | [d1, d2] => { results := [.lit (.bool true)], args := [d1, d2] }
  | _ => none }
def polyPartsRow : OpenClaim := { program := "ytokhfkjkeebfpaa", sum := "1ebd1c364299862b5fd3237414d92904c36610403d2a98c6be76fcfdc50e89d7", func := "porthole/portholelaw5.PolyParts", spec := "polyParts", apart := false }
def PolyPartsSaid : Prop := polyPartsRow.holds Try.pinned (OpenSpec.ofChange polyPartsSpec)

/-- ITS FALSE NEIGHBOUR: 'it returns false'. Refute it at one input. -/
def polyPartsWrong : ChangeSpec := { name := "polyParts", fn := fun _ => fun
  | [d1, d2] => { results := [.lit (.bool false)], args := [d1, d2] }
  | _ => none }
def PolyPartsWrongFalsely : Prop := polyPartsRow.holds Try.pinned (OpenSpec.ofChange polyPartsWrong)

/-- 'portholelaw9.CipherNonces': WHATEVER THE INPUT: true; the input reads as it did. -/
def cipherNoncesSpec : ChangeSpec := { name := "cipherNonces", fn := fun _ => fun
  | [d1, d2, d3] => { results := [.lit (.bool true)], args := [d1, d2, d3] }
  | _ => none }
def cipherNoncesRow : OpenClaim := { program := "ytokhfkjkeebfpaa", sum := "1ebd1c364299862b5fd3237414d92904c36610403d2a98c6be76fcfdc50e89d7", func := "porthole/portholelaw9.CipherNonces", spec := "cipherNonces", unfollowed := true, recurses := true, apart := false }
def CipherNoncesSaid : Prop := cipherNoncesRow.holds Try.pinned (OpenSpec.ofChange cipherNoncesSpec)

/-- ITS FALSE NEIGHBOUR: 'it returns false'. Refute it at one input. -/
def cipherNoncesWrong : ChangeSpec := { name := "cipherNonces", fn := fun _ => fun
  | [d1, d2, d3] => { results := [.lit (.bool false)], args := [d1, d2, d3] }
  | _ => none }
def CipherNoncesWrongFalsely : Prop := cipherNoncesRow.holds Try.pinned (OpenSpec.ofChange cipherNoncesWrong)

/-- 'portholelaw6.AeadKnown': WHATEVER THE INPUT: true; the input reads as it did. -/
def aeadKnownSpec : ChangeSpec := { name := "aeadKnown", fn := fun _ => fun
  | [] => { results := [.lit (.bool true)], args := [] }
  | _ => none }
def aeadKnownRow : OpenClaim := { program := "ytokhfkjkeebfpaa", sum := "1ebd1c364299862b5fd3237414d92904c36610403d2a98c6be76fcfdc50e89d7", func := "porthole/portholelaw6.AeadKnown", spec := "aeadKnown", unfollowed := true, recurses := true, apart := false }
def AeadKnownSaid : Prop := aeadKnownRow.holds Try.pinned (OpenSpec.ofChange aeadKnownSpec)

/-- ITS FALSE NEIGHBOUR: 'it returns false'. Refute it at one input. -/
def aeadKnownWrong : ChangeSpec := { name := "aeadKnown", fn := fun _ => fun
  | [] => { results := [.lit (.bool false)], args := [] }
  | _ => none }
def AeadKnownWrongFalsely : Prop := aeadKnownRow.holds Try.pinned (OpenSpec.ofChange aeadKnownWrong)

/-- 'portholelaw6.AeadBack': WHATEVER THE INPUT: true; the input reads as it did. -/
def aeadBackSpec : ChangeSpec := { name := "aeadBack", fn := fun _ => fun
  | [d1, d2, d3, d4, d5] => { results := [.lit (.bool true)], args := [d1, d2, d3, d4, d5] }
  | _ => none }
def aeadBackRow : OpenClaim := { program := "ytokhfkjkeebfpaa", sum := "1ebd1c364299862b5fd3237414d92904c36610403d2a98c6be76fcfdc50e89d7", func := "porthole/portholelaw6.AeadBack", spec := "aeadBack", unfollowed := true, recurses := true, apart := false }
def AeadBackSaid : Prop := aeadBackRow.holds Try.pinned (OpenSpec.ofChange aeadBackSpec)

/-- ITS FALSE NEIGHBOUR: 'it returns false'. Refute it at one input. -/
def aeadBackWrong : ChangeSpec := { name := "aeadBack", fn := fun _ => fun
  | [d1, d2, d3, d4, d5] => { results := [.lit (.bool false)], args := [d1, d2, d3, d4, d5] }
  | _ => none }
def AeadBackWrongFalsely : Prop := aeadBackRow.holds Try.pinned (OpenSpec.ofChange aeadBackWrong)

/-- 'portholelaw6.AeadTags': WHATEVER THE INPUT: true; the input reads as it did. -/
def aeadTagsSpec : ChangeSpec := { name := "aeadTags", fn := fun _ => fun
  | [d1, d2, d3, d4, d5, d6] => { results := [.lit (.bool true)], args := [d1, d2, d3, d4, d5, d6] }
  | _ => none }
def aeadTagsRow : OpenClaim := { program := "ytokhfkjkeebfpaa", sum := "1ebd1c364299862b5fd3237414d92904c36610403d2a98c6be76fcfdc50e89d7", func := "porthole/portholelaw6.AeadTags", spec := "aeadTags", unfollowed := true, recurses := true, apart := false }
def AeadTagsSaid : Prop := aeadTagsRow.holds Try.pinned (OpenSpec.ofChange aeadTagsSpec)

/-- ITS FALSE NEIGHBOUR: 'it returns false'. Refute it at one input. -/
def aeadTagsWrong : ChangeSpec := { name := "aeadTags", fn := fun _ => fun
  | [d1, d2, d3, d4, d5, d6] => { results := [.lit (.bool false)], args := [d1, d2, d3, d4, d5, d6] }
  | _ => none }
def AeadTagsWrongFalsely : Prop := aeadTagsRow.holds Try.pinned (OpenSpec.ofChange aeadTagsWrong)

/-- 'portholelaw6.AeadMade': WHATEVER THE INPUT: true; the input reads as it did. -/
def aeadMadeSpec : ChangeSpec := { name := "aeadMade", fn := fun _ => fun
  | [d1, d2, d3, d4] => { results := [.lit (.bool true)], args := [d1, d2, d3, d4] }
  | _ => none }
def aeadMadeRow : OpenClaim := { program := "ytokhfkjkeebfpaa", sum := "1ebd1c364299862b5fd3237414d92904c36610403d2a98c6be76fcfdc50e89d7", func := "porthole/portholelaw6.AeadMade", spec := "aeadMade", unfollowed := true, recurses := true, apart := false }
def AeadMadeSaid : Prop := aeadMadeRow.holds Try.pinned (OpenSpec.ofChange aeadMadeSpec)

/-- ITS FALSE NEIGHBOUR: 'it returns false'. Refute it at one input. -/
def aeadMadeWrong : ChangeSpec := { name := "aeadMade", fn := fun _ => fun
  | [d1, d2, d3, d4] => { results := [.lit (.bool false)], args := [d1, d2, d3, d4] }
  | _ => none }
def AeadMadeWrongFalsely : Prop := aeadMadeRow.holds Try.pinned (OpenSpec.ofChange aeadMadeWrong)

/-- 'portholelaw6.AeadLong': WHATEVER THE INPUT: true; the input reads as it did. -/
def aeadLongSpec : ChangeSpec := { name := "aeadLong", fn := fun _ => fun
  | [d1, d2, d3, d4] => { results := [.lit (.bool true)], args := [d1, d2, d3, d4] }
  | _ => none }
def aeadLongRow : OpenClaim := { program := "ytokhfkjkeebfpaa", sum := "1ebd1c364299862b5fd3237414d92904c36610403d2a98c6be76fcfdc50e89d7", func := "porthole/portholelaw6.AeadLong", spec := "aeadLong", unfollowed := true, recurses := true, apart := false }
def AeadLongSaid : Prop := aeadLongRow.holds Try.pinned (OpenSpec.ofChange aeadLongSpec)

/-- ITS FALSE NEIGHBOUR: 'it returns false'. Refute it at one input. -/
def aeadLongWrong : ChangeSpec := { name := "aeadLong", fn := fun _ => fun
  | [d1, d2, d3, d4] => { results := [.lit (.bool false)], args := [d1, d2, d3, d4] }
  | _ => none }
def AeadLongWrongFalsely : Prop := aeadLongRow.holds Try.pinned (OpenSpec.ofChange aeadLongWrong)

/-- 'portholelaw9.CipherCopies': WHATEVER THE INPUT: true; the input reads as it did. -/
def cipherCopiesSpec : ChangeSpec := { name := "cipherCopies", fn := fun _ => fun
  | [d1, d2, d3] => { results := [.lit (.bool true)], args := [d1, d2, d3] }
  | _ => none }
def cipherCopiesRow : OpenClaim := { program := "ytokhfkjkeebfpaa", sum := "1ebd1c364299862b5fd3237414d92904c36610403d2a98c6be76fcfdc50e89d7", func := "porthole/portholelaw9.CipherCopies", spec := "cipherCopies", unfollowed := true, recurses := true, apart := false }
def CipherCopiesSaid : Prop := cipherCopiesRow.holds Try.pinned (OpenSpec.ofChange cipherCopiesSpec)

/-- ITS FALSE NEIGHBOUR: 'it returns false'. Refute it at one input. -/
def cipherCopiesWrong : ChangeSpec := { name := "cipherCopies", fn := fun _ => fun
  | [d1, d2, d3] => { results := [.lit (.bool false)], args := [d1, d2, d3] }
  | _ => none }
def CipherCopiesWrongFalsely : Prop := cipherCopiesRow.holds Try.pinned (OpenSpec.ofChange cipherCopiesWrong)

/-- 'portholelaw9.CipherFails': WHATEVER THE INPUT: true; the input reads as it did. -/
def cipherFailsSpec : ChangeSpec := { name := "cipherFails", fn := fun _ => fun
  | [d1, d2, d3] => { results := [.lit (.bool true)], args := [d1, d2, d3] }
  | _ => none }
def cipherFailsRow : OpenClaim := { program := "ytokhfkjkeebfpaa", sum := "1ebd1c364299862b5fd3237414d92904c36610403d2a98c6be76fcfdc50e89d7", func := "porthole/portholelaw9.CipherFails", spec := "cipherFails", unfollowed := true, recurses := true, apart := false }
def CipherFailsSaid : Prop := cipherFailsRow.holds Try.pinned (OpenSpec.ofChange cipherFailsSpec)

/-- ITS FALSE NEIGHBOUR: 'it returns false'. Refute it at one input. -/
def cipherFailsWrong : ChangeSpec := { name := "cipherFails", fn := fun _ => fun
  | [d1, d2, d3] => { results := [.lit (.bool false)], args := [d1, d2, d3] }
  | _ => none }
def CipherFailsWrongFalsely : Prop := cipherFailsRow.holds Try.pinned (OpenSpec.ofChange cipherFailsWrong)

/-- 'portholelaw9.CipherKnown': WHATEVER THE INPUT: true; the input reads as it did. -/
def cipherKnownSpec : ChangeSpec := { name := "cipherKnown", fn := fun _ => fun
  | [] => { results := [.lit (.bool true)], args := [] }
  | _ => none }
def cipherKnownRow : OpenClaim := { program := "ytokhfkjkeebfpaa", sum := "1ebd1c364299862b5fd3237414d92904c36610403d2a98c6be76fcfdc50e89d7", func := "porthole/portholelaw9.CipherKnown", spec := "cipherKnown", unfollowed := true, recurses := true, apart := false }
def CipherKnownSaid : Prop := cipherKnownRow.holds Try.pinned (OpenSpec.ofChange cipherKnownSpec)

/-- ITS FALSE NEIGHBOUR: 'it returns false'. Refute it at one input. -/
def cipherKnownWrong : ChangeSpec := { name := "cipherKnown", fn := fun _ => fun
  | [] => { results := [.lit (.bool false)], args := [] }
  | _ => none }
def CipherKnownWrongFalsely : Prop := cipherKnownRow.holds Try.pinned (OpenSpec.ofChange cipherKnownWrong)

/-- 'portholelaw9.CipherBack': WHATEVER THE INPUT: true; the input reads as it did. -/
def cipherBackSpec : ChangeSpec := { name := "cipherBack", fn := fun _ => fun
  | [d1, d2, d3] => { results := [.lit (.bool true)], args := [d1, d2, d3] }
  | _ => none }
def cipherBackRow : OpenClaim := { program := "ytokhfkjkeebfpaa", sum := "1ebd1c364299862b5fd3237414d92904c36610403d2a98c6be76fcfdc50e89d7", func := "porthole/portholelaw9.CipherBack", spec := "cipherBack", unfollowed := true, recurses := true, apart := false }
def CipherBackSaid : Prop := cipherBackRow.holds Try.pinned (OpenSpec.ofChange cipherBackSpec)

/-- ITS FALSE NEIGHBOUR: 'it returns false'. Refute it at one input. -/
def cipherBackWrong : ChangeSpec := { name := "cipherBack", fn := fun _ => fun
  | [d1, d2, d3] => { results := [.lit (.bool false)], args := [d1, d2, d3] }
  | _ => none }
def CipherBackWrongFalsely : Prop := cipherBackRow.holds Try.pinned (OpenSpec.ofChange cipherBackWrong)

/- THE SECOND FORM. 'bulk': how many values and letters a reading holds, each counted each time it is reached (what is shared counts as often as it is met; a slice's spare places count too). A statement '..UptoSaid' is the law's where the arguments, and the package variables that the reading takes, are together of bulk at most 1048576: NARROWER than '..Said'. Prove '..Said' where nothing that the law and all that it calls make is longer than what came in: it says more and counts as full. Else prove '..UptoSaid'. A law counts once. -/
mutual
def uptoBulk {H : Type} : DataW H → Nat
  | .lit (.string bytes) => bytes.length + 1
  | .lit _ => 1
  | .nil => 1
  | .ptr d => uptoBulk d + 1
  | .slice elems spare => uptoBulkAll elems + uptoBulkAll spare + 1
  | .agg parts => uptoBulkAll parts + 1
  | .iface _ d => uptoBulk d + 1
  | .map entries => uptoBulkEntries entries + 1
  | .held _ => 1
def uptoBulkAll {H : Type} : List (DataW H) → Nat
  | [] => 0
  | d :: r => uptoBulk d + uptoBulkAll r
def uptoBulkEntries {H : Type} : List (Lit × DataW H) → Nat
  | [] => 0
  | x :: r => uptoBulkEntry x + uptoBulkEntries r
def uptoBulkEntry {H : Type} : Lit × DataW H → Nat
  | (.string bytes, d) => bytes.length + uptoBulk d + 1
  | (_, d) => uptoBulk d + 1
 end
def uptoSmall : (H : Type) → List (DataW H) → Bool := fun _ ds => decide (uptoBulkAll ds ≤ 1048576)
def OpenSpec.upto (s : _root_.Go.ChangeSpec) : _root_.Go.OpenSpec := { _root_.Go.OpenSpec.ofChange s with cond := some uptoSmall }

/-- 'portholelaw5.PolyKnown', WHERE WHAT IT READS IS OF BULK AT MOST 1048576: true; the input reads as it did. -/
def polyKnownUptoRow : OpenClaim := { program := "ytokhfkjkeebfpaa", sum := "1ebd1c364299862b5fd3237414d92904c36610403d2a98c6be76fcfdc50e89d7", func := "porthole/portholelaw5.PolyKnown", spec := "polyKnown", apart := false, narrowed := true }
def PolyKnownUptoSaid : Prop := polyKnownUptoRow.holds Try.pinned (OpenSpec.upto polyKnownSpec)

/-- 'portholelaw5.PolyTags', WHERE WHAT IT READS IS OF BULK AT MOST 1048576: true; the input reads as it did. -/
def polyTagsUptoRow : OpenClaim := { program := "ytokhfkjkeebfpaa", sum := "1ebd1c364299862b5fd3237414d92904c36610403d2a98c6be76fcfdc50e89d7", func := "porthole/portholelaw5.PolyTags", spec := "polyTags", apart := false, narrowed := true }
def PolyTagsUptoSaid : Prop := polyTagsUptoRow.holds Try.pinned (OpenSpec.upto polyTagsSpec)

/-- 'portholelaw5.PolyShifts', WHERE WHAT IT READS IS OF BULK AT MOST 1048576: true; the input reads as it did. -/
def polyShiftsUptoRow : OpenClaim := { program := "ytokhfkjkeebfpaa", sum := "1ebd1c364299862b5fd3237414d92904c36610403d2a98c6be76fcfdc50e89d7", func := "porthole/portholelaw5.PolyShifts", spec := "polyShifts", apart := false, narrowed := true }
def PolyShiftsUptoSaid : Prop := polyShiftsUptoRow.holds Try.pinned (OpenSpec.upto polyShiftsSpec)

/-- 'portholelaw5.PolyZero', WHERE WHAT IT READS IS OF BULK AT MOST 1048576: true; the input reads as it did. -/
def polyZeroUptoRow : OpenClaim := { program := "ytokhfkjkeebfpaa", sum := "1ebd1c364299862b5fd3237414d92904c36610403d2a98c6be76fcfdc50e89d7", func := "porthole/portholelaw5.PolyZero", spec := "polyZero", apart := false, narrowed := true }
def PolyZeroUptoSaid : Prop := polyZeroUptoRow.holds Try.pinned (OpenSpec.upto polyZeroSpec)

/-- 'portholelaw5.PolyParts', WHERE WHAT IT READS IS OF BULK AT MOST 1048576: true; the input reads as it did. -/
def polyPartsUptoRow : OpenClaim := { program := "ytokhfkjkeebfpaa", sum := "1ebd1c364299862b5fd3237414d92904c36610403d2a98c6be76fcfdc50e89d7", func := "porthole/portholelaw5.PolyParts", spec := "polyParts", apart := false, narrowed := true }
def PolyPartsUptoSaid : Prop := polyPartsUptoRow.holds Try.pinned (OpenSpec.upto polyPartsSpec)

/-- 'portholelaw9.CipherNonces', WHERE WHAT IT READS IS OF BULK AT MOST 1048576: true; the input reads as it did. -/
def cipherNoncesUptoRow : OpenClaim := { program := "ytokhfkjkeebfpaa", sum := "1ebd1c364299862b5fd3237414d92904c36610403d2a98c6be76fcfdc50e89d7", func := "porthole/portholelaw9.CipherNonces", spec := "cipherNonces", unfollowed := true, recurses := true, apart := false, narrowed := true }
def CipherNoncesUptoSaid : Prop := cipherNoncesUptoRow.holds Try.pinned (OpenSpec.upto cipherNoncesSpec)

/-- 'portholelaw6.AeadKnown', WHERE WHAT IT READS IS OF BULK AT MOST 1048576: true; the input reads as it did. -/
def aeadKnownUptoRow : OpenClaim := { program := "ytokhfkjkeebfpaa", sum := "1ebd1c364299862b5fd3237414d92904c36610403d2a98c6be76fcfdc50e89d7", func := "porthole/portholelaw6.AeadKnown", spec := "aeadKnown", unfollowed := true, recurses := true, apart := false, narrowed := true }
def AeadKnownUptoSaid : Prop := aeadKnownUptoRow.holds Try.pinned (OpenSpec.upto aeadKnownSpec)

/-- 'portholelaw6.AeadBack', WHERE WHAT IT READS IS OF BULK AT MOST 1048576: true; the input reads as it did. -/
def aeadBackUptoRow : OpenClaim := { program := "ytokhfkjkeebfpaa", sum := "1ebd1c364299862b5fd3237414d92904c36610403d2a98c6be76fcfdc50e89d7", func := "porthole/portholelaw6.AeadBack", spec := "aeadBack", unfollowed := true, recurses := true, apart := false, narrowed := true }
def AeadBackUptoSaid : Prop := aeadBackUptoRow.holds Try.pinned (OpenSpec.upto aeadBackSpec)

/-- 'portholelaw6.AeadTags', WHERE WHAT IT READS IS OF BULK AT MOST 1048576: true; the input reads as it did. -/
def aeadTagsUptoRow : OpenClaim := { program := "ytokhfkjkeebfpaa", sum := "1ebd1c364299862b5fd3237414d92904c36610403d2a98c6be76fcfdc50e89d7", func := "porthole/portholelaw6.AeadTags", spec := "aeadTags", unfollowed := true, recurses := true, apart := false, narrowed := true }
def AeadTagsUptoSaid : Prop := aeadTagsUptoRow.holds Try.pinned (OpenSpec.upto aeadTagsSpec)

/-- 'portholelaw6.AeadMade', WHERE WHAT IT READS IS OF BULK AT MOST 1048576: true; the input reads as it did. -/
def aeadMadeUptoRow : OpenClaim := { program := "ytokhfkjkeebfpaa", sum := "1ebd1c364299862b5fd3237414d92904c36610403d2a98c6be76fcfdc50e89d7", func := "porthole/portholelaw6.AeadMade", spec := "aeadMade", unfollowed := true, recurses := true, apart := false, narrowed := true }
def AeadMadeUptoSaid : Prop := aeadMadeUptoRow.holds Try.pinned (OpenSpec.upto aeadMadeSpec)

/-- 'portholelaw6.AeadLong', WHERE WHAT IT READS IS OF BULK AT MOST 1048576: true; the input reads as it did. -/
def aeadLongUptoRow : OpenClaim := { program := "ytokhfkjkeebfpaa", sum := "1ebd1c364299862b5fd3237414d92904c36610403d2a98c6be76fcfdc50e89d7", func := "porthole/portholelaw6.AeadLong", spec := "aeadLong", unfollowed := true, recurses := true, apart := false, narrowed := true }
def AeadLongUptoSaid : Prop := aeadLongUptoRow.holds Try.pinned (OpenSpec.upto aeadLongSpec)

/-- 'portholelaw9.CipherCopies', WHERE WHAT IT READS IS OF BULK AT MOST 1048576: true; the input reads as it did. -/
def cipherCopiesUptoRow : OpenClaim := { program := "ytokhfkjkeebfpaa", sum := "1ebd1c364299862b5fd3237414d92904c36610403d2a98c6be76fcfdc50e89d7", func := "porthole/portholelaw9.CipherCopies", spec := "cipherCopies", unfollowed := true, recurses := true, apart := false, narrowed := true }
def CipherCopiesUptoSaid : Prop := cipherCopiesUptoRow.holds Try.pinned (OpenSpec.upto cipherCopiesSpec)

/-- 'portholelaw9.CipherFails', WHERE WHAT IT READS IS OF BULK AT MOST 1048576: true; the input reads as it did. -/
def cipherFailsUptoRow : OpenClaim := { program := "ytokhfkjkeebfpaa", sum := "1ebd1c364299862b5fd3237414d92904c36610403d2a98c6be76fcfdc50e89d7", func := "porthole/portholelaw9.CipherFails", spec := "cipherFails", unfollowed := true, recurses := true, apart := false, narrowed := true }
def CipherFailsUptoSaid : Prop := cipherFailsUptoRow.holds Try.pinned (OpenSpec.upto cipherFailsSpec)

/-- 'portholelaw9.CipherKnown', WHERE WHAT IT READS IS OF BULK AT MOST 1048576: true; the input reads as it did. -/
def cipherKnownUptoRow : OpenClaim := { program := "ytokhfkjkeebfpaa", sum := "1ebd1c364299862b5fd3237414d92904c36610403d2a98c6be76fcfdc50e89d7", func := "porthole/portholelaw9.CipherKnown", spec := "cipherKnown", unfollowed := true, recurses := true, apart := false, narrowed := true }
def CipherKnownUptoSaid : Prop := cipherKnownUptoRow.holds Try.pinned (OpenSpec.upto cipherKnownSpec)

/-- 'portholelaw9.CipherBack', WHERE WHAT IT READS IS OF BULK AT MOST 1048576: true; the input reads as it did. -/
def cipherBackUptoRow : OpenClaim := { program := "ytokhfkjkeebfpaa", sum := "1ebd1c364299862b5fd3237414d92904c36610403d2a98c6be76fcfdc50e89d7", func := "porthole/portholelaw9.CipherBack", spec := "cipherBack", unfollowed := true, recurses := true, apart := false, narrowed := true }
def CipherBackUptoSaid : Prop := cipherBackUptoRow.holds Try.pinned (OpenSpec.upto cipherBackSpec)

end Rows
end Go.Proofs.Ytokhfkjkeebfpaa
