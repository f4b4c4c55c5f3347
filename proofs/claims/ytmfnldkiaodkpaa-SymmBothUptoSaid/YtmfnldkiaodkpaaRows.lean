/-
  No cell of these rows narrows 'for every input' (looked for: loops, veiled, ifaces, maps, wideKeys, modest, calm, conditions, laid).
  DERIVED. THE GIVEN ROWS OF THIS SEAT. 11 by the template 'for every input the law returns true; each argument reads behind the call as it read before'; 0 by the template 'total and deterministic' (their statements: YtmfnldkiaodkpaaTotals.lean).
  GIVEN WITH THE SEED: the statements are not yours to turn. If you find one false, say at which input.
  Laid BY PROGRAM, IN A SANDBOX (cutbox-rows.mjs): the forced cells as the released guide's own fill.sh prints them over the translation 14bf3d80d35a4a86… (all of the seat's roots in one cut). By AI agents, Wed Nov 11 2026. No macro, syntax, notation, axiom, sorry.
-/
import Derived.Test.YtmfnldkiaodkpaaChecked
import GoSem.Claim
import GoSem.ClaimJoined
import GoSem.ClaimMapViews
import Derived.JoinedTies
import Derived.KernelRfl
namespace Go.Proofs.Ytmfnldkiaodkpaa
/- THE CELL 'sum', in the pinned program and in every row, IS THE sha256 OF THE DUMP (.gsa) THAT YtmfnldkiaodkpaaProg.lean LOADS. Nothing in Lean hashes anything: it is a label: what it is worth is what the hold of that sum in a sandbox is worth. -/
noncomputable def Try.pinned : Pinned := { name := "ytmfnldkiaodkpaa", sum := "14bf3d80d35a4a86e99d9e87226815a9f2993526ce283a58409304335edd8e59", checked := Try.checked }
namespace Rows
def none {H : Type} : Left H := { results := [], args := [] }

/-- 'portholelaw5.PolyTags': WHATEVER THE INPUT: true; the input reads as it did. -/
def polyTagsSpec : ChangeSpec := { name := "polyTags", fn := fun _ => fun
  | [d1, d2, d3, d4] => { results := [.lit (.bool true)], args := [d1, d2, d3, d4] }
  | _ => none }
def polyTagsRow : OpenClaim := { program := "ytmfnldkiaodkpaa", sum := "14bf3d80d35a4a86e99d9e87226815a9f2993526ce283a58409304335edd8e59", func := "porthole/portholelaw5.PolyTags", spec := "polyTags", apart := false }
def PolyTagsSaid : Prop := polyTagsRow.holds Try.pinned (OpenSpec.ofChange polyTagsSpec)

/-- ITS FALSE NEIGHBOUR: 'it returns false'. Refute it at one input. -/
def polyTagsWrong : ChangeSpec := { name := "polyTags", fn := fun _ => fun
  | [d1, d2, d3, d4] => { results := [.lit (.bool false)], args := [d1, d2, d3, d4] }
  | _ => none }
def PolyTagsWrongFalsely : Prop := polyTagsRow.holds Try.pinned (OpenSpec.ofChange polyTagsWrong)

/-- 'portholelaw10.SymmNames': WHATEVER THE INPUT: true; the input reads as it did. -/
def symmNamesSpec : ChangeSpec := { name := "symmNames", fn := fun _ => fun
  | [d1, d2] => { results := [.lit (.bool true)], args := [d1, d2] }
  | _ => none }
def symmNamesRow : OpenClaim := { program := "ytmfnldkiaodkpaa", sum := "14bf3d80d35a4a86e99d9e87226815a9f2993526ce283a58409304335edd8e59", func := "porthole/portholelaw10.SymmNames", spec := "symmNames", unfollowed := true, recurses := true, apart := false }
def SymmNamesSaid : Prop := symmNamesRow.holds Try.pinned (OpenSpec.ofChange symmNamesSpec)

/-- ITS FALSE NEIGHBOUR: 'it returns false'. Refute it at one input. -/
def symmNamesWrong : ChangeSpec := { name := "symmNames", fn := fun _ => fun
  | [d1, d2] => { results := [.lit (.bool false)], args := [d1, d2] }
  | _ => none }
def SymmNamesWrongFalsely : Prop := symmNamesRow.holds Try.pinned (OpenSpec.ofChange symmNamesWrong)

/-- 'portholelaw9.CipherBack': WHATEVER THE INPUT: true; the input reads as it did. -/
def cipherBackSpec : ChangeSpec := { name := "cipherBack", fn := fun _ => fun
  | [d1, d2, d3] => { results := [.lit (.bool true)], args := [d1, d2, d3] }
  | _ => none }
def cipherBackRow : OpenClaim := { program := "ytmfnldkiaodkpaa", sum := "14bf3d80d35a4a86e99d9e87226815a9f2993526ce283a58409304335edd8e59", func := "porthole/portholelaw9.CipherBack", spec := "cipherBack", unfollowed := true, recurses := true, apart := false }
def CipherBackSaid : Prop := cipherBackRow.holds Try.pinned (OpenSpec.ofChange cipherBackSpec)

/-- ITS FALSE NEIGHBOUR: 'it returns false'. Refute it at one input. -/
def cipherBackWrong : ChangeSpec := { name := "cipherBack", fn := fun _ => fun
  | [d1, d2, d3] => { results := [.lit (.bool false)], args := [d1, d2, d3] }
  | _ => none }
def CipherBackWrongFalsely : Prop := cipherBackRow.holds Try.pinned (OpenSpec.ofChange cipherBackWrong)

/-- 'portholelaw16.RecordSizes': WHATEVER THE INPUT: true; the input reads as it did. -/
def recordSizesSpec : ChangeSpec := { name := "recordSizes", fn := fun _ => fun
  | [d1, d2, d3, d4, d5] => { results := [.lit (.bool true)], args := [d1, d2, d3, d4, d5] }
  | _ => none }
def recordSizesRow : OpenClaim := { program := "ytmfnldkiaodkpaa", sum := "14bf3d80d35a4a86e99d9e87226815a9f2993526ce283a58409304335edd8e59", func := "porthole/portholelaw16.RecordSizes", spec := "recordSizes", unfollowed := true, recurses := true, apart := false }
def RecordSizesSaid : Prop := recordSizesRow.holds Try.pinned (OpenSpec.ofChange recordSizesSpec)

/-- ITS FALSE NEIGHBOUR: 'it returns false'. Refute it at one input. -/
def recordSizesWrong : ChangeSpec := { name := "recordSizes", fn := fun _ => fun
  | [d1, d2, d3, d4, d5] => { results := [.lit (.bool false)], args := [d1, d2, d3, d4, d5] }
  | _ => none }
def RecordSizesWrongFalsely : Prop := recordSizesRow.holds Try.pinned (OpenSpec.ofChange recordSizesWrong)

/-- 'portholelaw16.RecordRekeys': WHATEVER THE INPUT: true; the input reads as it did. -/
def recordRekeysSpec : ChangeSpec := { name := "recordRekeys", fn := fun _ => fun
  | [d1, d2] => { results := [.lit (.bool true)], args := [d1, d2] }
  | _ => none }
def recordRekeysRow : OpenClaim := { program := "ytmfnldkiaodkpaa", sum := "14bf3d80d35a4a86e99d9e87226815a9f2993526ce283a58409304335edd8e59", func := "porthole/portholelaw16.RecordRekeys", spec := "recordRekeys", unfollowed := true, recurses := true, apart := false }
def RecordRekeysSaid : Prop := recordRekeysRow.holds Try.pinned (OpenSpec.ofChange recordRekeysSpec)

/-- ITS FALSE NEIGHBOUR: 'it returns false'. Refute it at one input. -/
def recordRekeysWrong : ChangeSpec := { name := "recordRekeys", fn := fun _ => fun
  | [d1, d2] => { results := [.lit (.bool false)], args := [d1, d2] }
  | _ => none }
def RecordRekeysWrongFalsely : Prop := recordRekeysRow.holds Try.pinned (OpenSpec.ofChange recordRekeysWrong)

/-- 'portholelaw16.RecordReads': WHATEVER THE INPUT: true; the input reads as it did. -/
def recordReadsSpec : ChangeSpec := { name := "recordReads", fn := fun _ => fun
  | [d1, d2, d3] => { results := [.lit (.bool true)], args := [d1, d2, d3] }
  | _ => none }
def recordReadsRow : OpenClaim := { program := "ytmfnldkiaodkpaa", sum := "14bf3d80d35a4a86e99d9e87226815a9f2993526ce283a58409304335edd8e59", func := "porthole/portholelaw16.RecordReads", spec := "recordReads", unfollowed := true, recurses := true, apart := false }
def RecordReadsSaid : Prop := recordReadsRow.holds Try.pinned (OpenSpec.ofChange recordReadsSpec)

/-- ITS FALSE NEIGHBOUR: 'it returns false'. Refute it at one input. -/
def recordReadsWrong : ChangeSpec := { name := "recordReads", fn := fun _ => fun
  | [d1, d2, d3] => { results := [.lit (.bool false)], args := [d1, d2, d3] }
  | _ => none }
def RecordReadsWrongFalsely : Prop := recordReadsRow.holds Try.pinned (OpenSpec.ofChange recordReadsWrong)

/-- 'portholelaw16.RecordFrames': WHATEVER THE INPUT: true; the input reads as it did. -/
def recordFramesSpec : ChangeSpec := { name := "recordFrames", fn := fun _ => fun
  | [d1, d2] => { results := [.lit (.bool true)], args := [d1, d2] }
  | _ => none }
def recordFramesRow : OpenClaim := { program := "ytmfnldkiaodkpaa", sum := "14bf3d80d35a4a86e99d9e87226815a9f2993526ce283a58409304335edd8e59", func := "porthole/portholelaw16.RecordFrames", spec := "recordFrames", unfollowed := true, recurses := true, apart := false }
def RecordFramesSaid : Prop := recordFramesRow.holds Try.pinned (OpenSpec.ofChange recordFramesSpec)

/-- ITS FALSE NEIGHBOUR: 'it returns false'. Refute it at one input. -/
def recordFramesWrong : ChangeSpec := { name := "recordFrames", fn := fun _ => fun
  | [d1, d2] => { results := [.lit (.bool false)], args := [d1, d2] }
  | _ => none }
def RecordFramesWrongFalsely : Prop := recordFramesRow.holds Try.pinned (OpenSpec.ofChange recordFramesWrong)

/-- 'portholelaw16.RecordKnown': WHATEVER THE INPUT: true; the input reads as it did. -/
def recordKnownSpec : ChangeSpec := { name := "recordKnown", fn := fun _ => fun
  | [] => { results := [.lit (.bool true)], args := [] }
  | _ => none }
def recordKnownRow : OpenClaim := { program := "ytmfnldkiaodkpaa", sum := "14bf3d80d35a4a86e99d9e87226815a9f2993526ce283a58409304335edd8e59", func := "porthole/portholelaw16.RecordKnown", spec := "recordKnown", unfollowed := true, recurses := true, apart := false }
def RecordKnownSaid : Prop := recordKnownRow.holds Try.pinned (OpenSpec.ofChange recordKnownSpec)

/-- ITS FALSE NEIGHBOUR: 'it returns false'. Refute it at one input. -/
def recordKnownWrong : ChangeSpec := { name := "recordKnown", fn := fun _ => fun
  | [] => { results := [.lit (.bool false)], args := [] }
  | _ => none }
def RecordKnownWrongFalsely : Prop := recordKnownRow.holds Try.pinned (OpenSpec.ofChange recordKnownWrong)

/-- 'portholelaw16.RecordBroken': WHATEVER THE INPUT: true; the input reads as it did. -/
def recordBrokenSpec : ChangeSpec := { name := "recordBroken", fn := fun _ => fun
  | [d1, d2, d3] => { results := [.lit (.bool true)], args := [d1, d2, d3] }
  | _ => none }
def recordBrokenRow : OpenClaim := { program := "ytmfnldkiaodkpaa", sum := "14bf3d80d35a4a86e99d9e87226815a9f2993526ce283a58409304335edd8e59", func := "porthole/portholelaw16.RecordBroken", spec := "recordBroken", unfollowed := true, recurses := true, apart := false }
def RecordBrokenSaid : Prop := recordBrokenRow.holds Try.pinned (OpenSpec.ofChange recordBrokenSpec)

/-- ITS FALSE NEIGHBOUR: 'it returns false'. Refute it at one input. -/
def recordBrokenWrong : ChangeSpec := { name := "recordBroken", fn := fun _ => fun
  | [d1, d2, d3] => { results := [.lit (.bool false)], args := [d1, d2, d3] }
  | _ => none }
def RecordBrokenWrongFalsely : Prop := recordBrokenRow.holds Try.pinned (OpenSpec.ofChange recordBrokenWrong)

/-- 'portholelaw10.SymmPlain': WHATEVER THE INPUT: true; the input reads as it did. -/
def symmPlainSpec : ChangeSpec := { name := "symmPlain", fn := fun _ => fun
  | [d] => { results := [.lit (.bool true)], args := [d] }
  | _ => none }
def symmPlainRow : OpenClaim := { program := "ytmfnldkiaodkpaa", sum := "14bf3d80d35a4a86e99d9e87226815a9f2993526ce283a58409304335edd8e59", func := "porthole/portholelaw10.SymmPlain", spec := "symmPlain", unfollowed := true, recurses := true, apart := false }
def SymmPlainSaid : Prop := symmPlainRow.holds Try.pinned (OpenSpec.ofChange symmPlainSpec)

/-- ITS FALSE NEIGHBOUR: 'it returns false'. Refute it at one input. -/
def symmPlainWrong : ChangeSpec := { name := "symmPlain", fn := fun _ => fun
  | [d] => { results := [.lit (.bool false)], args := [d] }
  | _ => none }
def SymmPlainWrongFalsely : Prop := symmPlainRow.holds Try.pinned (OpenSpec.ofChange symmPlainWrong)

/-- 'portholelaw10.SymmBoth': WHATEVER THE INPUT: true; the input reads as it did. -/
def symmBothSpec : ChangeSpec := { name := "symmBoth", fn := fun _ => fun
  | [d] => { results := [.lit (.bool true)], args := [d] }
  | _ => none }
def symmBothRow : OpenClaim := { program := "ytmfnldkiaodkpaa", sum := "14bf3d80d35a4a86e99d9e87226815a9f2993526ce283a58409304335edd8e59", func := "porthole/portholelaw10.SymmBoth", spec := "symmBoth", unfollowed := true, recurses := true, apart := false }
def SymmBothSaid : Prop := symmBothRow.holds Try.pinned (OpenSpec.ofChange symmBothSpec)

/-- ITS FALSE NEIGHBOUR: 'it returns false'. Refute it at one input. -/
def symmBothWrong : ChangeSpec := { name := "symmBoth", fn := fun _ => fun
  | [d] => { results := [.lit (.bool false)], args := [d] }
  | _ => none }
def SymmBothWrongFalsely : Prop := symmBothRow.holds Try.pinned (OpenSpec.ofChange symmBothWrong)

/- THE SECOND FORM. 'bulk': how many values and letters a reading holds, each counted each time it is reached (what is shared counts as often as it is met; a slice's spare places count too). A statement '..UptoSaid' is the law's where the arguments, and the package variables that the reading takes, are together of bulk at most 1048576: NARROWER than '..Said'. Prove '..Said' where nothing that the law and all that it calls make is longer than what came in: it says more and counts as full. Else prove '..UptoSaid'. A law counts once. -/
mutual
def uptoBulk {H : Type} : DataW H → Nat
  | .lit (.string bytes) => bytes.length + 1
  | .lit _ => 1
  | .nil => 1
  | .ptr d => uptoBulk d + 1
  | .slice elems spare => uptoBulkAll elems + uptoBulkAll spare + 1
  | .agg parts => uptoBulkAll parts + 1
  | .iface _ d => uptoBulk d + 1
  | .map entries => uptoBulkEntries entries + 1
  | .held _ => 1
def uptoBulkAll {H : Type} : List (DataW H) → Nat
  | [] => 0
  | d :: r => uptoBulk d + uptoBulkAll r
def uptoBulkEntries {H : Type} : List (Lit × DataW H) → Nat
  | [] => 0
  | x :: r => uptoBulkEntry x + uptoBulkEntries r
def uptoBulkEntry {H : Type} : Lit × DataW H → Nat
  | (.string bytes, d) => bytes.length + uptoBulk d + 1
  | (_, d) => uptoBulk d + 1
 end
def uptoSmall : (H : Type) → List (DataW H) → Bool := fun _ ds => decide (uptoBulkAll ds ≤ 1048576)
def OpenSpec.upto (s : _root_.Go.ChangeSpec) : _root_.Go.OpenSpec := { _root_.Go.OpenSpec.ofChange s with cond := some uptoSmall }

/-- 'portholelaw5.PolyTags', WHERE WHAT IT READS IS OF BULK AT MOST 1048576: true; the input reads as it did. -/
def polyTagsUptoRow : OpenClaim := { program := "ytmfnldkiaodkpaa", sum := "14bf3d80d35a4a86e99d9e87226815a9f2993526ce283a58409304335edd8e59", func := "porthole/portholelaw5.PolyTags", spec := "polyTags", apart := false, narrowed := true }
def PolyTagsUptoSaid : Prop := polyTagsUptoRow.holds Try.pinned (OpenSpec.upto polyTagsSpec)

/-- 'portholelaw10.SymmNames', WHERE WHAT IT READS IS OF BULK AT MOST 1048576: true; the input reads as it did. -/
def symmNamesUptoRow : OpenClaim := { program := "ytmfnldkiaodkpaa", sum := "14bf3d80d35a4a86e99d9e87226815a9f2993526ce283a58409304335edd8e59", func := "porthole/portholelaw10.SymmNames", spec := "symmNames", unfollowed := true, recurses := true, apart := false, narrowed := true }
def SymmNamesUptoSaid : Prop := symmNamesUptoRow.holds Try.pinned (OpenSpec.upto symmNamesSpec)

/-- 'portholelaw9.CipherBack', WHERE WHAT IT READS IS OF BULK AT MOST 1048576: true; the input reads as it did. -/
def cipherBackUptoRow : OpenClaim := { program := "ytmfnldkiaodkpaa", sum := "14bf3d80d35a4a86e99d9e87226815a9f2993526ce283a58409304335edd8e59", func := "porthole/portholelaw9.CipherBack", spec := "cipherBack", unfollowed := true, recurses := true, apart := false, narrowed := true }
def CipherBackUptoSaid : Prop := cipherBackUptoRow.holds Try.pinned (OpenSpec.upto cipherBackSpec)

/-- 'portholelaw16.RecordSizes', WHERE WHAT IT READS IS OF BULK AT MOST 1048576: true; the input reads as it did. -/
def recordSizesUptoRow : OpenClaim := { program := "ytmfnldkiaodkpaa", sum := "14bf3d80d35a4a86e99d9e87226815a9f2993526ce283a58409304335edd8e59", func := "porthole/portholelaw16.RecordSizes", spec := "recordSizes", unfollowed := true, recurses := true, apart := false, narrowed := true }
def RecordSizesUptoSaid : Prop := recordSizesUptoRow.holds Try.pinned (OpenSpec.upto recordSizesSpec)

/-- 'portholelaw16.RecordRekeys', WHERE WHAT IT READS IS OF BULK AT MOST 1048576: true; the input reads as it did. -/
def recordRekeysUptoRow : OpenClaim := { program := "ytmfnldkiaodkpaa", sum := "14bf3d80d35a4a86e99d9e87226815a9f2993526ce283a58409304335edd8e59", func := "porthole/portholelaw16.RecordRekeys", spec := "recordRekeys", unfollowed := true, recurses := true, apart := false, narrowed := true }
def RecordRekeysUptoSaid : Prop := recordRekeysUptoRow.holds Try.pinned (OpenSpec.upto recordRekeysSpec)

/-- 'portholelaw16.RecordReads', WHERE WHAT IT READS IS OF BULK AT MOST 1048576: true; the input reads as it did. -/
def recordReadsUptoRow : OpenClaim := { program := "ytmfnldkiaodkpaa", sum := "14bf3d80d35a4a86e99d9e87226815a9f2993526ce283a58409304335edd8e59", func := "porthole/portholelaw16.RecordReads", spec := "recordReads", unfollowed := true, recurses := true, apart := false, narrowed := true }
def RecordReadsUptoSaid : Prop := recordReadsUptoRow.holds Try.pinned (OpenSpec.upto recordReadsSpec)

/-- 'portholelaw16.RecordFrames', WHERE WHAT IT READS IS OF BULK AT MOST 1048576: true; the input reads as it did. -/
def recordFramesUptoRow : OpenClaim := { program := "ytmfnldkiaodkpaa", sum := "14bf3d80d35a4a86e99d9e87226815a9f2993526ce283a58409304335edd8e59", func := "porthole/portholelaw16.RecordFrames", spec := "recordFrames", unfollowed := true, recurses := true, apart := false, narrowed := true }
def RecordFramesUptoSaid : Prop := recordFramesUptoRow.holds Try.pinned (OpenSpec.upto recordFramesSpec)

/-- 'portholelaw16.RecordKnown', WHERE WHAT IT READS IS OF BULK AT MOST 1048576: true; the input reads as it did. -/
def recordKnownUptoRow : OpenClaim := { program := "ytmfnldkiaodkpaa", sum := "14bf3d80d35a4a86e99d9e87226815a9f2993526ce283a58409304335edd8e59", func := "porthole/portholelaw16.RecordKnown", spec := "recordKnown", unfollowed := true, recurses := true, apart := false, narrowed := true }
def RecordKnownUptoSaid : Prop := recordKnownUptoRow.holds Try.pinned (OpenSpec.upto recordKnownSpec)

/-- 'portholelaw16.RecordBroken', WHERE WHAT IT READS IS OF BULK AT MOST 1048576: true; the input reads as it did. -/
def recordBrokenUptoRow : OpenClaim := { program := "ytmfnldkiaodkpaa", sum := "14bf3d80d35a4a86e99d9e87226815a9f2993526ce283a58409304335edd8e59", func := "porthole/portholelaw16.RecordBroken", spec := "recordBroken", unfollowed := true, recurses := true, apart := false, narrowed := true }
def RecordBrokenUptoSaid : Prop := recordBrokenUptoRow.holds Try.pinned (OpenSpec.upto recordBrokenSpec)

/-- 'portholelaw10.SymmPlain', WHERE WHAT IT READS IS OF BULK AT MOST 1048576: true; the input reads as it did. -/
def symmPlainUptoRow : OpenClaim := { program := "ytmfnldkiaodkpaa", sum := "14bf3d80d35a4a86e99d9e87226815a9f2993526ce283a58409304335edd8e59", func := "porthole/portholelaw10.SymmPlain", spec := "symmPlain", unfollowed := true, recurses := true, apart := false, narrowed := true }
def SymmPlainUptoSaid : Prop := symmPlainUptoRow.holds Try.pinned (OpenSpec.upto symmPlainSpec)

/-- 'portholelaw10.SymmBoth', WHERE WHAT IT READS IS OF BULK AT MOST 1048576: true; the input reads as it did. -/
def symmBothUptoRow : OpenClaim := { program := "ytmfnldkiaodkpaa", sum := "14bf3d80d35a4a86e99d9e87226815a9f2993526ce283a58409304335edd8e59", func := "porthole/portholelaw10.SymmBoth", spec := "symmBoth", unfollowed := true, recurses := true, apart := false, narrowed := true }
def SymmBothUptoSaid : Prop := symmBothUptoRow.holds Try.pinned (OpenSpec.upto symmBothSpec)

end Rows
end Go.Proofs.Ytmfnldkiaodkpaa
