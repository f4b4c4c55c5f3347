/- What functions of the program come to: parts of the walk (Rd). -/
import Derived.Test.YtmfnldkiaodkpaaRc
import Derived.KernelRfl
import Derived.Test.YtmfnldkiaodkpaaProg
set_option linter.unusedSimpArgs false
set_option linter.unusedVariables false
namespace Go.Proofs.Ytmfnldkiaodkpaa
/-- A number of two bytes. -/
def W.be2 (l : List Int) (o : Nat) : Nat := (l.getD o 0 * 256 + l.getD (o + 1) 0).toNat
end Go.Proofs.Ytmfnldkiaodkpaa
namespace Go.Proofs.Ytmfnldkiaodkpaa.Vm
open Go Go.Proofs Go.Proofs.Ytmfnldkiaodkpaa
theorem be2_eq {l : List Int} {o : Nat} (h0 : 0 ≤ List.getD l o 0 ∧ List.getD l o 0 < 256) (h1 : 0 ≤ List.getD l (o + 1) 0 ∧ List.getD l (o + 1) 0 < 256) :
    bOr IntKind.i64 (List.getD l o 0 * 256) (List.getD l (o + 1) 0) = ((W.be2 l o : Nat) : Int) := by
  unfold W.be2
  generalize List.getD l o 0 = a at *
  generalize List.getD l (o + 1) 0 = b at *
  obtain ⟨x, rfl⟩ : ∃ x : Nat, a = x := ⟨a.toNat, by omega⟩
  obtain ⟨y, rfl⟩ : ∃ y : Nat, b = y := ⟨b.toNat, by omega⟩
  have hx : x < 256 := by omega
  have hy : y < 256 := by omega
  have e : ((x : Int) * 256 + (y : Int)).toNat = x * 256 + y := by omega
  rw [e]
  have key : (BitVec.ofInt 64 ((x : Int) * 256) ||| BitVec.ofInt 64 (y : Int)).toNat = x * 256 + y := by
    have q1 : BitVec.ofInt 64 ((x : Int) * 256) = BitVec.ofNat 64 (x * 256) := by
      have : ((x : Int) * 256) = ((x * 256 : Nat) : Int) := by omega
      rw [this]; exact BitVec.ofInt_natCast 64 (x * 256)
    have q2 : BitVec.ofInt 64 (y : Int) = BitVec.ofNat 64 y := BitVec.ofInt_natCast 64 y
    rw [q1, q2, BitVec.toNat_or, BitVec.toNat_ofNat, BitVec.toNat_ofNat, Nat.mod_eq_of_lt (by omega), Nat.mod_eq_of_lt (by omega)]
    have q3 : x * 256 = x <<< 8 := by rw [Nat.shiftLeft_eq]
    rw [q3, ← Nat.shiftLeft_add_eq_or_of_lt (by omega : y < 2 ^ 8)]
  show IntKind.i64.wrap ((BitVec.ofInt 64 ((x : Int) * 256) ||| BitVec.ofInt 64 (y : Int)).toNat : Int) = _
  rw [key, IntKind.wrap_i64]
  simp [w64]
  omega
theorem be2_lt {l : List Int} {o : Nat} (h0 : 0 ≤ List.getD l o 0 ∧ List.getD l o 0 < 256) (h1 : 0 ≤ List.getD l (o + 1) 0 ∧ List.getD l (o + 1) 0 < 256) : W.be2 l o < 65536 := by
  unfold W.be2; omega
theorem getD_byte {l : List Int} (h : W.bytes l) (i : Nat) : 0 ≤ List.getD l i 0 ∧ List.getD l i 0 < 256 := by
  by_cases hi : i < l.length
  · rw [List.getD_eq_getElem?_getD, List.getElem?_eq_getElem hi]
    exact h _ (List.getElem_mem hi)
  · rw [List.getD_eq_getElem?_getD, List.getElem?_eq_none (by omega)]
    exact ⟨by decide, by decide⟩
end Go.Proofs.Ytmfnldkiaodkpaa.Vm

namespace Go.Proofs.Ytmfnldkiaodkpaa.Vm
open Go Go.Proofs Go.Proofs.Ytmfnldkiaodkpaa
set_option maxRecDepth 100000
end Go.Proofs.Ytmfnldkiaodkpaa.Vm

namespace Go.Proofs.Ytmfnldkiaodkpaa
end Go.Proofs.Ytmfnldkiaodkpaa
namespace Go.Proofs.Ytmfnldkiaodkpaa.Vm
open Go Go.Proofs Go.Proofs.Ytmfnldkiaodkpaa
end Go.Proofs.Ytmfnldkiaodkpaa.Vm

namespace Go.Proofs.Ytmfnldkiaodkpaa.Vm
open Go Go.Proofs Go.Proofs.Ytmfnldkiaodkpaa
end Go.Proofs.Ytmfnldkiaodkpaa.Vm

namespace Go.Proofs.Ytmfnldkiaodkpaa.Vm
open Go Go.Proofs Go.Proofs.Ytmfnldkiaodkpaa
set_option maxRecDepth 100000
end Go.Proofs.Ytmfnldkiaodkpaa.Vm

namespace Go.Proofs.Ytmfnldkiaodkpaa
end Go.Proofs.Ytmfnldkiaodkpaa
namespace Go.Proofs.Ytmfnldkiaodkpaa.Vm
open Go Go.Proofs Go.Proofs.Ytmfnldkiaodkpaa
end Go.Proofs.Ytmfnldkiaodkpaa.Vm
