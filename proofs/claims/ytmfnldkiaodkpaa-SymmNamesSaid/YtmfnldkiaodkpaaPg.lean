/- What functions of the program come to: parts of the walk (Pg). -/
import Derived.Test.YtmfnldkiaodkpaaPw
import Derived.KernelRfl
import Derived.Test.YtmfnldkiaodkpaaProg
import Derived.Test.YtmfnldkiaodkpaaPe
set_option linter.unusedSimpArgs false
set_option linter.unusedVariables false
namespace Go.Proofs.Ytmfnldkiaodkpaa.Vm
open Go Go.Proofs Go.Proofs.Ytmfnldkiaodkpaa
set_option maxRecDepth 100000
end Go.Proofs.Ytmfnldkiaodkpaa.Vm

namespace Go.Proofs.Ytmfnldkiaodkpaa.Vm
open Go Go.Proofs Go.Proofs.Ytmfnldkiaodkpaa
end Go.Proofs.Ytmfnldkiaodkpaa.Vm

namespace Go.Proofs.Ytmfnldkiaodkpaa.Vm
open Go Go.Proofs Go.Proofs.Ytmfnldkiaodkpaa
def blkA (l : List Int) (p t : Nat) : List Int := splice [(0 : Int), (0 : Int), (0 : Int), (0 : Int), (0 : Int), (0 : Int), (0 : Int), (0 : Int), (0 : Int), (0 : Int), (0 : Int), (0 : Int), (0 : Int), (0 : Int), (0 : Int), (0 : Int), (0 : Int)] (0 : Nat) (List.take (mulE (min (Int.toNat ((t : Int) - (0 : Int))) (17 : Nat)) (1 : Nat)) (List.drop (0 : Nat) (List.take (mulE (Int.toNat ((t : Int) - (0 : Int))) (1 : Nat)) (List.drop (addO p (0 : Nat)) l))))
def blkB (l : List Int) (p t : Nat) : List Int := splice (blkA l p t) (addO (0 : Nat) (mulE (Int.toNat (t : Int)) (1 : Nat))) [(1 : Int)]
def blk (l : List Int) (p t : Nat) : List Int := List.take 17 (List.drop 0 (blkB l p t))
/-- A sum, byte by byte. -/
def cc (h s : Nat → Int) : Nat → Int
  | 0 => h 0 + s 0
  | i + 1 => cc h s i / 256 + h (i + 1) + s (i + 1)
def Bt (h : Nat → Int) : Prop := ∀ i, 0 ≤ h i ∧ h i < 256
theorem bt_list {l : List Int} (h : ∀ x ∈ l, 0 ≤ x ∧ x < 256) : Bt fun i => l.getD i 0 := by
  intro i
  by_cases hi : i < l.length
  · show 0 ≤ l.getD i 0 ∧ l.getD i 0 < 256
    rw [List.getD_eq_getElem?_getD, List.getElem?_eq_getElem hi]
    exact h _ (List.getElem_mem hi)
  · show 0 ≤ l.getD i 0 ∧ l.getD i 0 < 256
    rw [List.getD_eq_getElem?_getD, List.getElem?_eq_none (Nat.le_of_not_lt hi)]
    decide
end Go.Proofs.Ytmfnldkiaodkpaa.Vm
