/- What functions of the program come to: parts of the walk (Fc). -/
import Derived.Test.YtkjbjgkjplmkhaaDoorWa
import Derived.Test.YtkjbjgkjplmkhaaDoorFb
set_option linter.unusedSimpArgs false
set_option linter.unusedVariables false
/- Powers modulo a prime: from a number whose powers are all that there are. -/
namespace Go.Proofs.YtkjbjgkjplmkhaaDoor.Vm
set_option maxRecDepth 10000
end Go.Proofs.YtkjbjgkjplmkhaaDoor.Vm

/- 2^255 - 19 is prime: a tree of certificates. -/
namespace Go.Proofs.YtkjbjgkjplmkhaaDoor.Vm
end Go.Proofs.YtkjbjgkjplmkhaaDoor.Vm

/- The numbers modulo the prime, as a ring. -/
namespace Go.Proofs.YtkjbjgkjplmkhaaDoor.Vm
abbrev pN : Nat := 57896044618658097711785492504343953926634992332820282019728792003956564819949
abbrev Fp := Fin pN
theorem pP_N : pP = (pN : Int) := rfl
theorem pP_pos : 0 < pP := by decide
def toF (x : Int) : Fp := ⟨(x % pP).toNat, by
  have h1 := Int.emod_nonneg x (show pP ≠ 0 by decide)
  have h2 := Int.emod_lt_of_pos x pP_pos
  rw [pP_N] at h2
  show (x % pP).toNat < pN
  have : ((x % pP).toNat : Int) < (pN : Int) := by rw [Int.toNat_of_nonneg h1]; exact h2
  exact Int.ofNat_lt.mp this⟩
theorem toF_val (x : Int) : ((toF x).val : Int) = x % pP := Int.toNat_of_nonneg (Int.emod_nonneg x (by decide))
theorem toF_ext {a b : Fp} (h : (a.val : Int) = b.val) : a = b := Fin.ext (Int.ofNat.inj h)
theorem toF_iff {x y : Int} : toF x = toF y ↔ x % pP = y % pP := by
  constructor
  · intro h; rw [← toF_val, ← toF_val, h]
  · intro h; apply toF_ext; rw [toF_val, toF_val, h]
theorem toF_add (x y : Int) : toF (x + y) = toF x + toF y := by
  apply toF_ext
  rw [toF_val, Fin.val_add, Int.natCast_emod, Int.natCast_add, toF_val, toF_val, ← pP_N, ← Int.add_emod]
theorem toF_mul (x y : Int) : toF (x * y) = toF x * toF y := by
  apply toF_ext
  rw [toF_val, Fin.val_mul, Int.natCast_emod, Int.natCast_mul, toF_val, toF_val, ← pP_N, ← Int.mul_emod]
theorem toF_sub (x y : Int) : toF (x - y) = toF x - toF y := by
  have h : toF x = toF (x - y) + toF y := by rw [← toF_add, Int.sub_add_cancel]
  rw [h]
  generalize toF (x - y) = a
  generalize toF y = b
  grind
end Go.Proofs.YtkjbjgkjplmkhaaDoor.Vm
namespace Go.Proofs.YtkjbjgkjplmkhaaDoor.W.El
open Go.Proofs.YtkjbjgkjplmkhaaDoor.Vm
def ok (e : El) : Prop := L52 e.a0 ∧ L52 e.a1 ∧ L52 e.a2 ∧ L52 e.a3 ∧ L52 e.a4
def v (e : El) : Int := valE e.a0 e.a1 e.a2 e.a3 e.a4
def f (e : El) : Fp := toF e.v
end Go.Proofs.YtkjbjgkjplmkhaaDoor.W.El
