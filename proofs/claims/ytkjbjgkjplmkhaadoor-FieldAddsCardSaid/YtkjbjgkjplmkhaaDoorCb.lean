/- What functions of the program come to: parts of the walk (Cb). -/
import Derived.Test.YtkjbjgkjplmkhaaDoorFg
import Derived.Test.YtkjbjgkjplmkhaaDoorCa
import Derived.KernelRfl
import Derived.Test.YtkjbjgkjplmkhaaDoorProg
set_option linter.unusedSimpArgs false
set_option linter.unusedVariables false
namespace Go.Proofs.YtkjbjgkjplmkhaaDoor.Vm
open Go Go.Proofs Go.Proofs.YtkjbjgkjplmkhaaDoor
/-! ### The ladder, in the field -/
structure Q4 where
  a : Fp
  b : Fp
  c : Fp
  d : Fp
def Q4.swap (q : Q4) : Q4 := ⟨q.c, q.d, q.a, q.b⟩
def stepF (x : Fp) (q : Q4) : Q4 :=
  ⟨(q.a + q.b) * (q.a + q.b) * ((q.a - q.b) * (q.a - q.b)),
   ((q.a + q.b) * (q.a + q.b) - (q.a - q.b) * (q.a - q.b)) * ((q.a + q.b) * (q.a + q.b) + ((q.a + q.b) * (q.a + q.b) - (q.a - q.b) * (q.a - q.b)) * toF 121665),
   ((q.c - q.d) * (q.a + q.b) + (q.c + q.d) * (q.a - q.b)) * ((q.c - q.d) * (q.a + q.b) + (q.c + q.d) * (q.a - q.b)),
   x * (((q.c - q.d) * (q.a + q.b) - (q.c + q.d) * (q.a - q.b)) * ((q.c - q.d) * (q.a + q.b) - (q.c + q.d) * (q.a - q.b)))⟩
def bitF (x : Fp) (b : Bool) (q : Q4) : Q4 := bif b then (stepF x q.swap).swap else stepF x q
def ladF (k : Int) (x : Fp) : Nat → Q4 → Q4
  | 0, q => q
  | n + 1, q => ladF k x n (bitF x (k / 2 ^ n % 2 == 1) q)
def xF (k : Int) (x : Fp) : Int := (((ladF k x 255 ⟨1, 0, x, 1⟩).a * finv (ladF k x 255 ⟨1, 0, x, 1⟩).b : Fp).val : Int)
/-! ### Over elements -/
structure E4 where
  a : W.El
  b : W.El
  c : W.El
  d : W.El
def E4.ok (e : E4) : Prop := e.a.ok ∧ e.b.ok ∧ e.c.ok ∧ e.d.ok
def E4.f (e : E4) : Q4 := ⟨e.a.f, e.b.f, e.c.f, e.d.f⟩
def E4.swap (e : E4) : E4 := ⟨e.c, e.d, e.a, e.b⟩
/-! ### Clamp -/
def clampN (k : Int) : Int := k % 28948022309329048855892746252171976963317496166410141009864396001978282409984 - k % 8 + 28948022309329048855892746252171976963317496166410141009864396001978282409984
end Go.Proofs.YtkjbjgkjplmkhaaDoor.Vm

namespace Go.Proofs.YtkjbjgkjplmkhaaDoor.Vm
open Go Go.Proofs Go.Proofs.YtkjbjgkjplmkhaaDoor
/-! ### The ladder over numbers, to be reckoned -/
def fz {α : Type} (n : Nat) (k : Nat → α) : α := match n with
  | 0 => k 0
  | m + 1 => k (m + 1)
/-! ### At 0 the answer is 0 -/
end Go.Proofs.YtkjbjgkjplmkhaaDoor.Vm

namespace Go.Proofs.YtkjbjgkjplmkhaaDoor.Vm
open Go Go.Proofs Go.Proofs.YtkjbjgkjplmkhaaDoor
set_option maxRecDepth 100000
end Go.Proofs.YtkjbjgkjplmkhaaDoor.Vm

namespace Go.Proofs.YtkjbjgkjplmkhaaDoor.Vm
open Go Go.Proofs Go.Proofs.YtkjbjgkjplmkhaaDoor
end Go.Proofs.YtkjbjgkjplmkhaaDoor.Vm
