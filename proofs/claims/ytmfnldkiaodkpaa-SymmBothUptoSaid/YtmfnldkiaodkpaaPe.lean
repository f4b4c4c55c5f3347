/- What functions of the program come to: parts of the walk (Pe). -/
import Derived.Test.YtmfnldkiaodkpaaPc
import Derived.Test.YtmfnldkiaodkpaaPd
import Derived.KernelRfl
import Derived.Test.YtmfnldkiaodkpaaProg
import Derived.Test.YtmfnldkiaodkpaaPw
import Derived.Test.YtmfnldkiaodkpaaPb
import Derived.Test.YtmfnldkiaodkpaaVmb
set_option linter.unusedSimpArgs false
set_option linter.unusedVariables false
namespace Go.Proofs.Ytmfnldkiaodkpaa.Vm
open Go Go.Proofs Go.Proofs.Ytmfnldkiaodkpaa
theorem run38a_ok : Contract0 Try.prog 58 [(.c (.int .u64 1152921487695413247))] [] 1 (.c (.sl 33 0 0 8 1)) [] [(33, (.one ⟨true, true, (.ints .u8 [255, 255, 255, 15, 252, 255, 255, 15])⟩))] := run38a run63a
theorem run38b_ok : Contract0 Try.prog 58 [(.c (.int .u64 1152921487695413244))] [] 1 (.c (.sl 33 0 0 8 1)) [] [(33, (.one ⟨true, true, (.ints .u8 [252, 255, 255, 15, 252, 255, 255, 15])⟩))] := run38b run63b
end Go.Proofs.Ytmfnldkiaodkpaa.Vm

namespace Go.Proofs.Ytmfnldkiaodkpaa.Vm
open Go Go.Proofs Go.Proofs.Ytmfnldkiaodkpaa
set_option maxRecDepth 100000
end Go.Proofs.Ytmfnldkiaodkpaa.Vm

namespace Go.Proofs.Ytmfnldkiaodkpaa.Vm
open Go Go.Proofs Go.Proofs.Ytmfnldkiaodkpaa
def I64p (a : Int) : Prop := -9223372036854775808 ≤ a ∧ a < 9223372036854775808
theorem wrapP {a : Int} (h : I64p a) : IntKind.i64.wrap a = a := by
  rw [IntKind.wrap_i64]; unfold I64p at h; omega
theorem off_eqP (i : Nat) : addO 0 (mulE i 1) = i := by
  rw [addO_eq]; simp [mulE]
theorem mulE1 (i : Nat) : mulE i 1 = i := by simp [mulE]
theorem w1 {s : Int} (h : 0 ≤ s ∧ s < 256) : IntKind.wrap IntKind.i64 s = s := wrapP (by unfold I64p; omega)
theorem w2 {s : Int} (h : 0 ≤ s ∧ s < 256) : IntKind.wrap IntKind.i64 (0 + s) = s := by rw [Int.zero_add]; exact w1 h
end Go.Proofs.Ytmfnldkiaodkpaa.Vm

namespace Go.Proofs.Ytmfnldkiaodkpaa.Vm
open Go Go.Proofs Go.Proofs.Ytmfnldkiaodkpaa
end Go.Proofs.Ytmfnldkiaodkpaa.Vm
