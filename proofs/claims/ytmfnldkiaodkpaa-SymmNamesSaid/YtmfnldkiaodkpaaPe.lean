/- What functions of the program come to: parts of the walk (Pe). -/
import Derived.Test.YtmfnldkiaodkpaaPc
import Derived.Test.YtmfnldkiaodkpaaPd
import Derived.KernelRfl
import Derived.Test.YtmfnldkiaodkpaaProg
import Derived.Test.YtmfnldkiaodkpaaPw
import Derived.Test.YtmfnldkiaodkpaaPb
import Derived.Test.YtmfnldkiaodkpaaVmb
set_option linter.unusedSimpArgs false
set_option linter.unusedVariables false
namespace Go.Proofs.Ytmfnldkiaodkpaa.Vm
open Go Go.Proofs Go.Proofs.Ytmfnldkiaodkpaa
end Go.Proofs.Ytmfnldkiaodkpaa.Vm

namespace Go.Proofs.Ytmfnldkiaodkpaa.Vm
open Go Go.Proofs Go.Proofs.Ytmfnldkiaodkpaa
set_option maxRecDepth 100000
end Go.Proofs.Ytmfnldkiaodkpaa.Vm

namespace Go.Proofs.Ytmfnldkiaodkpaa.Vm
open Go Go.Proofs Go.Proofs.Ytmfnldkiaodkpaa
def I64p (a : Int) : Prop := -9223372036854775808 ≤ a ∧ a < 9223372036854775808
theorem wrapP {a : Int} (h : I64p a) : IntKind.i64.wrap a = a := by
  rw [IntKind.wrap_i64]; unfold I64p at h; omega
theorem w1 {s : Int} (h : 0 ≤ s ∧ s < 256) : IntKind.wrap IntKind.i64 s = s := wrapP (by unfold I64p; omega)
theorem w2 {s : Int} (h : 0 ≤ s ∧ s < 256) : IntKind.wrap IntKind.i64 (0 + s) = s := by rw [Int.zero_add]; exact w1 h
end Go.Proofs.Ytmfnldkiaodkpaa.Vm

namespace Go.Proofs.Ytmfnldkiaodkpaa.Vm
open Go Go.Proofs Go.Proofs.Ytmfnldkiaodkpaa
end Go.Proofs.Ytmfnldkiaodkpaa.Vm
