/- What functions of the program come to: parts of the walk (Pw). -/
import Derived.Test.YtmfnldkiaodkpaaVmb
import Derived.KernelRfl
import Derived.Test.YtmfnldkiaodkpaaProg
set_option linter.unusedSimpArgs false
set_option linter.unusedVariables false
namespace Go.Proofs.Ytmfnldkiaodkpaa.Vm
end Go.Proofs.Ytmfnldkiaodkpaa.Vm

namespace Go.Proofs.Ytmfnldkiaodkpaa.W
structure El where
  a0 : Int
  a1 : Int
  a2 : Int
  a3 : Int
  a4 : Int
def el (e : El) : List Int := [e.a0, e.a1, e.a2, e.a3, e.a4]
end Go.Proofs.Ytmfnldkiaodkpaa.W

namespace Go.Proofs.Ytmfnldkiaodkpaa.Vm
open Go Go.Proofs Go.Proofs.Ytmfnldkiaodkpaa
set_option maxRecDepth 100000
theorem mixed : Try.prog.follows .mixedOrders = true := by kernel_rfl
end Go.Proofs.Ytmfnldkiaodkpaa.Vm
