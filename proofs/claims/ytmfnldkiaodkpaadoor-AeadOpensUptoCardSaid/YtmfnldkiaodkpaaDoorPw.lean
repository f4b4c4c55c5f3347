/- What functions of the program come to: parts of the walk (Pw). -/
import Derived.Test.YtmfnldkiaodkpaaDoorVmb
import Derived.KernelRfl
import Derived.Test.YtmfnldkiaodkpaaDoorProg
set_option linter.unusedSimpArgs false
set_option linter.unusedVariables false
namespace Go.Proofs.YtmfnldkiaodkpaaDoor.Vm
end Go.Proofs.YtmfnldkiaodkpaaDoor.Vm

/- Words for the field's elements, and for numbers of 128 bits. -/
namespace Go.Proofs.YtmfnldkiaodkpaaDoor.W
/-- An element: five limbs. -/
structure El where
  a0 : Int
  a1 : Int
  a2 : Int
  a3 : Int
  a4 : Int
def el (e : El) : List Int := [e.a0, e.a1, e.a2, e.a3, e.a4]
end Go.Proofs.YtmfnldkiaodkpaaDoor.W

namespace Go.Proofs.YtmfnldkiaodkpaaDoor.Vm
open Go Go.Proofs Go.Proofs.YtmfnldkiaodkpaaDoor
set_option maxRecDepth 100000
theorem mixed : Tryd.prog.follows .mixedOrders = true := by kernel_rfl

end Go.Proofs.YtmfnldkiaodkpaaDoor.Vm
