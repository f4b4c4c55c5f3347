/- What functions of the program come to: parts of the walk (Pd). -/
import Derived.Test.YtmfnldkiaodkpaaDoorPw
import Derived.KernelRfl
import Derived.Test.YtmfnldkiaodkpaaDoorProg
set_option linter.unusedSimpArgs false
set_option linter.unusedVariables false
namespace Go.Proofs.YtmfnldkiaodkpaaDoor.Vm
open Go Go.Proofs Go.Proofs.YtmfnldkiaodkpaaDoor
set_option maxRecDepth 100000
end Go.Proofs.YtmfnldkiaodkpaaDoor.Vm
