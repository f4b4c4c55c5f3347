/- What functions of the program come to: parts of the walk (Ca). -/
import Derived.Test.YtkjbjgkjplmkhaaDoorWa
import Derived.Test.YtkjbjgkjplmkhaaDoorFg
import Derived.KernelRfl
import Derived.Test.YtkjbjgkjplmkhaaDoorProg
import Derived.Test.YtkjbjgkjplmkhaaDoorFb
set_option linter.unusedSimpArgs false
set_option linter.unusedVariables false
/- Words for the ladder's points. -/
namespace Go.Proofs.YtkjbjgkjplmkhaaDoor.W
end Go.Proofs.YtkjbjgkjplmkhaaDoor.W

namespace Go.Proofs.YtkjbjgkjplmkhaaDoor.Vm
open Go Go.Proofs Go.Proofs.YtkjbjgkjplmkhaaDoor
set_option maxRecDepth 100000
end Go.Proofs.YtkjbjgkjplmkhaaDoor.Vm

namespace Go.Proofs.YtkjbjgkjplmkhaaDoor.Vm
open Go Go.Proofs Go.Proofs.YtkjbjgkjplmkhaaDoor
end Go.Proofs.YtkjbjgkjplmkhaaDoor.Vm
