/- What functions of the program come to: parts of the walk (Rff). -/
import Derived.Test.YtkjbjgkjplmkhaaDoorRfe
import Derived.KernelRfl
import Derived.Test.YtkjbjgkjplmkhaaDoorProg
set_option linter.unusedSimpArgs false
set_option linter.unusedVariables false
namespace Go.Proofs.YtkjbjgkjplmkhaaDoor.Vm
open Go Go.Proofs Go.Proofs.YtkjbjgkjplmkhaaDoor
set_option maxRecDepth 100000
end Go.Proofs.YtkjbjgkjplmkhaaDoor.Vm

namespace Go.Proofs.YtkjbjgkjplmkhaaDoor.Vm
open Go Go.Proofs Go.Proofs.YtkjbjgkjplmkhaaDoor
set_option maxRecDepth 100000
end Go.Proofs.YtkjbjgkjplmkhaaDoor.Vm

namespace Go.Proofs.YtkjbjgkjplmkhaaDoor.Vm
open Go Go.Proofs Go.Proofs.YtkjbjgkjplmkhaaDoor
end Go.Proofs.YtkjbjgkjplmkhaaDoor.Vm
