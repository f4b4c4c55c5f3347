/- What functions of the program come to: parts of the walk (Ef). -/
import Derived.Test.YtmfnldkiaodkpaaDoorEa
import Derived.Test.YtmfnldkiaodkpaaDoorLv
set_option linter.unusedSimpArgs false
set_option linter.unusedVariables false
namespace Go.Proofs.YtmfnldkiaodkpaaDoor.Vm
open Go Go.Proofs Go.Proofs.YtmfnldkiaodkpaaDoor
def GA : Nat → List Int
  | 2 => W.rows
  | _ => []
end Go.Proofs.YtmfnldkiaodkpaaDoor.Vm
