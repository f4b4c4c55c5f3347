/- What functions of the program come to: parts of the walk (Yd). -/
import Derived.Test.YtmfnldkiaodkpaaYc
import Derived.Test.YtmfnldkiaodkpaaVmc
import Derived.KernelRfl
import Derived.Test.YtmfnldkiaodkpaaProg
set_option linter.unusedSimpArgs false
set_option linter.unusedVariables false
namespace Go.Proofs.Ytmfnldkiaodkpaa.Vm
open Go Go.Proofs Go.Proofs.Ytmfnldkiaodkpaa
set_option maxRecDepth 100000
end Go.Proofs.Ytmfnldkiaodkpaa.Vm

namespace Go.Proofs.Ytmfnldkiaodkpaa.W
open Go Go.Proofs.Ytmfnldkiaodkpaa.Vm
end Go.Proofs.Ytmfnldkiaodkpaa.W
namespace Go.Proofs.Ytmfnldkiaodkpaa.Vm
open Go Go.Proofs Go.Proofs.Ytmfnldkiaodkpaa
end Go.Proofs.Ytmfnldkiaodkpaa.Vm

namespace Go.Proofs.Ytmfnldkiaodkpaa.Vm
open Go Go.Proofs Go.Proofs.Ytmfnldkiaodkpaa
end Go.Proofs.Ytmfnldkiaodkpaa.Vm

namespace Go.Proofs.Ytmfnldkiaodkpaa.Vm
open Go Go.Proofs Go.Proofs.Ytmfnldkiaodkpaa
set_option maxRecDepth 100000
end Go.Proofs.Ytmfnldkiaodkpaa.Vm

namespace Go.Proofs.Ytmfnldkiaodkpaa.Vm
open Go Go.Proofs Go.Proofs.Ytmfnldkiaodkpaa
end Go.Proofs.Ytmfnldkiaodkpaa.Vm
