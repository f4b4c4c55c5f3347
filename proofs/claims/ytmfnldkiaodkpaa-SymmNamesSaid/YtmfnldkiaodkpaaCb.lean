/- What functions of the program come to: parts of the walk (Cb). -/
import Derived.Test.YtmfnldkiaodkpaaCa
import Derived.KernelRfl
import Derived.Test.YtmfnldkiaodkpaaProg
import Derived.Test.YtmfnldkiaodkpaaVmc
import Derived.Test.YtmfnldkiaodkpaaOa
set_option linter.unusedSimpArgs false
set_option linter.unusedVariables false
namespace Go.Proofs.Ytmfnldkiaodkpaa.Vm
open Go Go.Proofs Go.Proofs.Ytmfnldkiaodkpaa
set_option maxRecDepth 100000
end Go.Proofs.Ytmfnldkiaodkpaa.Vm

namespace Go.Proofs.Ytmfnldkiaodkpaa.W
end Go.Proofs.Ytmfnldkiaodkpaa.W
namespace Go.Proofs.Ytmfnldkiaodkpaa.Vm
open Go Go.Proofs Go.Proofs.Ytmfnldkiaodkpaa
end Go.Proofs.Ytmfnldkiaodkpaa.Vm

namespace Go.Proofs.Ytmfnldkiaodkpaa.Vm
open Go Go.Proofs Go.Proofs.Ytmfnldkiaodkpaa
set_option maxRecDepth 100000
end Go.Proofs.Ytmfnldkiaodkpaa.Vm

namespace Go.Proofs.Ytmfnldkiaodkpaa.Vm
open Go Go.Proofs Go.Proofs.Ytmfnldkiaodkpaa
theorem key_bts {k : List Int} (hk : k.length = 32) (hkb : W.bytes k) : k = W.bts (W.num k) := by
  rw [W.bts_le]
  have := W.le_num hkb
  rw [hk] at this; exact this.symm
end Go.Proofs.Ytmfnldkiaodkpaa.Vm
namespace Go.Proofs.Ytmfnldkiaodkpaa.W
open Go Go.Proofs.Ytmfnldkiaodkpaa.Vm
end Go.Proofs.Ytmfnldkiaodkpaa.W

namespace Go.Proofs.Ytmfnldkiaodkpaa.W
open Go Go.Proofs.Ytmfnldkiaodkpaa.Vm
end Go.Proofs.Ytmfnldkiaodkpaa.W
