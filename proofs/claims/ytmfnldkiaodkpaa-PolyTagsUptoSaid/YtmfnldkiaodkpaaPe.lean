/- What functions of the program come to: parts of the walk (Pe). -/
import Derived.Test.YtmfnldkiaodkpaaPc
import Derived.Test.YtmfnldkiaodkpaaPd
import Derived.KernelRfl
import Derived.Test.YtmfnldkiaodkpaaProg
import Derived.Test.YtmfnldkiaodkpaaPw
import Derived.Test.YtmfnldkiaodkpaaPb
import Derived.Test.YtmfnldkiaodkpaaVmb
set_option linter.unusedSimpArgs false
set_option linter.unusedVariables false
namespace Go.Proofs.Ytmfnldkiaodkpaa.Vm
open Go Go.Proofs Go.Proofs.Ytmfnldkiaodkpaa
theorem run38a_ok : Contract0 Try.prog 58 [(.c (.int .u64 1152921487695413247))] [] 1 (.c (.sl 33 0 0 8 1)) [] [(33, (.one ⟨true, true, (.ints .u8 [255, 255, 255, 15, 252, 255, 255, 15])⟩))] := run38a run63a
theorem run38b_ok : Contract0 Try.prog 58 [(.c (.int .u64 1152921487695413244))] [] 1 (.c (.sl 33 0 0 8 1)) [] [(33, (.one ⟨true, true, (.ints .u8 [252, 255, 255, 15, 252, 255, 255, 15])⟩))] := run38b run63b
theorem run47_ok : PureF Try.prog 55 [(.c (.str ({ data := { toList := [56, 53, 100, 54, 98, 101, 55, 56, 53, 55, 53, 53, 54, 100, 51, 51, 55, 102, 52, 52, 53, 50, 102, 101, 52, 50, 100, 53, 48, 54, 97, 56, 48, 49, 48, 51, 56, 48, 56, 97, 102, 98, 48, 100, 98, 50, 102, 100, 52, 97, 98, 102, 102, 54, 97, 102, 52, 49, 52, 57, 102, 53, 49, 98] } })))] (.aggi .u8 [133, 214, 190, 120, 87, 85, 109, 51, 127, 68, 82, 254, 66, 213, 6, 168, 1, 3, 128, 138, 251, 13, 178, 253, 74, 191, 246, 175, 65, 73, 245, 27]) := run47 run48b
theorem k45_2_ok : PureF Try.prog 61 [(.aggi .u64 [0, 0, 0, 0, 0])] (.aggi .u64 [0, 0, 0, 0, 0]) := k45_2 k64_12 k64_12 k64_12
theorem run18n_ok : PureF Try.prog 18 [(.aggi .u8 [133, 214, 190, 120, 87, 85, 109, 51, 127, 68, 82, 254, 66, 213, 6, 168, 1, 3, 128, 138, 251, 13, 178, 253, 74, 191, 246, 175, 65, 73, 245, 27]), (.c .nils)] (.aggi .u8 [1, 3, 128, 138, 251, 13, 178, 253, 74, 191, 246, 175, 65, 73, 245, 27]) := run18n run38a_ok run38b_ok run37 k43_1 k45_2_ok k46_3
theorem k44_5_ok : PureF Try.prog 60 [(.aggi .u64 [7959107, 31186204, 50730790, 26060193, 24069664]), (.aggi .u64 [12506757, 55923970, 4702262, 16791881, 526037])] (.aggi .u64 [43811836, 58384953, 48829565, 34764178, 46697591]) := k44_5 k64_13
theorem k44_7_ok : PureF Try.prog 60 [(.aggi .u64 [50985326, 72627905, 101657300, 43259679, 70778558]), (.aggi .u64 [12506757, 55923970, 4702262, 16791881, 526037])] (.aggi .u64 [4927710, 65878669, 66747596, 9355469, 47754671]) := k44_7 k64_14
theorem k44_9_ok : PureF Try.prog 60 [(.aggi .u64 [5022035, 65878669, 66747596, 9355469, 47754671]), (.aggi .u64 [12506757, 55923970, 4702262, 16791881, 526037])] (.aggi .u64 [43844519, 17878349, 46627976, 53214801, 42807735]) := k44_9 k64_15
theorem k45_10_ok : PureF Try.prog 61 [(.aggi .u64 [43844519, 17878349, 46627976, 53214801, 42807735])] (.aggi .u64 [43844519, 17878349, 46627976, 53214801, 42807735]) := k45_10 k64_16 k64_16 k64_16
theorem run18x_ok : Contract0 Try.prog 18 [(.aggi .u8 [133, 214, 190, 120, 87, 85, 109, 51, 127, 68, 82, 254, 66, 213, 6, 168, 1, 3, 128, 138, 251, 13, 178, 253, 74, 191, 246, 175, 65, 73, 245, 27]), (.c (.sl 1 0 0 34 1))] [(1, (.one ⟨false, true, (.ints .u8 [67, 114, 121, 112, 116, 111, 103, 114, 97, 112, 104, 105, 99, 32, 70, 111, 114, 117, 109, 32, 82, 101, 115, 101, 97, 114, 99, 104, 32, 71, 114, 111, 117, 112])⟩))] 2 (.aggi .u8 [168, 6, 29, 193, 48, 81, 54, 198, 194, 43, 139, 175, 12, 1, 39, 169]) [] [] := run18x run38a_ok run38b_ok run37 k43_1 k43_4 k44_5_ok k43_6 k44_7_ok k43_8 k44_9_ok k45_10_ok k46_11
theorem run19_ok : PureF Try.prog 17 [] (.c (.bool (true))) := run19 run47_ok run18n_ok run18x_ok run48a
end Go.Proofs.Ytmfnldkiaodkpaa.Vm

namespace Go.Proofs.Ytmfnldkiaodkpaa.Vm
open Go Go.Proofs Go.Proofs.Ytmfnldkiaodkpaa
set_option maxRecDepth 100000
end Go.Proofs.Ytmfnldkiaodkpaa.Vm

namespace Go.Proofs.Ytmfnldkiaodkpaa.Vm
open Go Go.Proofs Go.Proofs.Ytmfnldkiaodkpaa
def I64p (a : Int) : Prop := -9223372036854775808 ≤ a ∧ a < 9223372036854775808
theorem wrapP {a : Int} (h : I64p a) : IntKind.i64.wrap a = a := by
  rw [IntKind.wrap_i64]; unfold I64p at h; omega
theorem off_eqP (i : Nat) : addO 0 (mulE i 1) = i := by
  rw [addO_eq]; simp [mulE]
theorem mulE1 (i : Nat) : mulE i 1 = i := by simp [mulE]
theorem w1 {s : Int} (h : 0 ≤ s ∧ s < 256) : IntKind.wrap IntKind.i64 s = s := wrapP (by unfold I64p; omega)
theorem w2 {s : Int} (h : 0 ≤ s ∧ s < 256) : IntKind.wrap IntKind.i64 (0 + s) = s := by rw [Int.zero_add]; exact w1 h
end Go.Proofs.Ytmfnldkiaodkpaa.Vm

namespace Go.Proofs.Ytmfnldkiaodkpaa.Vm
open Go Go.Proofs Go.Proofs.Ytmfnldkiaodkpaa
end Go.Proofs.Ytmfnldkiaodkpaa.Vm
