/- What functions of the program come to: parts of the walk (Ca). -/
import Derived.Test.YtmfnldkiaodkpaaOe
import Derived.Test.YtmfnldkiaodkpaaVmc
import Derived.KernelRfl
import Derived.Test.YtmfnldkiaodkpaaProg
set_option linter.unusedSimpArgs false
set_option linter.unusedVariables false
namespace Go.Proofs.Ytmfnldkiaodkpaa.Vm
open Go Go.Proofs Go.Proofs.Ytmfnldkiaodkpaa
set_option maxRecDepth 100000
theorem cnew :
    Contract0 Try.prog 27 [] [] 1 (.c (.ptr 1 0 0)) [] [(1, (.one ⟨true, true, (.cells ((W.bts 0).map (C.int .u8) ++ [(.bool (false)), (.int .u64 0)]))⟩))] :=
  Contract0.renum (Contract0.of_frun (res := (.c (.ptr 33 0 0))) (up := [(33, (.one ⟨true, true, (.cells ((W.bts 0).map (C.int .u8) ++ [(.bool (false)), (.int .u64 0)]))⟩))]) (kill := []) (n0 := 1) (m := []) (args := []) (fn := Try.f27) (c := bodyOf Try.f27) (fuel := 300) (k := kOf Try.prog Try.f27) (outs := [33]) (hs := [])
    (cs := [])
    mixed Try.func27 (by kernel_rfl) (by kernel_rfl) (by kernel_rfl) (by kernel_rfl) (by kernel_rfl) trivial) [] [] [(33, 1)] [] (by kernel_rfl) (by kernel_rfl) (by kernel_rfl) (by kernel_rfl) (by kernel_rfl)


theorem chas (h : Bool) (n k0 k1 k2 k3 k4 k5 k6 k7 k8 k9 k10 k11 k12 k13 k14 k15 k16 k17 k18 k19 k20 k21 k22 k23 k24 k25 k26 k27 k28 k29 k30 k31 : Int) :
    Contract0 Try.prog 70 [(.c (.ptr 1 0 0))] [(1, (.one ⟨false, false, (.cells [(.int .u8 k0), (.int .u8 k1), (.int .u8 k2), (.int .u8 k3), (.int .u8 k4), (.int .u8 k5), (.int .u8 k6), (.int .u8 k7), (.int .u8 k8), (.int .u8 k9), (.int .u8 k10), (.int .u8 k11), (.int .u8 k12), (.int .u8 k13), (.int .u8 k14), (.int .u8 k15), (.int .u8 k16), (.int .u8 k17), (.int .u8 k18), (.int .u8 k19), (.int .u8 k20), (.int .u8 k21), (.int .u8 k22), (.int .u8 k23), (.int .u8 k24), (.int .u8 k25), (.int .u8 k26), (.int .u8 k27), (.int .u8 k28), (.int .u8 k29), (.int .u8 k30), (.int .u8 k31), (.bool h), (.int .u64 n)])⟩))] 2 (.c (.bool h)) [] [] :=
  Contract0.of_frun (res := (.c (.bool h))) (up := []) (kill := []) (n0 := 2) (m := [(1, (.one ⟨false, false, (.cells [(.int .u8 k0), (.int .u8 k1), (.int .u8 k2), (.int .u8 k3), (.int .u8 k4), (.int .u8 k5), (.int .u8 k6), (.int .u8 k7), (.int .u8 k8), (.int .u8 k9), (.int .u8 k10), (.int .u8 k11), (.int .u8 k12), (.int .u8 k13), (.int .u8 k14), (.int .u8 k15), (.int .u8 k16), (.int .u8 k17), (.int .u8 k18), (.int .u8 k19), (.int .u8 k20), (.int .u8 k21), (.int .u8 k22), (.int .u8 k23), (.int .u8 k24), (.int .u8 k25), (.int .u8 k26), (.int .u8 k27), (.int .u8 k28), (.int .u8 k29), (.int .u8 k30), (.int .u8 k31), (.bool h), (.int .u64 n)])⟩))]) (args := [(.c (.ptr 1 0 0))]) (fn := Try.f70) (c := bodyOf Try.f70) (fuel := 300) (k := kOf Try.prog Try.f70) (outs := []) (hs := [])
    (cs := [])
    mixed Try.func70 (by kernel_rfl) (by kernel_rfl) (by kernel_rfl) (by kernel_rfl) (by kernel_rfl) trivial


end Go.Proofs.Ytmfnldkiaodkpaa.Vm
