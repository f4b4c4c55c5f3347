/- What functions of the program come to: parts of the walk (Pc). -/
import Derived.Test.YtmfnldkiaodkpaaPw
import Derived.KernelRfl
import Derived.Test.YtmfnldkiaodkpaaProg
set_option linter.unusedSimpArgs false
set_option linter.unusedVariables false
namespace Go.Proofs.Ytmfnldkiaodkpaa.Vm
open Go Go.Proofs Go.Proofs.Ytmfnldkiaodkpaa
set_option maxRecDepth 100000
theorem run63a   :
    Contract0 Try.prog 83 [(.c (.int .u64 1152921487695413247)), (.c (.int .i64 8))] [] 1 (.c (.sl 33 0 0 8 1)) [] [(33, (.one ⟨true, true, (.ints .u8 [255, 255, 255, 15, 252, 255, 255, 15])⟩))] :=
  Contract0.norm_up (up := [(33, (.one ⟨true, true, (.ints .u8 [255, 255, 255, 15, 252, 255, 255, 15])⟩))]) (Contract0.of_frun (fn := Try.f83) (c := bodyOf Try.f83) (fuel := 300) (k := kOf Try.prog Try.f83) (outs := [33]) (hs := [])
    (cs := [])
    mixed Try.func83 (by kernel_rfl) (by kernel_rfl) (by kernel_rfl) rfl (by kernel_rfl) trivial) (by kernel_rfl)
theorem run63b   :
    Contract0 Try.prog 83 [(.c (.int .u64 1152921487695413244)), (.c (.int .i64 8))] [] 1 (.c (.sl 33 0 0 8 1)) [] [(33, (.one ⟨true, true, (.ints .u8 [252, 255, 255, 15, 252, 255, 255, 15])⟩))] :=
  Contract0.norm_up (up := [(33, (.one ⟨true, true, (.ints .u8 [252, 255, 255, 15, 252, 255, 255, 15])⟩))]) (Contract0.of_frun (fn := Try.f83) (c := bodyOf Try.f83) (fuel := 300) (k := kOf Try.prog Try.f83) (outs := [33]) (hs := [])
    (cs := [])
    mixed Try.func83 (by kernel_rfl) (by kernel_rfl) (by kernel_rfl) rfl (by kernel_rfl) trivial) (by kernel_rfl)
theorem run38a
    (c1 : Contract0 Try.prog 83 [(.c (.int .u64 1152921487695413247)), (.c (.int .i64 8))] [] 1 (.c (.sl 33 0 0 8 1)) [] [(33, (.one ⟨true, true, (.ints .u8 [255, 255, 255, 15, 252, 255, 255, 15])⟩))])   :
    Contract0 Try.prog 58 [(.c (.int .u64 1152921487695413247))] [] 1 (.c (.sl 33 0 0 8 1)) [] [(33, (.one ⟨true, true, (.ints .u8 [255, 255, 255, 15, 252, 255, 255, 15])⟩))] :=
  Contract0.norm_up (up := [(33, (.one ⟨true, true, (.ints .u8 [255, 255, 255, 15, 252, 255, 255, 15])⟩))]) (Contract0.of_frun (fn := Try.f58) (c := bodyOf Try.f58) (fuel := 300) (k := kOf Try.prog Try.f58) (outs := [33]) (hs := [(2, ⟨.call [] (.c (.sl 33 0 0 8 1)) [] [(33, (.one ⟨true, true, (.ints .u8 [255, 255, 255, 15, 252, 255, 255, 15])⟩))], none⟩)])
    (cs := [Contract Try.prog 83 [(.c (.int .u64 1152921487695413247)), (.c (.int .i64 8))] [] 33 (.c (.sl 33 0 0 8 1)) [] [(33, (.one ⟨true, true, (.ints .u8 [255, 255, 255, 15, 252, 255, 255, 15])⟩))]])
    mixed Try.func58 (by kernel_rfl) (by kernel_rfl) (by kernel_rfl) rfl (by kernel_rfl) ⟨c1.gen [] [(33, 33)] [] (by kernel_rfl) (by kernel_rfl) rfl (by kernel_rfl) rfl rfl (by kernel_rfl) rfl rfl (by kernel_rfl), trivial⟩) (by kernel_rfl)
theorem run38b
    (c1 : Contract0 Try.prog 83 [(.c (.int .u64 1152921487695413244)), (.c (.int .i64 8))] [] 1 (.c (.sl 33 0 0 8 1)) [] [(33, (.one ⟨true, true, (.ints .u8 [252, 255, 255, 15, 252, 255, 255, 15])⟩))])   :
    Contract0 Try.prog 58 [(.c (.int .u64 1152921487695413244))] [] 1 (.c (.sl 33 0 0 8 1)) [] [(33, (.one ⟨true, true, (.ints .u8 [252, 255, 255, 15, 252, 255, 255, 15])⟩))] :=
  Contract0.norm_up (up := [(33, (.one ⟨true, true, (.ints .u8 [252, 255, 255, 15, 252, 255, 255, 15])⟩))]) (Contract0.of_frun (fn := Try.f58) (c := bodyOf Try.f58) (fuel := 300) (k := kOf Try.prog Try.f58) (outs := [33]) (hs := [(2, ⟨.call [] (.c (.sl 33 0 0 8 1)) [] [(33, (.one ⟨true, true, (.ints .u8 [252, 255, 255, 15, 252, 255, 255, 15])⟩))], none⟩)])
    (cs := [Contract Try.prog 83 [(.c (.int .u64 1152921487695413244)), (.c (.int .i64 8))] [] 33 (.c (.sl 33 0 0 8 1)) [] [(33, (.one ⟨true, true, (.ints .u8 [252, 255, 255, 15, 252, 255, 255, 15])⟩))]])
    mixed Try.func58 (by kernel_rfl) (by kernel_rfl) (by kernel_rfl) rfl (by kernel_rfl) ⟨c1.gen [] [(33, 33)] [] (by kernel_rfl) (by kernel_rfl) rfl (by kernel_rfl) rfl rfl (by kernel_rfl) rfl rfl (by kernel_rfl), trivial⟩) (by kernel_rfl)
theorem run37   :
    Contract0 Try.prog 57 [(.c (.sl 1 0 0 2 1))] [(1, (.one ⟨false, true, (.cells [(.sl 2 0 0 8 1), (.sl 3 0 0 8 1)])⟩)), (2, (.one ⟨false, true, (.ints .u8 [255, 255, 255, 15, 252, 255, 255, 15])⟩)), (3, (.one ⟨false, true, (.ints .u8 [252, 255, 255, 15, 252, 255, 255, 15])⟩))] 4 (.c (.sl 356 0 0 16 1)) [] [(356, (.one ⟨true, false, (.ints .u8 [255, 255, 255, 15, 252, 255, 255, 15, 252, 255, 255, 15, 252, 255, 255, 15])⟩))] :=
  Contract0.norm_up (up := [(356, (.one ⟨true, false, (.ints .u8 [255, 255, 255, 15, 252, 255, 255, 15, 252, 255, 255, 15, 252, 255, 255, 15])⟩))]) (Contract0.of_frun (fn := Try.f57) (c := bodyOf Try.f57) (fuel := 300) (k := kOf Try.prog Try.f57) (outs := [356]) (hs := [])
    (cs := [])
    mixed Try.func57 (by kernel_rfl) (by kernel_rfl) (by kernel_rfl) rfl (by kernel_rfl) trivial) (by kernel_rfl)
end Go.Proofs.Ytmfnldkiaodkpaa.Vm
