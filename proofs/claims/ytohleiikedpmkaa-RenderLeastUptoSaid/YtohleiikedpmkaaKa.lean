/- What functions of the program come to: parts of the walk (Ka). -/
import Derived.Test.YtohleiikedpmkaaWd
import Derived.KernelRfl
import Derived.Test.YtohleiikedpmkaaProg
set_option linter.unusedSimpArgs false
set_option linter.unusedVariables false
namespace Go.Proofs.Ytohleiikedpmkaa.Vm
open Go Go.Proofs Go.Proofs.Ytohleiikedpmkaa
set_option maxRecDepth 100000
theorem kcell97 :
    PureF Try.prog 50 [(.agg [(.int .i32 97), (.int .i64 0), (.int .i64 0), (.int .i64 0)])] (.c (.bool (true))) :=
  Contract0.fr 300 [] [] [] mixed Try.func50 (by kernel_rfl) trivial
theorem kcell98 :
    PureF Try.prog 50 [(.agg [(.int .i32 98), (.int .i64 0), (.int .i64 0), (.int .i64 0)])] (.c (.bool (true))) :=
  Contract0.fr 300 [] [] [] mixed Try.func50 (by kernel_rfl) trivial
theorem kcell99 :
    PureF Try.prog 50 [(.agg [(.int .i32 99), (.int .i64 0), (.int .i64 0), (.int .i64 0)])] (.c (.bool (true))) :=
  Contract0.fr 300 [] [] [] mixed Try.func50 (by kernel_rfl) trivial
theorem kcell88 :
    PureF Try.prog 50 [(.agg [(.int .i32 88), (.int .i64 0), (.int .i64 0), (.int .i64 0)])] (.c (.bool (true))) :=
  Contract0.fr 300 [] [] [] mixed Try.func50 (by kernel_rfl) trivial
theorem kcell89 :
    PureF Try.prog 50 [(.agg [(.int .i32 89), (.int .i64 0), (.int .i64 0), (.int .i64 0)])] (.c (.bool (true))) :=
  Contract0.fr 300 [] [] [] mixed Try.func50 (by kernel_rfl) trivial
end Go.Proofs.Ytohleiikedpmkaa.Vm

namespace Go.Proofs.Ytohleiikedpmkaa.Vm
open Go Go.Proofs Go.Proofs.Ytohleiikedpmkaa
set_option maxRecDepth 100000
theorem kcel_97 :
    PureF Try.prog 49 [(.agg [(.int .i32 97), (.int .i64 0), (.int .i64 0), (.int .i64 0)])] (.c (.bool (false))) :=
  Contract0.fr 300 [(3, ⟨.call [] (.c (.bool (true))) [] [], none⟩)] [] [Contract Try.prog 50 [(.agg [(.int .i32 97), (.int .i64 0), (.int .i64 0), (.int .i64 0)])] [] 49 (.c (.bool (true))) [] []] mixed Try.func49 (by kernel_rfl) ⟨Contract0.in1 kcell97 [] [none] [] [] (by kernel_rfl), trivial⟩
theorem kcel_98 :
    PureF Try.prog 49 [(.agg [(.int .i32 98), (.int .i64 0), (.int .i64 0), (.int .i64 0)])] (.c (.bool (false))) :=
  Contract0.fr 300 [(3, ⟨.call [] (.c (.bool (true))) [] [], none⟩)] [] [Contract Try.prog 50 [(.agg [(.int .i32 98), (.int .i64 0), (.int .i64 0), (.int .i64 0)])] [] 49 (.c (.bool (true))) [] []] mixed Try.func49 (by kernel_rfl) ⟨Contract0.in1 kcell98 [] [none] [] [] (by kernel_rfl), trivial⟩
theorem kcel_99 :
    PureF Try.prog 49 [(.agg [(.int .i32 99), (.int .i64 0), (.int .i64 0), (.int .i64 0)])] (.c (.bool (false))) :=
  Contract0.fr 300 [(3, ⟨.call [] (.c (.bool (true))) [] [], none⟩)] [] [Contract Try.prog 50 [(.agg [(.int .i32 99), (.int .i64 0), (.int .i64 0), (.int .i64 0)])] [] 49 (.c (.bool (true))) [] []] mixed Try.func49 (by kernel_rfl) ⟨Contract0.in1 kcell99 [] [none] [] [] (by kernel_rfl), trivial⟩
theorem kcel_88 :
    PureF Try.prog 49 [(.agg [(.int .i32 88), (.int .i64 0), (.int .i64 0), (.int .i64 0)])] (.c (.bool (false))) :=
  Contract0.fr 300 [(3, ⟨.call [] (.c (.bool (true))) [] [], none⟩)] [] [Contract Try.prog 50 [(.agg [(.int .i32 88), (.int .i64 0), (.int .i64 0), (.int .i64 0)])] [] 49 (.c (.bool (true))) [] []] mixed Try.func49 (by kernel_rfl) ⟨Contract0.in1 kcell88 [] [none] [] [] (by kernel_rfl), trivial⟩
theorem kcel_89 :
    PureF Try.prog 49 [(.agg [(.int .i32 89), (.int .i64 0), (.int .i64 0), (.int .i64 0)])] (.c (.bool (false))) :=
  Contract0.fr 300 [(3, ⟨.call [] (.c (.bool (true))) [] [], none⟩)] [] [Contract Try.prog 50 [(.agg [(.int .i32 89), (.int .i64 0), (.int .i64 0), (.int .i64 0)])] [] 49 (.c (.bool (true))) [] []] mixed Try.func49 (by kernel_rfl) ⟨Contract0.in1 kcell89 [] [none] [] [] (by kernel_rfl), trivial⟩
end Go.Proofs.Ytohleiikedpmkaa.Vm
