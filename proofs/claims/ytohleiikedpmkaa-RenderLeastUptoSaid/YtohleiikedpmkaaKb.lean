/- What functions of the program come to: parts of the walk (Kb). -/
import Derived.Test.YtohleiikedpmkaaKa
import Derived.Test.YtohleiikedpmkaaGa
import Derived.KernelRfl
import Derived.Test.YtohleiikedpmkaaProg
set_option linter.unusedSimpArgs false
set_option linter.unusedVariables false
namespace Go.Proofs.Ytohleiikedpmkaa.Vm
open Go Go.Proofs Go.Proofs.Ytohleiikedpmkaa
set_option maxRecDepth 100000
theorem kidx_abc :
    Contract0 Try.prog 54 [(.c (.sl 1 0 0 3 4)), (.c (.fn 49 []))] [(1, (.one ⟨false, false, (.cells [(.int .i32 97), (.int .i64 0), (.int .i64 0), (.int .i64 0), (.int .i32 98), (.int .i64 0), (.int .i64 0), (.int .i64 0), (.int .i32 99), (.int .i64 0), (.int .i64 0), (.int .i64 0)])⟩))] 2 (.c (.int .i64 (-1))) [] [] :=
  Contract0.fr 300 [(13, ⟨.call [] (.c (.bool (false))) [] [], none⟩), (26, ⟨.call [] (.c (.bool (false))) [] [], none⟩), (39, ⟨.call [] (.c (.bool (false))) [] [], none⟩)] [] [Contract Try.prog 49 [(.agg [(.int .i32 99), (.int .i64 0), (.int .i64 0), (.int .i64 0)])] [] 546 (.c (.bool (false))) [] [],
      Contract Try.prog 49 [(.agg [(.int .i32 98), (.int .i64 0), (.int .i64 0), (.int .i64 0)])] [] 370 (.c (.bool (false))) [] [],
      Contract Try.prog 49 [(.agg [(.int .i32 97), (.int .i64 0), (.int .i64 0), (.int .i64 0)])] [] 194 (.c (.bool (false))) [] []] mixed Try.func54 (by kernel_rfl) ⟨Contract0.in1 kcel_99 [] [none] [] [] (by kernel_rfl), Contract0.in1 kcel_98 [] [none] [] [] (by kernel_rfl), Contract0.in1 kcel_97 [] [none] [] [] (by kernel_rfl), trivial⟩
theorem kidx_aXY :
    Contract0 Try.prog 54 [(.c (.sl 1 0 0 3 4)), (.c (.fn 49 []))] [(1, (.one ⟨false, false, (.cells [(.int .i32 97), (.int .i64 0), (.int .i64 0), (.int .i64 0), (.int .i32 88), (.int .i64 0), (.int .i64 0), (.int .i64 0), (.int .i32 89), (.int .i64 0), (.int .i64 0), (.int .i64 0)])⟩))] 2 (.c (.int .i64 (-1))) [] [] :=
  Contract0.fr 300 [(13, ⟨.call [] (.c (.bool (false))) [] [], none⟩), (26, ⟨.call [] (.c (.bool (false))) [] [], none⟩), (39, ⟨.call [] (.c (.bool (false))) [] [], none⟩)] [] [Contract Try.prog 49 [(.agg [(.int .i32 89), (.int .i64 0), (.int .i64 0), (.int .i64 0)])] [] 546 (.c (.bool (false))) [] [],
      Contract Try.prog 49 [(.agg [(.int .i32 88), (.int .i64 0), (.int .i64 0), (.int .i64 0)])] [] 370 (.c (.bool (false))) [] [],
      Contract Try.prog 49 [(.agg [(.int .i32 97), (.int .i64 0), (.int .i64 0), (.int .i64 0)])] [] 194 (.c (.bool (false))) [] []] mixed Try.func54 (by kernel_rfl) ⟨Contract0.in1 kcel_89 [] [none] [] [] (by kernel_rfl), Contract0.in1 kcel_88 [] [none] [] [] (by kernel_rfl), Contract0.in1 kcel_97 [] [none] [] [] (by kernel_rfl), trivial⟩
end Go.Proofs.Ytohleiikedpmkaa.Vm

namespace Go.Proofs.Ytohleiikedpmkaa.Vm
open Go Go.Proofs Go.Proofs.Ytohleiikedpmkaa
set_option maxRecDepth 100000
theorem kcont_abc :
    Contract0 Try.prog 48 [(.c (.sl 1 0 0 3 4)), (.c (.fn 49 []))] [(1, (.one ⟨false, false, (.cells [(.int .i32 97), (.int .i64 0), (.int .i64 0), (.int .i64 0), (.int .i32 98), (.int .i64 0), (.int .i64 0), (.int .i64 0), (.int .i32 99), (.int .i64 0), (.int .i64 0), (.int .i64 0)])⟩))] 2 (.c (.bool (false))) [] [] :=
  Contract0.fr 300 [(3, ⟨.call [1] (.c (.int .i64 (-1))) [] [], none⟩)] [] [Contract Try.prog 54 [(.c (.sl 1 0 0 3 4)), (.c (.fn 49 []))] [(1, (.one ⟨false, false, (.cells [(.int .i32 97), (.int .i64 0), (.int .i64 0), (.int .i64 0), (.int .i32 98), (.int .i64 0), (.int .i64 0), (.int .i64 0), (.int .i32 99), (.int .i64 0), (.int .i64 0), (.int .i64 0)])⟩))] 50 (.c (.int .i64 (-1))) [] []] mixed Try.func48 (by kernel_rfl) ⟨Contract0.in1 kidx_abc [.b 1 1 true []] [none, none] [] [] (by kernel_rfl), trivial⟩
theorem kcont_aXY :
    Contract0 Try.prog 48 [(.c (.sl 1 0 0 3 4)), (.c (.fn 49 []))] [(1, (.one ⟨false, false, (.cells [(.int .i32 97), (.int .i64 0), (.int .i64 0), (.int .i64 0), (.int .i32 88), (.int .i64 0), (.int .i64 0), (.int .i64 0), (.int .i32 89), (.int .i64 0), (.int .i64 0), (.int .i64 0)])⟩))] 2 (.c (.bool (false))) [] [] :=
  Contract0.fr 300 [(3, ⟨.call [1] (.c (.int .i64 (-1))) [] [], none⟩)] [] [Contract Try.prog 54 [(.c (.sl 1 0 0 3 4)), (.c (.fn 49 []))] [(1, (.one ⟨false, false, (.cells [(.int .i32 97), (.int .i64 0), (.int .i64 0), (.int .i64 0), (.int .i32 88), (.int .i64 0), (.int .i64 0), (.int .i64 0), (.int .i32 89), (.int .i64 0), (.int .i64 0), (.int .i64 0)])⟩))] 50 (.c (.int .i64 (-1))) [] []] mixed Try.func48 (by kernel_rfl) ⟨Contract0.in1 kidx_aXY [.b 1 1 true []] [none, none] [] [] (by kernel_rfl), trivial⟩
theorem kblank :
    Contract0 Try.prog 22 [(.c (.int .i64 1)), (.c (.int .i64 3))] [] 1 (.agg [(.int .i64 1), (.int .i64 3), (.sl 1 0 0 1 1), (.int .i64 0), (.int .i64 0), (.bool (false))]) [] [(1, (.one ⟨true, false, (.cells [(.sl 2 0 0 3 4)])⟩)), (2, (.one ⟨true, true, (.cells [(.int .i32 32), (.int .i64 0), (.int .i64 0), (.int .i64 0), (.int .i32 32), (.int .i64 0), (.int .i64 0), (.int .i64 0), (.int .i32 32), (.int .i64 0), (.int .i64 0), (.int .i64 0)])⟩))] :=
  Contract0.renum (Contract0.of_frun (res := (.agg [(.int .i64 1), (.int .i64 3), (.sl 353 0 0 1 1), (.int .i64 0), (.int .i64 0), (.bool (false))])) (up := [(353, (.one ⟨true, false, (.cells [(.sl 321 0 0 3 4)])⟩)), (321, (.one ⟨true, true, (.cells [(.int .i32 32), (.int .i64 0), (.int .i64 0), (.int .i64 0), (.int .i32 32), (.int .i64 0), (.int .i64 0), (.int .i64 0), (.int .i32 32), (.int .i64 0), (.int .i64 0), (.int .i64 0)])⟩))]) (kill := []) (n0 := 1) (m := []) (args := [(.c (.int .i64 1)), (.c (.int .i64 3))]) (fn := Try.f22) (c := bodyOf Try.f22) (fuel := 300) (k := kOf Try.prog Try.f22) (outs := [353, 321]) (hs := [(21, ⟨.call [273] (.c (.sl 321 0 0 3 4)) [] [(321, (.one ⟨true, true, (.cells [(.int .i32 32), (.int .i64 0), (.int .i64 0), (.int .i64 0), (.int .i32 32), (.int .i64 0), (.int .i64 0), (.int .i64 0), (.int .i32 32), (.int .i64 0), (.int .i64 0), (.int .i64 0)])⟩))], none⟩)])
    (cs := [Contract Try.prog 39 [(.c (.sl 273 0 0 1 4)), (.c (.int .i64 3))] [(273, (.one ⟨true, true, (.cells [(.int .i32 32), (.int .i64 0), (.int .i64 0), (.int .i64 0)])⟩))] 321 (.c (.sl 321 0 0 3 4)) [] [(321, (.one ⟨true, true, (.cells [(.int .i32 32), (.int .i64 0), (.int .i64 0), (.int .i64 0), (.int .i32 32), (.int .i64 0), (.int .i64 0), (.int .i64 0), (.int .i32 32), (.int .i64 0), (.int .i64 0), (.int .i64 0)])⟩))]])
    mixed Try.func22 (by kernel_rfl) (by kernel_rfl) (by kernel_rfl) (by kernel_rfl) (by kernel_rfl) ⟨Contract0.in1 krepeat [.b 273 1 true []] [none, none] [(2, 321)] [] (by kernel_rfl), trivial⟩) [] [] [(353, 1), (321, 2)] [] (by kernel_rfl) (by kernel_rfl) (by kernel_rfl) (by kernel_rfl) (by kernel_rfl)
end Go.Proofs.Ytohleiikedpmkaa.Vm
