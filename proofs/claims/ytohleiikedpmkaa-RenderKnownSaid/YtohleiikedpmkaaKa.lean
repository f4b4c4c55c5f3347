/- What functions of the program come to: parts of the walk (Ka). -/
import Derived.Test.YtohleiikedpmkaaWd
import Derived.KernelRfl
import Derived.Test.YtohleiikedpmkaaProg
set_option linter.unusedSimpArgs false
set_option linter.unusedVariables false
namespace Go.Proofs.Ytohleiikedpmkaa.Vm
open Go Go.Proofs Go.Proofs.Ytohleiikedpmkaa
set_option maxRecDepth 100000
theorem kmul64 :
    PureF Try.prog 56 [(.c (.int .u64 1)), (.c (.int .u64 3))] (.tup [(.c (.int .u64 0)), (.c (.int .u64 3))]) :=
  Contract0.fr 300 [] [] [] mixed Try.func56 (by kernel_rfl) trivial
theorem kcell97 :
    PureF Try.prog 50 [(.agg [(.int .i32 97), (.int .i64 0), (.int .i64 0), (.int .i64 0)])] (.c (.bool (true))) :=
  Contract0.fr 300 [] [] [] mixed Try.func50 (by kernel_rfl) trivial
theorem kcell98 :
    PureF Try.prog 50 [(.agg [(.int .i32 98), (.int .i64 0), (.int .i64 0), (.int .i64 0)])] (.c (.bool (true))) :=
  Contract0.fr 300 [] [] [] mixed Try.func50 (by kernel_rfl) trivial
theorem kcell99 :
    PureF Try.prog 50 [(.agg [(.int .i32 99), (.int .i64 0), (.int .i64 0), (.int .i64 0)])] (.c (.bool (true))) :=
  Contract0.fr 300 [] [] [] mixed Try.func50 (by kernel_rfl) trivial
theorem kcell88 :
    PureF Try.prog 50 [(.agg [(.int .i32 88), (.int .i64 0), (.int .i64 0), (.int .i64 0)])] (.c (.bool (true))) :=
  Contract0.fr 300 [] [] [] mixed Try.func50 (by kernel_rfl) trivial
theorem kcell89 :
    PureF Try.prog 50 [(.agg [(.int .i32 89), (.int .i64 0), (.int .i64 0), (.int .i64 0)])] (.c (.bool (true))) :=
  Contract0.fr 300 [] [] [] mixed Try.func50 (by kernel_rfl) trivial
end Go.Proofs.Ytohleiikedpmkaa.Vm

namespace Go.Proofs.Ytohleiikedpmkaa.Vm
open Go Go.Proofs Go.Proofs.Ytohleiikedpmkaa
set_option maxRecDepth 100000
theorem kmul :
    PureF Try.prog 51 [(.c (.int .u64 1)), (.c (.int .u64 3))] (.tup [(.c (.int .u64 0)), (.c (.int .u64 3))]) :=
  Contract0.fr 300 [(5, ⟨.call [] (.tup [(.c (.int .u64 0)), (.c (.int .u64 3))]) [] [], none⟩)] [] [Contract Try.prog 56 [(.c (.int .u64 1)), (.c (.int .u64 3))] [] 65 (.tup [(.c (.int .u64 0)), (.c (.int .u64 3))]) [] []] mixed Try.func51 (by kernel_rfl) ⟨Contract0.in1 kmul64 [] [none, none] [] [] (by kernel_rfl), trivial⟩
theorem kcel_97 :
    PureF Try.prog 49 [(.agg [(.int .i32 97), (.int .i64 0), (.int .i64 0), (.int .i64 0)])] (.c (.bool (false))) :=
  Contract0.fr 300 [(3, ⟨.call [] (.c (.bool (true))) [] [], none⟩)] [] [Contract Try.prog 50 [(.agg [(.int .i32 97), (.int .i64 0), (.int .i64 0), (.int .i64 0)])] [] 49 (.c (.bool (true))) [] []] mixed Try.func49 (by kernel_rfl) ⟨Contract0.in1 kcell97 [] [none] [] [] (by kernel_rfl), trivial⟩
theorem kcel_98 :
    PureF Try.prog 49 [(.agg [(.int .i32 98), (.int .i64 0), (.int .i64 0), (.int .i64 0)])] (.c (.bool (false))) :=
  Contract0.fr 300 [(3, ⟨.call [] (.c (.bool (true))) [] [], none⟩)] [] [Contract Try.prog 50 [(.agg [(.int .i32 98), (.int .i64 0), (.int .i64 0), (.int .i64 0)])] [] 49 (.c (.bool (true))) [] []] mixed Try.func49 (by kernel_rfl) ⟨Contract0.in1 kcell98 [] [none] [] [] (by kernel_rfl), trivial⟩
theorem kcel_99 :
    PureF Try.prog 49 [(.agg [(.int .i32 99), (.int .i64 0), (.int .i64 0), (.int .i64 0)])] (.c (.bool (false))) :=
  Contract0.fr 300 [(3, ⟨.call [] (.c (.bool (true))) [] [], none⟩)] [] [Contract Try.prog 50 [(.agg [(.int .i32 99), (.int .i64 0), (.int .i64 0), (.int .i64 0)])] [] 49 (.c (.bool (true))) [] []] mixed Try.func49 (by kernel_rfl) ⟨Contract0.in1 kcell99 [] [none] [] [] (by kernel_rfl), trivial⟩
theorem kcel_88 :
    PureF Try.prog 49 [(.agg [(.int .i32 88), (.int .i64 0), (.int .i64 0), (.int .i64 0)])] (.c (.bool (false))) :=
  Contract0.fr 300 [(3, ⟨.call [] (.c (.bool (true))) [] [], none⟩)] [] [Contract Try.prog 50 [(.agg [(.int .i32 88), (.int .i64 0), (.int .i64 0), (.int .i64 0)])] [] 49 (.c (.bool (true))) [] []] mixed Try.func49 (by kernel_rfl) ⟨Contract0.in1 kcell88 [] [none] [] [] (by kernel_rfl), trivial⟩
theorem kcel_89 :
    PureF Try.prog 49 [(.agg [(.int .i32 89), (.int .i64 0), (.int .i64 0), (.int .i64 0)])] (.c (.bool (false))) :=
  Contract0.fr 300 [(3, ⟨.call [] (.c (.bool (true))) [] [], none⟩)] [] [Contract Try.prog 50 [(.agg [(.int .i32 89), (.int .i64 0), (.int .i64 0), (.int .i64 0)])] [] 49 (.c (.bool (true))) [] []] mixed Try.func49 (by kernel_rfl) ⟨Contract0.in1 kcell89 [] [none] [] [] (by kernel_rfl), trivial⟩
end Go.Proofs.Ytohleiikedpmkaa.Vm

namespace Go.Proofs.Ytohleiikedpmkaa.Vm
open Go Go.Proofs Go.Proofs.Ytohleiikedpmkaa
set_option maxRecDepth 100000
theorem krepeat :
    Contract0 Try.prog 39 [(.c (.sl 1 0 0 1 4)), (.c (.int .i64 3))] [(1, (.one ⟨false, false, (.cells [(.int .i32 32), (.int .i64 0), (.int .i64 0), (.int .i64 0)])⟩))] 2 (.c (.sl 2 0 0 3 4)) [] [(2, (.one ⟨true, true, (.cells [(.int .i32 32), (.int .i64 0), (.int .i64 0), (.int .i64 0), (.int .i32 32), (.int .i64 0), (.int .i64 0), (.int .i64 0), (.int .i32 32), (.int .i64 0), (.int .i64 0), (.int .i64 0)])⟩))] :=
  Contract0.renum (Contract0.of_frun (res := (.c (.sl 354 0 0 3 4))) (up := [(354, (.one ⟨true, true, (.cells [(.int .i32 32), (.int .i64 0), (.int .i64 0), (.int .i64 0), (.int .i32 32), (.int .i64 0), (.int .i64 0), (.int .i64 0), (.int .i32 32), (.int .i64 0), (.int .i64 0), (.int .i64 0)])⟩))]) (kill := []) (n0 := 2) (m := [(1, (.one ⟨false, false, (.cells [(.int .i32 32), (.int .i64 0), (.int .i64 0), (.int .i64 0)])⟩))]) (args := [(.c (.sl 1 0 0 1 4)), (.c (.int .i64 3))]) (fn := Try.f39) (c := bodyOf Try.f39) (fuel := 300) (k := kOf Try.prog Try.f39) (outs := [354]) (hs := [(9, ⟨.call [] (.tup [(.c (.int .u64 0)), (.c (.int .u64 3))]) [] [], none⟩)])
    (cs := [Contract Try.prog 51 [(.c (.int .u64 1)), (.c (.int .u64 3))] [] 130 (.tup [(.c (.int .u64 0)), (.c (.int .u64 3))]) [] []])
    mixed Try.func39 (by kernel_rfl) (by kernel_rfl) (by kernel_rfl) (by kernel_rfl) (by kernel_rfl) ⟨Contract0.in1 kmul [] [none, none] [] [] (by kernel_rfl), trivial⟩) [.b 1 1 true] [] [(354, 2)] [] (by kernel_rfl) (by kernel_rfl) (by kernel_rfl) (by kernel_rfl) (by kernel_rfl)
theorem kidx_abc :
    Contract0 Try.prog 54 [(.c (.sl 1 0 0 3 4)), (.c (.fn 49 []))] [(1, (.one ⟨false, false, (.cells [(.int .i32 97), (.int .i64 0), (.int .i64 0), (.int .i64 0), (.int .i32 98), (.int .i64 0), (.int .i64 0), (.int .i64 0), (.int .i32 99), (.int .i64 0), (.int .i64 0), (.int .i64 0)])⟩))] 2 (.c (.int .i64 (-1))) [] [] :=
  Contract0.fr 300 [(13, ⟨.call [] (.c (.bool (false))) [] [], none⟩), (26, ⟨.call [] (.c (.bool (false))) [] [], none⟩), (39, ⟨.call [] (.c (.bool (false))) [] [], none⟩)] [] [Contract Try.prog 49 [(.agg [(.int .i32 99), (.int .i64 0), (.int .i64 0), (.int .i64 0)])] [] 546 (.c (.bool (false))) [] [],
      Contract Try.prog 49 [(.agg [(.int .i32 98), (.int .i64 0), (.int .i64 0), (.int .i64 0)])] [] 370 (.c (.bool (false))) [] [],
      Contract Try.prog 49 [(.agg [(.int .i32 97), (.int .i64 0), (.int .i64 0), (.int .i64 0)])] [] 194 (.c (.bool (false))) [] []] mixed Try.func54 (by kernel_rfl) ⟨Contract0.in1 kcel_99 [] [none] [] [] (by kernel_rfl), Contract0.in1 kcel_98 [] [none] [] [] (by kernel_rfl), Contract0.in1 kcel_97 [] [none] [] [] (by kernel_rfl), trivial⟩
theorem kidx_aXY :
    Contract0 Try.prog 54 [(.c (.sl 1 0 0 3 4)), (.c (.fn 49 []))] [(1, (.one ⟨false, false, (.cells [(.int .i32 97), (.int .i64 0), (.int .i64 0), (.int .i64 0), (.int .i32 88), (.int .i64 0), (.int .i64 0), (.int .i64 0), (.int .i32 89), (.int .i64 0), (.int .i64 0), (.int .i64 0)])⟩))] 2 (.c (.int .i64 (-1))) [] [] :=
  Contract0.fr 300 [(13, ⟨.call [] (.c (.bool (false))) [] [], none⟩), (26, ⟨.call [] (.c (.bool (false))) [] [], none⟩), (39, ⟨.call [] (.c (.bool (false))) [] [], none⟩)] [] [Contract Try.prog 49 [(.agg [(.int .i32 89), (.int .i64 0), (.int .i64 0), (.int .i64 0)])] [] 546 (.c (.bool (false))) [] [],
      Contract Try.prog 49 [(.agg [(.int .i32 88), (.int .i64 0), (.int .i64 0), (.int .i64 0)])] [] 370 (.c (.bool (false))) [] [],
      Contract Try.prog 49 [(.agg [(.int .i32 97), (.int .i64 0), (.int .i64 0), (.int .i64 0)])] [] 194 (.c (.bool (false))) [] []] mixed Try.func54 (by kernel_rfl) ⟨Contract0.in1 kcel_89 [] [none] [] [] (by kernel_rfl), Contract0.in1 kcel_88 [] [none] [] [] (by kernel_rfl), Contract0.in1 kcel_97 [] [none] [] [] (by kernel_rfl), trivial⟩
theorem kidx_XY :
    Contract0 Try.prog 54 [(.c (.sl 1 0 0 2 4)), (.c (.fn 49 []))] [(1, (.one ⟨false, false, (.cells [(.int .i32 88), (.int .i64 0), (.int .i64 0), (.int .i64 0), (.int .i32 89), (.int .i64 0), (.int .i64 0), (.int .i64 0)])⟩))] 2 (.c (.int .i64 (-1))) [] [] :=
  Contract0.fr 300 [(13, ⟨.call [] (.c (.bool (false))) [] [], none⟩), (26, ⟨.call [] (.c (.bool (false))) [] [], none⟩)] [] [Contract Try.prog 49 [(.agg [(.int .i32 89), (.int .i64 0), (.int .i64 0), (.int .i64 0)])] [] 370 (.c (.bool (false))) [] [],
      Contract Try.prog 49 [(.agg [(.int .i32 88), (.int .i64 0), (.int .i64 0), (.int .i64 0)])] [] 194 (.c (.bool (false))) [] []] mixed Try.func54 (by kernel_rfl) ⟨Contract0.in1 kcel_89 [] [none] [] [] (by kernel_rfl), Contract0.in1 kcel_88 [] [none] [] [] (by kernel_rfl), trivial⟩
end Go.Proofs.Ytohleiikedpmkaa.Vm

namespace Go.Proofs.Ytohleiikedpmkaa.Vm
open Go Go.Proofs Go.Proofs.Ytohleiikedpmkaa
set_option maxRecDepth 100000
theorem kcont_abc :
    Contract0 Try.prog 48 [(.c (.sl 1 0 0 3 4)), (.c (.fn 49 []))] [(1, (.one ⟨false, false, (.cells [(.int .i32 97), (.int .i64 0), (.int .i64 0), (.int .i64 0), (.int .i32 98), (.int .i64 0), (.int .i64 0), (.int .i64 0), (.int .i32 99), (.int .i64 0), (.int .i64 0), (.int .i64 0)])⟩))] 2 (.c (.bool (false))) [] [] :=
  Contract0.fr 300 [(3, ⟨.call [1] (.c (.int .i64 (-1))) [] [], none⟩)] [] [Contract Try.prog 54 [(.c (.sl 1 0 0 3 4)), (.c (.fn 49 []))] [(1, (.one ⟨false, false, (.cells [(.int .i32 97), (.int .i64 0), (.int .i64 0), (.int .i64 0), (.int .i32 98), (.int .i64 0), (.int .i64 0), (.int .i64 0), (.int .i32 99), (.int .i64 0), (.int .i64 0), (.int .i64 0)])⟩))] 50 (.c (.int .i64 (-1))) [] []] mixed Try.func48 (by kernel_rfl) ⟨Contract0.in1 kidx_abc [.b 1 1 true []] [none, none] [] [] (by kernel_rfl), trivial⟩
theorem kcont_aXY :
    Contract0 Try.prog 48 [(.c (.sl 1 0 0 3 4)), (.c (.fn 49 []))] [(1, (.one ⟨false, false, (.cells [(.int .i32 97), (.int .i64 0), (.int .i64 0), (.int .i64 0), (.int .i32 88), (.int .i64 0), (.int .i64 0), (.int .i64 0), (.int .i32 89), (.int .i64 0), (.int .i64 0), (.int .i64 0)])⟩))] 2 (.c (.bool (false))) [] [] :=
  Contract0.fr 300 [(3, ⟨.call [1] (.c (.int .i64 (-1))) [] [], none⟩)] [] [Contract Try.prog 54 [(.c (.sl 1 0 0 3 4)), (.c (.fn 49 []))] [(1, (.one ⟨false, false, (.cells [(.int .i32 97), (.int .i64 0), (.int .i64 0), (.int .i64 0), (.int .i32 88), (.int .i64 0), (.int .i64 0), (.int .i64 0), (.int .i32 89), (.int .i64 0), (.int .i64 0), (.int .i64 0)])⟩))] 50 (.c (.int .i64 (-1))) [] []] mixed Try.func48 (by kernel_rfl) ⟨Contract0.in1 kidx_aXY [.b 1 1 true []] [none, none] [] [] (by kernel_rfl), trivial⟩
theorem kcont_XY :
    Contract0 Try.prog 48 [(.c (.sl 1 0 0 2 4)), (.c (.fn 49 []))] [(1, (.one ⟨false, false, (.cells [(.int .i32 88), (.int .i64 0), (.int .i64 0), (.int .i64 0), (.int .i32 89), (.int .i64 0), (.int .i64 0), (.int .i64 0)])⟩))] 2 (.c (.bool (false))) [] [] :=
  Contract0.fr 300 [(3, ⟨.call [1] (.c (.int .i64 (-1))) [] [], none⟩)] [] [Contract Try.prog 54 [(.c (.sl 1 0 0 2 4)), (.c (.fn 49 []))] [(1, (.one ⟨false, false, (.cells [(.int .i32 88), (.int .i64 0), (.int .i64 0), (.int .i64 0), (.int .i32 89), (.int .i64 0), (.int .i64 0), (.int .i64 0)])⟩))] 50 (.c (.int .i64 (-1))) [] []] mixed Try.func48 (by kernel_rfl) ⟨Contract0.in1 kidx_XY [.b 1 1 true []] [none, none] [] [] (by kernel_rfl), trivial⟩
theorem kblank :
    Contract0 Try.prog 22 [(.c (.int .i64 1)), (.c (.int .i64 3))] [] 1 (.agg [(.int .i64 1), (.int .i64 3), (.sl 1 0 0 1 1), (.int .i64 0), (.int .i64 0), (.bool (false))]) [] [(1, (.one ⟨true, false, (.cells [(.sl 2 0 0 3 4)])⟩)), (2, (.one ⟨true, true, (.cells [(.int .i32 32), (.int .i64 0), (.int .i64 0), (.int .i64 0), (.int .i32 32), (.int .i64 0), (.int .i64 0), (.int .i64 0), (.int .i32 32), (.int .i64 0), (.int .i64 0), (.int .i64 0)])⟩))] :=
  Contract0.renum (Contract0.of_frun (res := (.agg [(.int .i64 1), (.int .i64 3), (.sl 353 0 0 1 1), (.int .i64 0), (.int .i64 0), (.bool (false))])) (up := [(353, (.one ⟨true, false, (.cells [(.sl 321 0 0 3 4)])⟩)), (321, (.one ⟨true, true, (.cells [(.int .i32 32), (.int .i64 0), (.int .i64 0), (.int .i64 0), (.int .i32 32), (.int .i64 0), (.int .i64 0), (.int .i64 0), (.int .i32 32), (.int .i64 0), (.int .i64 0), (.int .i64 0)])⟩))]) (kill := []) (n0 := 1) (m := []) (args := [(.c (.int .i64 1)), (.c (.int .i64 3))]) (fn := Try.f22) (c := bodyOf Try.f22) (fuel := 300) (k := kOf Try.prog Try.f22) (outs := [353, 321]) (hs := [(21, ⟨.call [273] (.c (.sl 321 0 0 3 4)) [] [(321, (.one ⟨true, true, (.cells [(.int .i32 32), (.int .i64 0), (.int .i64 0), (.int .i64 0), (.int .i32 32), (.int .i64 0), (.int .i64 0), (.int .i64 0), (.int .i32 32), (.int .i64 0), (.int .i64 0), (.int .i64 0)])⟩))], none⟩)])
    (cs := [Contract Try.prog 39 [(.c (.sl 273 0 0 1 4)), (.c (.int .i64 3))] [(273, (.one ⟨true, true, (.cells [(.int .i32 32), (.int .i64 0), (.int .i64 0), (.int .i64 0)])⟩))] 321 (.c (.sl 321 0 0 3 4)) [] [(321, (.one ⟨true, true, (.cells [(.int .i32 32), (.int .i64 0), (.int .i64 0), (.int .i64 0), (.int .i32 32), (.int .i64 0), (.int .i64 0), (.int .i64 0), (.int .i32 32), (.int .i64 0), (.int .i64 0), (.int .i64 0)])⟩))]])
    mixed Try.func22 (by kernel_rfl) (by kernel_rfl) (by kernel_rfl) (by kernel_rfl) (by kernel_rfl) ⟨Contract0.in1 krepeat [.b 273 1 true []] [none, none] [(2, 321)] [] (by kernel_rfl), trivial⟩) [] [] [(353, 1), (321, 2)] [] (by kernel_rfl) (by kernel_rfl) (by kernel_rfl) (by kernel_rfl) (by kernel_rfl)
theorem ksh_0 :
    PureF Try.prog 53 [(.c (.int .i64 0))] (.c (.bool (false))) :=
  Contract0.fr 300 [] [] [] mixed Try.func53 (by kernel_rfl) trivial
theorem ksh_1 :
    PureF Try.prog 53 [(.c (.int .i64 1))] (.c (.bool (false))) :=
  Contract0.fr 300 [] [] [] mixed Try.func53 (by kernel_rfl) trivial
theorem ksh_3 :
    PureF Try.prog 53 [(.c (.int .i64 3))] (.c (.bool (false))) :=
  Contract0.fr 300 [] [] [] mixed Try.func53 (by kernel_rfl) trivial
theorem ksh_2 :
    PureF Try.prog 53 [(.c (.int .i64 2))] (.c (.bool (false))) :=
  Contract0.fr 300 [] [] [] mixed Try.func53 (by kernel_rfl) trivial
theorem ksh_m1 :
    PureF Try.prog 53 [(.c (.int .i64 (-1)))] (.c (.bool (true))) :=
  Contract0.fr 300 [] [] [] mixed Try.func53 (by kernel_rfl) trivial
theorem ktwo0 :
    Contract0 Try.prog 43 [(.c (.int .i64 0))] [] 1 (.c (.sl 1 0 0 2 1)) [] [(1, (.one ⟨true, true, (.ints .u8 [0, 0])⟩))] :=
  Contract0.renum (Contract0.of_frun (res := (.c (.sl 97 0 0 2 1))) (up := [(97, (.one ⟨true, true, (.cells [(.int .u8 0), (.int .u8 0)])⟩))]) (kill := []) (n0 := 1) (m := []) (args := [(.c (.int .i64 0))]) (fn := Try.f43) (c := bodyOf Try.f43) (fuel := 300) (k := kOf Try.prog Try.f43) (outs := [97]) (hs := [])
    (cs := [])
    mixed Try.func43 (by kernel_rfl) (by kernel_rfl) (by kernel_rfl) (by kernel_rfl) (by kernel_rfl) trivial) [] [] [(97, 1)] [] (by kernel_rfl) (by kernel_rfl) (by kernel_rfl) (by kernel_rfl) (by kernel_rfl)
theorem ktwo1 :
    Contract0 Try.prog 43 [(.c (.int .i64 1))] [] 1 (.c (.sl 1 0 0 2 1)) [] [(1, (.one ⟨true, true, (.ints .u8 [0, 1])⟩))] :=
  Contract0.renum (Contract0.of_frun (res := (.c (.sl 97 0 0 2 1))) (up := [(97, (.one ⟨true, true, (.cells [(.int .u8 0), (.int .u8 1)])⟩))]) (kill := []) (n0 := 1) (m := []) (args := [(.c (.int .i64 1))]) (fn := Try.f43) (c := bodyOf Try.f43) (fuel := 300) (k := kOf Try.prog Try.f43) (outs := [97]) (hs := [])
    (cs := [])
    mixed Try.func43 (by kernel_rfl) (by kernel_rfl) (by kernel_rfl) (by kernel_rfl) (by kernel_rfl) trivial) [] [] [(97, 1)] [] (by kernel_rfl) (by kernel_rfl) (by kernel_rfl) (by kernel_rfl) (by kernel_rfl)
theorem ktwo2 :
    Contract0 Try.prog 43 [(.c (.int .i64 2))] [] 1 (.c (.sl 1 0 0 2 1)) [] [(1, (.one ⟨true, true, (.ints .u8 [0, 2])⟩))] :=
  Contract0.renum (Contract0.of_frun (res := (.c (.sl 97 0 0 2 1))) (up := [(97, (.one ⟨true, true, (.cells [(.int .u8 0), (.int .u8 2)])⟩))]) (kill := []) (n0 := 1) (m := []) (args := [(.c (.int .i64 2))]) (fn := Try.f43) (c := bodyOf Try.f43) (fuel := 300) (k := kOf Try.prog Try.f43) (outs := [97]) (hs := [])
    (cs := [])
    mixed Try.func43 (by kernel_rfl) (by kernel_rfl) (by kernel_rfl) (by kernel_rfl) (by kernel_rfl) trivial) [] [] [(97, 1)] [] (by kernel_rfl) (by kernel_rfl) (by kernel_rfl) (by kernel_rfl) (by kernel_rfl)
theorem ktwo3 :
    Contract0 Try.prog 43 [(.c (.int .i64 3))] [] 1 (.c (.sl 1 0 0 2 1)) [] [(1, (.one ⟨true, true, (.ints .u8 [0, 3])⟩))] :=
  Contract0.renum (Contract0.of_frun (res := (.c (.sl 97 0 0 2 1))) (up := [(97, (.one ⟨true, true, (.cells [(.int .u8 0), (.int .u8 3)])⟩))]) (kill := []) (n0 := 1) (m := []) (args := [(.c (.int .i64 3))]) (fn := Try.f43) (c := bodyOf Try.f43) (fuel := 300) (k := kOf Try.prog Try.f43) (outs := [97]) (hs := [])
    (cs := [])
    mixed Try.func43 (by kernel_rfl) (by kernel_rfl) (by kernel_rfl) (by kernel_rfl) (by kernel_rfl) trivial) [] [] [(97, 1)] [] (by kernel_rfl) (by kernel_rfl) (by kernel_rfl) (by kernel_rfl) (by kernel_rfl)
end Go.Proofs.Ytohleiikedpmkaa.Vm
