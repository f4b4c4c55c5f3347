/- What functions of the program come to: parts of the walk (Gc). -/
import Derived.Test.YtohleiikedpmkaaGb
import Derived.KernelRfl
import Derived.Test.YtohleiikedpmkaaProg
set_option linter.unusedSimpArgs false
set_option linter.unusedVariables false
namespace Go.Proofs.Ytohleiikedpmkaa.Vm
open Go Go.Proofs Go.Proofs.Ytohleiikedpmkaa
set_option maxRecDepth 100000
theorem kright_abc :
    Contract0 Try.prog 19 [(.agg [(.int .i64 1), (.int .i64 3), (.sl 1 0 0 1 1), (.int .i64 0), (.int .i64 0), (.bool (false))])] [(1, (.one ⟨false, false, (.cells [(.sl 2 0 0 3 4)])⟩)), (2, (.one ⟨false, false, (.cells [(.int .i32 97), (.int .i64 0), (.int .i64 0), (.int .i64 0), (.int .i32 98), (.int .i64 0), (.int .i64 0), (.int .i64 0), (.int .i32 99), (.int .i64 0), (.int .i64 0), (.int .i64 0)])⟩))] 3 (.c (.bool (true))) [] [] :=
  Contract0.fr 300 [(10, ⟨.call [] (.c (.bool (true))) [] [], none⟩), (37, ⟨.call [2] (.c (.bool (true))) [] [], none⟩)] [] [Contract Try.prog 33 [(.c (.sl 2 0 0 3 4))] [(2, (.one ⟨false, false, (.cells [(.int .i32 97), (.int .i64 0), (.int .i64 0), (.int .i64 0), (.int .i32 98), (.int .i64 0), (.int .i64 0), (.int .i64 0), (.int .i32 99), (.int .i64 0), (.int .i64 0), (.int .i64 0)])⟩))] 563 (.c (.bool (true))) [] [],
      Contract Try.prog 32 [(.c (.int .i64 1)), (.c (.int .i64 3)), (.c (.int .i64 0)), (.c (.int .i64 0))] [] 163 (.c (.bool (true))) [] []] mixed Try.func19 (by kernel_rfl) ⟨Contract0.in1 kcells_abc [.b 2 1 true []] [none] [] [] (by kernel_rfl), Contract0.in1 ksize_1 [] [none, none, none, none] [] [] (by kernel_rfl), trivial⟩
theorem kright_aXY :
    Contract0 Try.prog 19 [(.agg [(.int .i64 1), (.int .i64 3), (.sl 1 0 0 1 1), (.int .i64 0), (.int .i64 0), (.bool (false))])] [(1, (.one ⟨false, false, (.cells [(.sl 2 0 0 3 4)])⟩)), (2, (.one ⟨false, false, (.cells [(.int .i32 97), (.int .i64 0), (.int .i64 0), (.int .i64 0), (.int .i32 88), (.int .i64 0), (.int .i64 0), (.int .i64 0), (.int .i32 89), (.int .i64 0), (.int .i64 0), (.int .i64 0)])⟩))] 3 (.c (.bool (true))) [] [] :=
  Contract0.fr 300 [(10, ⟨.call [] (.c (.bool (true))) [] [], none⟩), (37, ⟨.call [2] (.c (.bool (true))) [] [], none⟩)] [] [Contract Try.prog 33 [(.c (.sl 2 0 0 3 4))] [(2, (.one ⟨false, false, (.cells [(.int .i32 97), (.int .i64 0), (.int .i64 0), (.int .i64 0), (.int .i32 88), (.int .i64 0), (.int .i64 0), (.int .i64 0), (.int .i32 89), (.int .i64 0), (.int .i64 0), (.int .i64 0)])⟩))] 563 (.c (.bool (true))) [] [],
      Contract Try.prog 32 [(.c (.int .i64 1)), (.c (.int .i64 3)), (.c (.int .i64 0)), (.c (.int .i64 0))] [] 163 (.c (.bool (true))) [] []] mixed Try.func19 (by kernel_rfl) ⟨Contract0.in1 kcells_aXY [.b 2 1 true []] [none] [] [] (by kernel_rfl), Contract0.in1 ksize_1 [] [none, none, none, none] [] [] (by kernel_rfl), trivial⟩
theorem kfrom :
    Contract0 Try.prog 30 [(.agg [(.int .i64 1), (.int .i64 3), (.sl 1 0 0 1 1), (.int .i64 0), (.int .i64 0), (.bool (false))]), (.c (.int .i64 1)), (.c (.int .i64 3))] [(1, (.one ⟨false, false, (.cells [(.sl 2 0 0 3 4)])⟩)), (2, (.one ⟨false, false, (.cells [(.int .i32 97), (.int .i64 0), (.int .i64 0), (.int .i64 0), (.int .i32 98), (.int .i64 0), (.int .i64 0), (.int .i64 0), (.int .i32 99), (.int .i64 0), (.int .i64 0), (.int .i64 0)])⟩))] 3 (.c (.sl 3 0 0 1 1)) [] [(3, (.one ⟨true, false, (.cells [(.sl 4 0 0 3 4)])⟩)), (4, (.one ⟨true, false, (.cells [(.int .i32 97), (.int .i64 0), (.int .i64 0), (.int .i64 0), (.int .i32 98), (.int .i64 0), (.int .i64 0), (.int .i64 0), (.int .i32 99), (.int .i64 0), (.int .i64 0), (.int .i64 0)])⟩))] :=
  Contract0.renum (Contract0.of_frun (res := (.c (.sl 403 0 0 1 1))) (up := [(403, (.one ⟨true, false, (.cells [(.sl 371 0 0 3 4)])⟩)), (371, (.one ⟨true, false, (.cells [(.int .i32 97), (.int .i64 0), (.int .i64 0), (.int .i64 0), (.int .i32 98), (.int .i64 0), (.int .i64 0), (.int .i64 0), (.int .i32 99), (.int .i64 0), (.int .i64 0), (.int .i64 0)])⟩))]) (kill := []) (n0 := 3) (m := [(1, (.one ⟨false, false, (.cells [(.sl 2 0 0 3 4)])⟩)), (2, (.one ⟨false, false, (.cells [(.int .i32 97), (.int .i64 0), (.int .i64 0), (.int .i64 0), (.int .i32 98), (.int .i64 0), (.int .i64 0), (.int .i64 0), (.int .i32 99), (.int .i64 0), (.int .i64 0), (.int .i64 0)])⟩))]) (args := [(.agg [(.int .i64 1), (.int .i64 3), (.sl 1 0 0 1 1), (.int .i64 0), (.int .i64 0), (.bool (false))]), (.c (.int .i64 1)), (.c (.int .i64 3))]) (fn := Try.f30) (c := bodyOf Try.f30) (fuel := 300) (k := kOf Try.prog Try.f30) (outs := [403, 371]) (hs := [(25, ⟨.call [2] (.c (.sl 371 0 0 3 4)) [] [(371, (.one ⟨true, false, (.cells [(.int .i32 97), (.int .i64 0), (.int .i64 0), (.int .i64 0), (.int .i32 98), (.int .i64 0), (.int .i64 0), (.int .i64 0), (.int .i32 99), (.int .i64 0), (.int .i64 0), (.int .i64 0)])⟩))], none⟩)])
    (cs := [Contract Try.prog 31 [(.c (.sl 2 0 0 3 4))] [(2, (.one ⟨false, false, (.cells [(.int .i32 97), (.int .i64 0), (.int .i64 0), (.int .i64 0), (.int .i32 98), (.int .i64 0), (.int .i64 0), (.int .i64 0), (.int .i32 99), (.int .i64 0), (.int .i64 0), (.int .i64 0)])⟩))] 371 (.c (.sl 371 0 0 3 4)) [] [(371, (.one ⟨true, false, (.cells [(.int .i32 97), (.int .i64 0), (.int .i64 0), (.int .i64 0), (.int .i32 98), (.int .i64 0), (.int .i64 0), (.int .i64 0), (.int .i32 99), (.int .i64 0), (.int .i64 0), (.int .i64 0)])⟩))]])
    mixed Try.func30 (by kernel_rfl) (by kernel_rfl) (by kernel_rfl) (by kernel_rfl) (by kernel_rfl) ⟨Contract0.in1 kclone_abc [.b 2 1 true []] [none] [(2, 371)] [] (by kernel_rfl), trivial⟩) [.b 1 1 true, .b 2 2 true] [] [(403, 3), (371, 4)] [] (by kernel_rfl) (by kernel_rfl) (by kernel_rfl) (by kernel_rfl) (by kernel_rfl)
end Go.Proofs.Ytohleiikedpmkaa.Vm

namespace Go.Proofs.Ytohleiikedpmkaa.Vm
open Go Go.Proofs Go.Proofs.Ytohleiikedpmkaa
set_option maxRecDepth 100000
theorem kdiff :
    Contract0 Try.prog 11 [(.agg [(.int .i64 1), (.int .i64 3), (.sl 1 0 0 1 1), (.int .i64 0), (.int .i64 0), (.bool (false))]), (.agg [(.int .i64 1), (.int .i64 3), (.sl 3 0 0 1 1), (.int .i64 0), (.int .i64 0), (.bool (false))])] [(1, (.one ⟨false, false, (.cells [(.sl 2 0 0 3 4)])⟩)), (2, (.one ⟨false, false, (.cells [(.int .i32 97), (.int .i64 0), (.int .i64 0), (.int .i64 0), (.int .i32 98), (.int .i64 0), (.int .i64 0), (.int .i64 0), (.int .i32 99), (.int .i64 0), (.int .i64 0), (.int .i64 0)])⟩)), (3, (.one ⟨false, false, (.cells [(.sl 4 0 0 3 4)])⟩)), (4, (.one ⟨false, false, (.cells [(.int .i32 97), (.int .i64 0), (.int .i64 0), (.int .i64 0), (.int .i32 88), (.int .i64 0), (.int .i64 0), (.int .i64 0), (.int .i32 89), (.int .i64 0), (.int .i64 0), (.int .i64 0)])⟩))] 5 (.agg [(.int .i64 1), (.int .i64 3), (.int .i64 0), (.int .i64 0), (.bool (false)), (.sl 5 0 0 1 3)]) [] [(5, (.one ⟨true, false, (.cells [(.int .i64 0), (.int .i64 1), (.sl 6 0 0 2 4)])⟩)), (6, (.one ⟨true, false, (.cells [(.int .i32 88), (.int .i64 0), (.int .i64 0), (.int .i64 0), (.int .i32 89), (.int .i64 0), (.int .i64 0), (.int .i64 0)])⟩))] :=
  Contract0.renum (Contract0.of_frun (res := (.agg [(.int .i64 1), (.int .i64 3), (.int .i64 0), (.int .i64 0), (.bool (false)), (.sl 2437 0 0 1 3)])) (up := [(2437, (.one ⟨true, false, (.cells [(.int .i64 0), (.int .i64 1), (.sl 2389 0 0 2 4)])⟩)), (2389, (.one ⟨true, false, (.cells [(.int .i32 88), (.int .i64 0), (.int .i64 0), (.int .i64 0), (.int .i32 89), (.int .i64 0), (.int .i64 0), (.int .i64 0)])⟩))]) (kill := []) (n0 := 5) (m := [(1, (.one ⟨false, false, (.cells [(.sl 2 0 0 3 4)])⟩)), (2, (.one ⟨false, false, (.cells [(.int .i32 97), (.int .i64 0), (.int .i64 0), (.int .i64 0), (.int .i32 98), (.int .i64 0), (.int .i64 0), (.int .i64 0), (.int .i32 99), (.int .i64 0), (.int .i64 0), (.int .i64 0)])⟩)), (3, (.one ⟨false, false, (.cells [(.sl 4 0 0 3 4)])⟩)), (4, (.one ⟨false, false, (.cells [(.int .i32 97), (.int .i64 0), (.int .i64 0), (.int .i64 0), (.int .i32 88), (.int .i64 0), (.int .i64 0), (.int .i64 0), (.int .i32 89), (.int .i64 0), (.int .i64 0), (.int .i64 0)])⟩))]) (args := [(.agg [(.int .i64 1), (.int .i64 3), (.sl 1 0 0 1 1), (.int .i64 0), (.int .i64 0), (.bool (false))]), (.agg [(.int .i64 1), (.int .i64 3), (.sl 3 0 0 1 1), (.int .i64 0), (.int .i64 0), (.bool (false))])]) (fn := Try.f11) (c := bodyOf Try.f11) (fuel := 300) (k := kOf Try.prog Try.f11) (outs := [2437, 2389]) (hs := [(17, ⟨.call [1, 2] (.c (.bool (true))) [] [], none⟩), (21, ⟨.call [3, 4] (.c (.bool (true))) [] [], none⟩), (30, ⟨.call [1, 2] (.c (.sl 469 0 0 1 1)) [] [(469, (.one ⟨true, false, (.cells [(.sl 470 0 0 3 4)])⟩)), (470, (.one ⟨true, false, (.cells [(.int .i32 97), (.int .i64 0), (.int .i64 0), (.int .i64 0), (.int .i32 98), (.int .i64 0), (.int .i64 0), (.int .i64 0), (.int .i32 99), (.int .i64 0), (.int .i64 0), (.int .i64 0)])⟩))], none⟩), (159, ⟨.call [4] (.c (.sl 2389 0 0 2 4)) [] [(2389, (.one ⟨true, false, (.cells [(.int .i32 88), (.int .i64 0), (.int .i64 0), (.int .i64 0), (.int .i32 89), (.int .i64 0), (.int .i64 0), (.int .i64 0)])⟩))], none⟩)])
    (cs := [Contract Try.prog 31 [(.c (.sl 4 0 4 2 4))] [(4, (.one ⟨false, false, (.cells [(.int .i32 97), (.int .i64 0), (.int .i64 0), (.int .i64 0), (.int .i32 88), (.int .i64 0), (.int .i64 0), (.int .i64 0), (.int .i32 89), (.int .i64 0), (.int .i64 0), (.int .i64 0)])⟩))] 2389 (.c (.sl 2389 0 0 2 4)) [] [(2389, (.one ⟨true, false, (.cells [(.int .i32 88), (.int .i64 0), (.int .i64 0), (.int .i64 0), (.int .i32 89), (.int .i64 0), (.int .i64 0), (.int .i64 0)])⟩))],
      Contract Try.prog 30 [(.agg [(.int .i64 1), (.int .i64 3), (.sl 1 0 0 1 1), (.int .i64 0), (.int .i64 0), (.bool (false))]), (.c (.int .i64 1)), (.c (.int .i64 3))] [(1, (.one ⟨false, false, (.cells [(.sl 2 0 0 3 4)])⟩)), (2, (.one ⟨false, false, (.cells [(.int .i32 97), (.int .i64 0), (.int .i64 0), (.int .i64 0), (.int .i32 98), (.int .i64 0), (.int .i64 0), (.int .i64 0), (.int .i32 99), (.int .i64 0), (.int .i64 0), (.int .i64 0)])⟩))] 469 (.c (.sl 469 0 0 1 1)) [] [(469, (.one ⟨true, false, (.cells [(.sl 470 0 0 3 4)])⟩)), (470, (.one ⟨true, false, (.cells [(.int .i32 97), (.int .i64 0), (.int .i64 0), (.int .i64 0), (.int .i32 98), (.int .i64 0), (.int .i64 0), (.int .i64 0), (.int .i32 99), (.int .i64 0), (.int .i64 0), (.int .i64 0)])⟩))],
      Contract Try.prog 19 [(.agg [(.int .i64 1), (.int .i64 3), (.sl 3 0 0 1 1), (.int .i64 0), (.int .i64 0), (.bool (false))])] [(3, (.one ⟨false, false, (.cells [(.sl 4 0 0 3 4)])⟩)), (4, (.one ⟨false, false, (.cells [(.int .i32 97), (.int .i64 0), (.int .i64 0), (.int .i64 0), (.int .i32 88), (.int .i64 0), (.int .i64 0), (.int .i64 0), (.int .i32 89), (.int .i64 0), (.int .i64 0), (.int .i64 0)])⟩))] 341 (.c (.bool (true))) [] [],
      Contract Try.prog 19 [(.agg [(.int .i64 1), (.int .i64 3), (.sl 1 0 0 1 1), (.int .i64 0), (.int .i64 0), (.bool (false))])] [(1, (.one ⟨false, false, (.cells [(.sl 2 0 0 3 4)])⟩)), (2, (.one ⟨false, false, (.cells [(.int .i32 97), (.int .i64 0), (.int .i64 0), (.int .i64 0), (.int .i32 98), (.int .i64 0), (.int .i64 0), (.int .i64 0), (.int .i32 99), (.int .i64 0), (.int .i64 0), (.int .i64 0)])⟩))] 277 (.c (.bool (true))) [] []])
    mixed Try.func11 (by kernel_rfl) (by kernel_rfl) (by kernel_rfl) (by kernel_rfl) (by kernel_rfl) ⟨Contract0.in1 kclone_XY [.b 4 1 true []] [none] [(2, 2389)] [] (by kernel_rfl), Contract0.in1 kfrom [.b 1 1 true [], .b 2 2 true []] [none, none, none] [(3, 469), (4, 470)] [] (by kernel_rfl), Contract0.in1 kright_aXY [.b 3 1 true [], .b 4 2 true []] [none] [] [] (by kernel_rfl), Contract0.in1 kright_abc [.b 1 1 true [], .b 2 2 true []] [none] [] [] (by kernel_rfl), trivial⟩) [.b 1 1 true, .b 2 2 true, .b 3 3 true, .b 4 4 true] [] [(2437, 5), (2389, 6)] [] (by kernel_rfl) (by kernel_rfl) (by kernel_rfl) (by kernel_rfl) (by kernel_rfl)
end Go.Proofs.Ytohleiikedpmkaa.Vm

namespace Go.Proofs.Ytohleiikedpmkaa.Vm
open Go Go.Proofs Go.Proofs.Ytohleiikedpmkaa
set_option maxRecDepth 100000
theorem known25 :
    PureF Try.prog 12 [] (.c (.bool (true))) :=
  Contract0.fr 300 [(1, ⟨.call [] (.agg [(.int .i64 1), (.int .i64 3), (.sl 17 0 0 1 1), (.int .i64 0), (.int .i64 0), (.bool (false))]) [] [(17, (.one ⟨true, false, (.cells [(.sl 18 0 0 3 4)])⟩)), (18, (.one ⟨true, true, (.cells [(.int .i32 97), (.int .i64 0), (.int .i64 0), (.int .i64 0), (.int .i32 98), (.int .i64 0), (.int .i64 0), (.int .i64 0), (.int .i32 99), (.int .i64 0), (.int .i64 0), (.int .i64 0)])⟩))], none⟩), (2, ⟨.call [] (.agg [(.int .i64 1), (.int .i64 3), (.sl 33 0 0 1 1), (.int .i64 0), (.int .i64 0), (.bool (false))]) [] [(33, (.one ⟨true, false, (.cells [(.sl 34 0 0 3 4)])⟩)), (34, (.one ⟨true, true, (.cells [(.int .i32 97), (.int .i64 0), (.int .i64 0), (.int .i64 0), (.int .i32 88), (.int .i64 0), (.int .i64 0), (.int .i64 0), (.int .i32 89), (.int .i64 0), (.int .i64 0), (.int .i64 0)])⟩))], none⟩), (3, ⟨.call [17, 33, 18, 34] (.agg [(.int .i64 1), (.int .i64 3), (.int .i64 0), (.int .i64 0), (.bool (false)), (.sl 49 0 0 1 3)]) [] [(49, (.one ⟨true, false, (.cells [(.int .i64 0), (.int .i64 1), (.sl 50 0 0 2 4)])⟩)), (50, (.one ⟨true, false, (.cells [(.int .i32 88), (.int .i64 0), (.int .i64 0), (.int .i64 0), (.int .i32 89), (.int .i64 0), (.int .i64 0), (.int .i64 0)])⟩))], none⟩)] [] [Contract Try.prog 11 [(.agg [(.int .i64 1), (.int .i64 3), (.sl 17 0 0 1 1), (.int .i64 0), (.int .i64 0), (.bool (false))]), (.agg [(.int .i64 1), (.int .i64 3), (.sl 33 0 0 1 1), (.int .i64 0), (.int .i64 0), (.bool (false))])] [(17, (.one ⟨true, false, (.cells [(.sl 18 0 0 3 4)])⟩)), (33, (.one ⟨true, false, (.cells [(.sl 34 0 0 3 4)])⟩)), (18, (.one ⟨true, true, (.cells [(.int .i32 97), (.int .i64 0), (.int .i64 0), (.int .i64 0), (.int .i32 98), (.int .i64 0), (.int .i64 0), (.int .i64 0), (.int .i32 99), (.int .i64 0), (.int .i64 0), (.int .i64 0)])⟩)), (34, (.one ⟨true, true, (.cells [(.int .i32 97), (.int .i64 0), (.int .i64 0), (.int .i64 0), (.int .i32 88), (.int .i64 0), (.int .i64 0), (.int .i64 0), (.int .i32 89), (.int .i64 0), (.int .i64 0), (.int .i64 0)])⟩))] 49 (.agg [(.int .i64 1), (.int .i64 3), (.int .i64 0), (.int .i64 0), (.bool (false)), (.sl 49 0 0 1 3)]) [] [(49, (.one ⟨true, false, (.cells [(.int .i64 0), (.int .i64 1), (.sl 50 0 0 2 4)])⟩)), (50, (.one ⟨true, false, (.cells [(.int .i32 88), (.int .i64 0), (.int .i64 0), (.int .i64 0), (.int .i32 89), (.int .i64 0), (.int .i64 0), (.int .i64 0)])⟩))],
      Contract Try.prog 29 [(.c (.str ({ data := #[97, 88, 89] })))] [] 33 (.agg [(.int .i64 1), (.int .i64 3), (.sl 33 0 0 1 1), (.int .i64 0), (.int .i64 0), (.bool (false))]) [] [(33, (.one ⟨true, false, (.cells [(.sl 34 0 0 3 4)])⟩)), (34, (.one ⟨true, true, (.cells [(.int .i32 97), (.int .i64 0), (.int .i64 0), (.int .i64 0), (.int .i32 88), (.int .i64 0), (.int .i64 0), (.int .i64 0), (.int .i32 89), (.int .i64 0), (.int .i64 0), (.int .i64 0)])⟩))],
      Contract Try.prog 29 [(.c (.str ({ data := #[97, 98, 99] })))] [] 17 (.agg [(.int .i64 1), (.int .i64 3), (.sl 17 0 0 1 1), (.int .i64 0), (.int .i64 0), (.bool (false))]) [] [(17, (.one ⟨true, false, (.cells [(.sl 18 0 0 3 4)])⟩)), (18, (.one ⟨true, true, (.cells [(.int .i32 97), (.int .i64 0), (.int .i64 0), (.int .i64 0), (.int .i32 98), (.int .i64 0), (.int .i64 0), (.int .i64 0), (.int .i32 99), (.int .i64 0), (.int .i64 0), (.int .i64 0)])⟩))]] mixed Try.func12 (by kernel_rfl) ⟨Contract0.in1 kdiff [.b 17 1 true [], .b 18 2 true [], .b 33 3 true [], .b 34 4 true []] [none, none] [(5, 49), (6, 50)] [] (by kernel_rfl), Contract0.in1 ktext_aXY [] [none] [(1, 33), (2, 34)] [] (by kernel_rfl), Contract0.in1 ktext_abc [] [none] [(1, 17), (2, 18)] [] (by kernel_rfl), trivial⟩
end Go.Proofs.Ytohleiikedpmkaa.Vm

namespace Go.Proofs.Ytohleiikedpmkaa.Vm
open Go Go.Proofs Go.Proofs.Ytohleiikedpmkaa
set_option maxRecDepth 100000
end Go.Proofs.Ytohleiikedpmkaa.Vm

namespace Go.Proofs.Ytohleiikedpmkaa.W
open Go Go.Proofs.Ytohleiikedpmkaa.Vm
theorem sRo_b {rr : Nat} {l : List Int} {o : Nat} (h : 1 ≤ rr) : ∀ i, 0 ≤ sRo rr l o i ∧ sRo rr l o i < (rr : Int)
  | 0 => by show (0 : Int) ≤ 0 ∧ (0 : Int) < rr; omega
  | i + 1 => by
    have := pick_lt (a := tq (List.getD l (o + i) 0) 11) (b := (rr : Int)) (by omega)
    exact ⟨Int.natCast_nonneg _, this⟩
theorem sCo_b {cw : Nat} {l : List Int} {o : Nat} (h : 1 ≤ cw) : ∀ i, 0 ≤ sCo cw l o i ∧ sCo cw l o i < (cw : Int)
  | 0 => by show (0 : Int) ≤ 0 ∧ (0 : Int) < cw; omega
  | i + 1 => by
    have := pick_lt (a := tq (List.getD l (o + i) 0) 13) (b := (cw : Int)) (by omega)
    exact ⟨Int.natCast_nonneg _, this⟩
theorem okC_four (n : Int) : okC (igG (four n) 0) (igG (four n) 1) (igG (four n) 2) (igG (four n) 3) := by
  have h0 := pick_lt (a := tq n 70) (b := 4) (by decide)
  have h1 := pick_lt (a := tq n 300) (b := 9) (by decide)
  have h2 := pick_lt (a := tq n 3000) (b := 9) (by decide)
  have h3 := pick_lt (a := tq n 30000) (b := 8) (by decide)
  have e0 : igG (four n) 0 = List.getD [97, 98, 8364, 32] (pick (tq n 70) 4) 0 := rfl
  have e1 : igG (four n) 1 = (pick (tq n 300) 9 : Int) := rfl
  have e2 : igG (four n) 2 = (pick (tq n 3000) 9 : Int) := rfl
  have e3 : igG (four n) 3 = (pick (tq n 30000) 8 : Int) := rfl
  have hc : igG (four n) 0 = 97 ∨ igG (four n) 0 = 98 ∨ igG (four n) 0 = 8364 ∨ igG (four n) 0 = 32 := by
    rw [e0]
    generalize pick (tq n 70) 4 = q at h0
    have : q < 4 := by omega
    rcases q with _ | _ | _ | _ | q
    all_goals first | (simp; done) | omega
  rw [e1, e2, e3]
  generalize igG (four n) 0 = a at hc
  unfold okC
  omega
theorem okC_blank (k : Nat) : okC (blank (k * 4)) (blank (k * 4 + 1)) (blank (k * 4 + 2)) (blank (k * 4 + 3)) := by
  have e0 : blank (k * 4) = 32 := by unfold blank; rw [if_pos (by omega)]
  have e1 : blank (k * 4 + 1) = 0 := by unfold blank; rw [if_neg (by omega)]
  have e2 : blank (k * 4 + 2) = 0 := by unfold blank; rw [if_neg (by omega)]
  have e3 : blank (k * 4 + 3) = 0 := by unfold blank; rw [if_neg (by omega)]
  rw [e0, e1, e2, e3]
  unfold okC
  omega
theorem okRow_blank (n : Nat) : okRow blank n := fun k _ => okC_blank k
theorem okRow_put {X : Nat → Nat → Int} {j0 k0 : Nat} {n : Int} {j cw : Nat} (h : okRow (X j) cw) : okRow (putX X j0 (k0 * 4) (igG (four n)) j) cw := by
  intro k hk
  unfold putX
  cases hj : Nat.beq j j0 with
  | false => simp only [Bool.false_and, cond_false]; exact h k hk
  | true =>
    simp only [Bool.true_and]
    by_cases e : k = k0
    · subst e
      have i0 : inR (k * 4) 4 (k * 4) = true := inR_iff.2 (by omega)
      have i1 : inR (k * 4) 4 (k * 4 + 1) = true := inR_iff.2 (by omega)
      have i2 : inR (k * 4) 4 (k * 4 + 2) = true := inR_iff.2 (by omega)
      have i3 : inR (k * 4) 4 (k * 4 + 3) = true := inR_iff.2 (by omega)
      rw [i0, i1, i2, i3]
      simp only [cond_true, Nat.sub_self, Nat.add_sub_cancel_left]
      exact okC_four n
    · have i0 : inR (k0 * 4) 4 (k * 4) = false := inR_f (by omega)
      have i1 : inR (k0 * 4) 4 (k * 4 + 1) = false := inR_f (by omega)
      have i2 : inR (k0 * 4) 4 (k * 4 + 2) = false := inR_f (by omega)
      have i3 : inR (k0 * 4) 4 (k * 4 + 3) = false := inR_f (by omega)
      rw [i0, i1, i2, i3]
      simp only [cond_false]
      exact h k hk
theorem sX_ok {rr cw : Nat} {l : List Int} {o : Nat} : ∀ i j, okRow (sX rr cw l o i j) cw
  | 0, _ => okRow_blank cw
  | i + 1, j => okRow_put (sX_ok i j)
end Go.Proofs.Ytohleiikedpmkaa.W

namespace Go.Proofs.Ytohleiikedpmkaa.W
open Go Go.Proofs.Ytohleiikedpmkaa.Vm
theorem eqc_comm (X Y : Nat → Nat → Int) (j k : Nat) : eqc X Y j k = eqc Y X j k := by
  unfold eqc
  rw [Bool.beq_comm (a := X j (k * 4)), Bool.beq_comm (a := X j (k * 4 + 1)), Bool.beq_comm (a := X j (k * 4 + 2)), Bool.beq_comm (a := X j (k * 4 + 3))]
def sN (L : Rn) : Nat → Nat
  | 0 => 0
  | k + 1 => sN L k + rn L k
def cR (Y X : Nat → Nat → Int) (j : Nat) : Nat → Nat
  | 0 => 0
  | k + 1 => bif eqc Y X j k then cR Y X j k else cR Y X j k + 1
def cA (Y X : Nat → Nat → Int) (cw : Nat) : Nat → Nat
  | 0 => 0
  | i + 1 => cA Y X cw i + cR Y X i cw
def okRuns (X Y : Nat → Nat → Int) (rr cw : Nat) (L : Rn) : Prop := ∀ q, q < L.length → 1 ≤ rn L q ∧ ra L q < rr ∧ rb L q + rn L q ≤ cw ∧ (∀ p, p < rn L q → eqc Y X (ra L q) (rb L q + p) = false) ∧ (∀ q', q = q' + 1 → ra L q' < ra L q ∨ (ra L q' = ra L q ∧ rb L q' + rn L q' < rb L q))
theorem sN_app {L : Rn} {x : Nat × Nat × Nat} : ∀ k, k ≤ L.length → sN (L ++ [x]) k = sN L k
  | 0, _ => rfl
  | k + 1, h => by
    show sN (L ++ [x]) k + rn (L ++ [x]) k = sN L k + rn L k
    rw [sN_app k (by omega), (ra_old (x := x) (show k < L.length by omega)).2.2]
theorem cR_run {Y X : Nat → Nat → Int} {j k : Nat} : ∀ d, (∀ q, k ≤ q → q < k + d → eqc Y X j q = false) → cR Y X j (k + d) = cR Y X j k + d
  | 0, _ => rfl
  | d + 1, h => by
    show (bif eqc Y X j (k + d) then cR Y X j (k + d) else cR Y X j (k + d) + 1) = _
    rw [h (k + d) (by omega) (by omega), cR_run d (fun q h1 h2 => h q h1 (by omega))]
    rfl
structure Good (X Y : Nat → Nat → Int) (rr cw : Nat) (i k : Nat) (L : Rn) : Prop where
  ok : okRuns X Y rr cw L
  last : ∀ q, q + 1 = L.length → ra L q < i ∨ (ra L q = i ∧ rb L q + rn L q < k)
  sum : sN L L.length = cA Y X cw i + cR Y X i (min k cw)
theorem Good.add {X Y : Nat → Nat → Int} {rr cw i k S : Nat} {L : Rn} (h : Good X Y rr cw i k L) (hi : i < rr) (h1 : k < S) (h2 : S ≤ cw) (h3 : ∀ q, k ≤ q → q < S → eqc Y X i q = false) (h4 : S = cw ∨ eqc Y X i S = true) : Good X Y rr cw i (S + 1) (L ++ [(i, k, S - k)]) := by
  have hl : (L ++ [(i, k, S - k)]).length = L.length + 1 := by simp
  obtain ⟨n1, n2, n3⟩ := ra_new (L := L) (x := (i, k, S - k))
  have n1 : ra (L ++ [(i, k, S - k)]) L.length = i := n1
  have n2 : rb (L ++ [(i, k, S - k)]) L.length = k := n2
  have n3 : rn (L ++ [(i, k, S - k)]) L.length = S - k := n3
  refine ⟨fun q hq => ?_, fun q hq => ?_, ?_⟩
  · by_cases hlt : q < L.length
    · obtain ⟨o1, o2, o3⟩ := ra_old (x := (i, k, S - k)) hlt
      obtain ⟨g1, g2, g3, g4, g5⟩ := h.ok q hlt
      rw [o1, o2, o3]
      refine ⟨g1, g2, g3, g4, fun q' hq' => ?_⟩
      obtain ⟨p1, p2, p3⟩ := ra_old (x := (i, k, S - k)) (show q' < L.length by omega)
      rw [p1, p2, p3]
      exact g5 q' hq'
    · have e : q = L.length := by omega
      subst e
      rw [n1, n2, n3]
      refine ⟨by omega, hi, by omega, fun p hp => h3 (k + p) (by omega) (by omega), fun q' hq' => ?_⟩
      obtain ⟨p1, p2, p3⟩ := ra_old (x := (i, k, S - k)) (show q' < L.length by omega)
      rw [p1, p2, p3]
      exact h.last q' hq'.symm
  · have e : q = L.length := by omega
    subst e
    rw [n1, n2, n3]
    exact .inr ⟨rfl, by omega⟩
  · rw [hl]
    show sN (L ++ [(i, k, S - k)]) L.length + rn (L ++ [(i, k, S - k)]) L.length = _
    rw [sN_app _ (Nat.le_refl _), n3, h.sum, Nat.min_eq_left (show k ≤ cw by omega)]
    have e1 : cR Y X i S = cR Y X i k + (S - k) := by
      have := cR_run (k := k) (S - k) (fun q h5 h6 => h3 q h5 (by omega))
      rwa [show k + (S - k) = S by omega] at this
    rcases h4 with h4 | h4
    · rw [Nat.min_eq_right (by omega)]
      rw [h4] at e1 ⊢
      omega
    · by_cases hs : S < cw
      · rw [Nat.min_eq_left (by omega)]
        have e2 : cR Y X i (S + 1) = cR Y X i S := by
          show (bif eqc Y X i S then cR Y X i S else cR Y X i S + 1) = _
          rw [h4]; rfl
        omega
      · have e3 : S = cw := by omega
        rw [Nat.min_eq_right (by omega)]
        rw [e3] at e1 ⊢
        omega
theorem Good.skip {X Y : Nat → Nat → Int} {rr cw i k : Nat} {L : Rn} (h : Good X Y rr cw i k L) (h2 : k < cw) (h4 : eqc Y X i k = true) : Good X Y rr cw i (k + 1) L := by
  refine ⟨h.ok, fun q hq => ?_, ?_⟩
  · rcases h.last q hq with h5 | h5
    · exact .inl h5
    · exact .inr ⟨h5.1, by omega⟩
  · rw [h.sum, Nat.min_eq_left (by omega), Nat.min_eq_left (by omega)]
    have e2 : cR Y X i (k + 1) = cR Y X i k := by
      show (bif eqc Y X i k then cR Y X i k else cR Y X i k + 1) = _
      rw [h4]; rfl
    omega
theorem Good.rows {X Y : Nat → Nat → Int} {rr cw i : Nat} (hi : i < rr) : ∀ n k L, Good X Y rr cw i k L → k ≤ cw + 1 → cw - k ≤ n → Good X Y rr cw (i + 1) 0 (rowRuns Y X i cw n k L)
  | 0, k, L, h, hk, hn => by
    show Good X Y rr cw (i + 1) 0 L
    refine ⟨h.ok, fun q hq => ?_, ?_⟩
    · rcases h.last q hq with h5 | h5
      · exact .inl (by omega)
      · exact .inl (by omega)
    · rw [h.sum, Nat.min_eq_right (by omega), Nat.zero_min]; rfl
  | n + 1, k, L, h, hk, hn => by
    by_cases hlt : k < cw
    · obtain ⟨s1, s2, s3, s4⟩ := stopAt_spec Y X i (Nat.le_of_lt hlt)
      simp only [rowRuns, bltT hlt, cond_true]
      by_cases hs : k < stopAt Y X i cw k
      · rw [bltT hs]
        simp only [cond_true]
        exact Good.rows hi n _ _ (h.add hi hs s2 s3 s4) (by omega) (by omega)
      · rw [bltF hs]
        simp only [cond_false]
        have e : stopAt Y X i cw k = k := by omega
        rw [e] at s4 ⊢
        have h4 : eqc Y X i k = true := by
          rcases s4 with s4 | s4
          · omega
          · exact s4
        exact Good.rows hi n _ _ (h.skip hlt h4) (by omega) (by omega)
    · rw [rowRuns_ge (by omega)]
      refine ⟨h.ok, fun q hq => ?_, ?_⟩
      · rcases h.last q hq with h5 | h5
        · exact .inl (by omega)
        · exact .inl (by omega)
      · rw [h.sum, Nat.min_eq_right (by omega), Nat.zero_min]; rfl
theorem runs_good {X Y : Nat → Nat → Int} {rr cw : Nat} : ∀ i, i ≤ rr → Good X Y rr cw i 0 (runs Y X cw i)
  | 0, _ => ⟨fun q hq => by simp [runs] at hq, fun q hq => by simp [runs] at hq, by simp [runs, sN, cA, cR]⟩
  | i + 1, h => Good.rows (by omega) _ _ _ (runs_good i (by omega)) (by omega) (by omega)
theorem runs_ok (X Y : Nat → Nat → Int) (rr cw : Nat) : okRuns X Y rr cw (runs Y X cw rr) := (runs_good rr (Nat.le_refl _)).ok
theorem runs_sum (X Y : Nat → Nat → Int) (rr cw : Nat) : sN (runs Y X cw rr) (runs Y X cw rr).length = cA Y X cw rr := by
  have := (runs_good (X := X) (Y := Y) (cw := cw) rr (Nat.le_refl _)).sum
  rw [this, Nat.zero_min]; rfl
end Go.Proofs.Ytohleiikedpmkaa.W

namespace Go.Proofs.Ytohleiikedpmkaa.W
open Go Go.Proofs.Ytohleiikedpmkaa.Vm
def Cov (X Y : Nat → Nat → Int) (cw i k : Nat) (L : Rn) : Prop := ∀ j c, c < cw → (j < i ∨ (j = i ∧ c < k)) → eqc Y X j c = false → ∃ q, q < L.length ∧ ra L q = j ∧ rb L q ≤ c ∧ c < rb L q + rn L q
theorem Cov.add {X Y : Nat → Nat → Int} {cw i k S : Nat} {L : Rn} (h : Cov X Y cw i k L) (h4 : S = cw ∨ eqc Y X i S = true) : Cov X Y cw i (S + 1) (L ++ [(i, k, S - k)]) := by
  intro j c hc hj he
  have hl : (L ++ [(i, k, S - k)]).length = L.length + 1 := by simp
  by_cases h0 : j < i ∨ (j = i ∧ c < k)
  · obtain ⟨q, g1, g2, g3, g4⟩ := h j c hc h0 he
    obtain ⟨o1, o2, o3⟩ := ra_old (x := (i, k, S - k)) g1
    exact ⟨q, by omega, by rw [o1]; exact g2, by rw [o2]; exact g3, by rw [o2, o3]; exact g4⟩
  · obtain ⟨n1, n2, n3⟩ := ra_new (L := L) (x := (i, k, S - k))
    have n1 : ra (L ++ [(i, k, S - k)]) L.length = i := n1
    have n2 : rb (L ++ [(i, k, S - k)]) L.length = k := n2
    have n3 : rn (L ++ [(i, k, S - k)]) L.length = S - k := n3
    have hji : j = i := by omega
    have hcS : c ≠ S := by
      intro e
      rcases h4 with h4 | h4
      · omega
      · rw [hji, e, h4] at he; simp at he
    exact ⟨L.length, by omega, by rw [n1, hji], by rw [n2]; omega, by rw [n2, n3]; omega⟩
theorem Cov.skip {X Y : Nat → Nat → Int} {cw i k : Nat} {L : Rn} (h : Cov X Y cw i k L) (h4 : eqc Y X i k = true) : Cov X Y cw i (k + 1) L := by
  intro j c hc hj he
  refine h j c hc ?_ he
  by_cases e : j = i ∧ c = k
  · rw [e.1, e.2, h4] at he; simp at he
  · omega
theorem Cov.rows {X Y : Nat → Nat → Int} {cw i : Nat} : ∀ n k L, Cov X Y cw i k L → k ≤ cw + 1 → cw - k ≤ n → Cov X Y cw (i + 1) 0 (rowRuns Y X i cw n k L)
  | 0, k, L, h, hk, hn => fun j c hc hj he => h j c hc (by omega) he
  | n + 1, k, L, h, hk, hn => by
    by_cases hlt : k < cw
    · obtain ⟨s1, s2, s3, s4⟩ := stopAt_spec Y X i (Nat.le_of_lt hlt)
      simp only [rowRuns, bltT hlt, cond_true]
      by_cases hs : k < stopAt Y X i cw k
      · rw [bltT hs]
        simp only [cond_true]
        exact Cov.rows n _ _ (h.add s4) (by omega) (by omega)
      · rw [bltF hs]
        simp only [cond_false]
        have e : stopAt Y X i cw k = k := by omega
        rw [e] at s4 ⊢
        have h4 : eqc Y X i k = true := by
          rcases s4 with s4 | s4
          · omega
          · exact s4
        exact Cov.rows n _ _ (h.skip h4) (by omega) (by omega)
    · rw [rowRuns_ge (by omega)]
      exact fun j c hc hj he => h j c hc (by omega) he
end Go.Proofs.Ytohleiikedpmkaa.W
namespace Go.Proofs.Ytohleiikedpmkaa.Vm
open Go Go.Proofs Go.Proofs.Ytohleiikedpmkaa
end Go.Proofs.Ytohleiikedpmkaa.Vm

namespace Go.Proofs.Ytohleiikedpmkaa.Vm
open Go Go.Proofs Go.Proofs.Ytohleiikedpmkaa
set_option maxRecDepth 100000
end Go.Proofs.Ytohleiikedpmkaa.Vm

namespace Go.Proofs.Ytohleiikedpmkaa.Vm
open Go Go.Proofs Go.Proofs.Ytohleiikedpmkaa
set_option maxRecDepth 100000
end Go.Proofs.Ytohleiikedpmkaa.Vm

namespace Go.Proofs.Ytohleiikedpmkaa.Vm
open Go
end Go.Proofs.Ytohleiikedpmkaa.Vm
namespace Go.Proofs.Ytohleiikedpmkaa.W
end Go.Proofs.Ytohleiikedpmkaa.W
namespace Go.Proofs.Ytohleiikedpmkaa.Vm
open Go Go.Proofs Go.Proofs.Ytohleiikedpmkaa
end Go.Proofs.Ytohleiikedpmkaa.Vm
