/- What functions of the program come to: parts of the walk (Gc). -/
import Derived.Test.YtohleiikedpmkaaGb
import Derived.KernelRfl
import Derived.Test.YtohleiikedpmkaaProg
set_option linter.unusedSimpArgs false
set_option linter.unusedVariables false
namespace Go.Proofs.Ytohleiikedpmkaa.Vm
open Go Go.Proofs Go.Proofs.Ytohleiikedpmkaa
set_option maxRecDepth 100000
theorem kright_abc :
    Contract0 Try.prog 19 [(.agg [(.int .i64 1), (.int .i64 3), (.sl 1 0 0 1 1), (.int .i64 0), (.int .i64 0), (.bool (false))])] [(1, (.one ⟨false, false, (.cells [(.sl 2 0 0 3 4)])⟩)), (2, (.one ⟨false, false, (.cells [(.int .i32 97), (.int .i64 0), (.int .i64 0), (.int .i64 0), (.int .i32 98), (.int .i64 0), (.int .i64 0), (.int .i64 0), (.int .i32 99), (.int .i64 0), (.int .i64 0), (.int .i64 0)])⟩))] 3 (.c (.bool (true))) [] [] :=
  Contract0.fr 300 [(10, ⟨.call [] (.c (.bool (true))) [] [], none⟩), (37, ⟨.call [2] (.c (.bool (true))) [] [], none⟩)] [] [Contract Try.prog 33 [(.c (.sl 2 0 0 3 4))] [(2, (.one ⟨false, false, (.cells [(.int .i32 97), (.int .i64 0), (.int .i64 0), (.int .i64 0), (.int .i32 98), (.int .i64 0), (.int .i64 0), (.int .i64 0), (.int .i32 99), (.int .i64 0), (.int .i64 0), (.int .i64 0)])⟩))] 563 (.c (.bool (true))) [] [],
      Contract Try.prog 32 [(.c (.int .i64 1)), (.c (.int .i64 3)), (.c (.int .i64 0)), (.c (.int .i64 0))] [] 163 (.c (.bool (true))) [] []] mixed Try.func19 (by kernel_rfl) ⟨Contract0.in1 kcells_abc [.b 2 1 true []] [none] [] [] (by kernel_rfl), Contract0.in1 ksize_1 [] [none, none, none, none] [] [] (by kernel_rfl), trivial⟩
theorem kright_aXY :
    Contract0 Try.prog 19 [(.agg [(.int .i64 1), (.int .i64 3), (.sl 1 0 0 1 1), (.int .i64 0), (.int .i64 0), (.bool (false))])] [(1, (.one ⟨false, false, (.cells [(.sl 2 0 0 3 4)])⟩)), (2, (.one ⟨false, false, (.cells [(.int .i32 97), (.int .i64 0), (.int .i64 0), (.int .i64 0), (.int .i32 88), (.int .i64 0), (.int .i64 0), (.int .i64 0), (.int .i32 89), (.int .i64 0), (.int .i64 0), (.int .i64 0)])⟩))] 3 (.c (.bool (true))) [] [] :=
  Contract0.fr 300 [(10, ⟨.call [] (.c (.bool (true))) [] [], none⟩), (37, ⟨.call [2] (.c (.bool (true))) [] [], none⟩)] [] [Contract Try.prog 33 [(.c (.sl 2 0 0 3 4))] [(2, (.one ⟨false, false, (.cells [(.int .i32 97), (.int .i64 0), (.int .i64 0), (.int .i64 0), (.int .i32 88), (.int .i64 0), (.int .i64 0), (.int .i64 0), (.int .i32 89), (.int .i64 0), (.int .i64 0), (.int .i64 0)])⟩))] 563 (.c (.bool (true))) [] [],
      Contract Try.prog 32 [(.c (.int .i64 1)), (.c (.int .i64 3)), (.c (.int .i64 0)), (.c (.int .i64 0))] [] 163 (.c (.bool (true))) [] []] mixed Try.func19 (by kernel_rfl) ⟨Contract0.in1 kcells_aXY [.b 2 1 true []] [none] [] [] (by kernel_rfl), Contract0.in1 ksize_1 [] [none, none, none, none] [] [] (by kernel_rfl), trivial⟩
theorem kfrom :
    Contract0 Try.prog 30 [(.agg [(.int .i64 1), (.int .i64 3), (.sl 1 0 0 1 1), (.int .i64 0), (.int .i64 0), (.bool (false))]), (.c (.int .i64 1)), (.c (.int .i64 3))] [(1, (.one ⟨false, false, (.cells [(.sl 2 0 0 3 4)])⟩)), (2, (.one ⟨false, false, (.cells [(.int .i32 97), (.int .i64 0), (.int .i64 0), (.int .i64 0), (.int .i32 98), (.int .i64 0), (.int .i64 0), (.int .i64 0), (.int .i32 99), (.int .i64 0), (.int .i64 0), (.int .i64 0)])⟩))] 3 (.c (.sl 3 0 0 1 1)) [] [(3, (.one ⟨true, false, (.cells [(.sl 4 0 0 3 4)])⟩)), (4, (.one ⟨true, false, (.cells [(.int .i32 97), (.int .i64 0), (.int .i64 0), (.int .i64 0), (.int .i32 98), (.int .i64 0), (.int .i64 0), (.int .i64 0), (.int .i32 99), (.int .i64 0), (.int .i64 0), (.int .i64 0)])⟩))] :=
  Contract0.renum (Contract0.of_frun (res := (.c (.sl 403 0 0 1 1))) (up := [(403, (.one ⟨true, false, (.cells [(.sl 371 0 0 3 4)])⟩)), (371, (.one ⟨true, false, (.cells [(.int .i32 97), (.int .i64 0), (.int .i64 0), (.int .i64 0), (.int .i32 98), (.int .i64 0), (.int .i64 0), (.int .i64 0), (.int .i32 99), (.int .i64 0), (.int .i64 0), (.int .i64 0)])⟩))]) (kill := []) (n0 := 3) (m := [(1, (.one ⟨false, false, (.cells [(.sl 2 0 0 3 4)])⟩)), (2, (.one ⟨false, false, (.cells [(.int .i32 97), (.int .i64 0), (.int .i64 0), (.int .i64 0), (.int .i32 98), (.int .i64 0), (.int .i64 0), (.int .i64 0), (.int .i32 99), (.int .i64 0), (.int .i64 0), (.int .i64 0)])⟩))]) (args := [(.agg [(.int .i64 1), (.int .i64 3), (.sl 1 0 0 1 1), (.int .i64 0), (.int .i64 0), (.bool (false))]), (.c (.int .i64 1)), (.c (.int .i64 3))]) (fn := Try.f30) (c := bodyOf Try.f30) (fuel := 300) (k := kOf Try.prog Try.f30) (outs := [403, 371]) (hs := [(25, ⟨.call [2] (.c (.sl 371 0 0 3 4)) [] [(371, (.one ⟨true, false, (.cells [(.int .i32 97), (.int .i64 0), (.int .i64 0), (.int .i64 0), (.int .i32 98), (.int .i64 0), (.int .i64 0), (.int .i64 0), (.int .i32 99), (.int .i64 0), (.int .i64 0), (.int .i64 0)])⟩))], none⟩)])
    (cs := [Contract Try.prog 31 [(.c (.sl 2 0 0 3 4))] [(2, (.one ⟨false, false, (.cells [(.int .i32 97), (.int .i64 0), (.int .i64 0), (.int .i64 0), (.int .i32 98), (.int .i64 0), (.int .i64 0), (.int .i64 0), (.int .i32 99), (.int .i64 0), (.int .i64 0), (.int .i64 0)])⟩))] 371 (.c (.sl 371 0 0 3 4)) [] [(371, (.one ⟨true, false, (.cells [(.int .i32 97), (.int .i64 0), (.int .i64 0), (.int .i64 0), (.int .i32 98), (.int .i64 0), (.int .i64 0), (.int .i64 0), (.int .i32 99), (.int .i64 0), (.int .i64 0), (.int .i64 0)])⟩))]])
    mixed Try.func30 (by kernel_rfl) (by kernel_rfl) (by kernel_rfl) (by kernel_rfl) (by kernel_rfl) ⟨Contract0.in1 kclone_abc [.b 2 1 true []] [none] [(2, 371)] [] (by kernel_rfl), trivial⟩) [.b 1 1 true, .b 2 2 true] [] [(403, 3), (371, 4)] [] (by kernel_rfl) (by kernel_rfl) (by kernel_rfl) (by kernel_rfl) (by kernel_rfl)
end Go.Proofs.Ytohleiikedpmkaa.Vm

namespace Go.Proofs.Ytohleiikedpmkaa.Vm
open Go Go.Proofs Go.Proofs.Ytohleiikedpmkaa
set_option maxRecDepth 100000
theorem kdiff :
    Contract0 Try.prog 11 [(.agg [(.int .i64 1), (.int .i64 3), (.sl 1 0 0 1 1), (.int .i64 0), (.int .i64 0), (.bool (false))]), (.agg [(.int .i64 1), (.int .i64 3), (.sl 3 0 0 1 1), (.int .i64 0), (.int .i64 0), (.bool (false))])] [(1, (.one ⟨false, false, (.cells [(.sl 2 0 0 3 4)])⟩)), (2, (.one ⟨false, false, (.cells [(.int .i32 97), (.int .i64 0), (.int .i64 0), (.int .i64 0), (.int .i32 98), (.int .i64 0), (.int .i64 0), (.int .i64 0), (.int .i32 99), (.int .i64 0), (.int .i64 0), (.int .i64 0)])⟩)), (3, (.one ⟨false, false, (.cells [(.sl 4 0 0 3 4)])⟩)), (4, (.one ⟨false, false, (.cells [(.int .i32 97), (.int .i64 0), (.int .i64 0), (.int .i64 0), (.int .i32 88), (.int .i64 0), (.int .i64 0), (.int .i64 0), (.int .i32 89), (.int .i64 0), (.int .i64 0), (.int .i64 0)])⟩))] 5 (.agg [(.int .i64 1), (.int .i64 3), (.int .i64 0), (.int .i64 0), (.bool (false)), (.sl 5 0 0 1 3)]) [] [(5, (.one ⟨true, false, (.cells [(.int .i64 0), (.int .i64 1), (.sl 6 0 0 2 4)])⟩)), (6, (.one ⟨true, false, (.cells [(.int .i32 88), (.int .i64 0), (.int .i64 0), (.int .i64 0), (.int .i32 89), (.int .i64 0), (.int .i64 0), (.int .i64 0)])⟩))] :=
  Contract0.renum (Contract0.of_frun (res := (.agg [(.int .i64 1), (.int .i64 3), (.int .i64 0), (.int .i64 0), (.bool (false)), (.sl 2437 0 0 1 3)])) (up := [(2437, (.one ⟨true, false, (.cells [(.int .i64 0), (.int .i64 1), (.sl 2389 0 0 2 4)])⟩)), (2389, (.one ⟨true, false, (.cells [(.int .i32 88), (.int .i64 0), (.int .i64 0), (.int .i64 0), (.int .i32 89), (.int .i64 0), (.int .i64 0), (.int .i64 0)])⟩))]) (kill := []) (n0 := 5) (m := [(1, (.one ⟨false, false, (.cells [(.sl 2 0 0 3 4)])⟩)), (2, (.one ⟨false, false, (.cells [(.int .i32 97), (.int .i64 0), (.int .i64 0), (.int .i64 0), (.int .i32 98), (.int .i64 0), (.int .i64 0), (.int .i64 0), (.int .i32 99), (.int .i64 0), (.int .i64 0), (.int .i64 0)])⟩)), (3, (.one ⟨false, false, (.cells [(.sl 4 0 0 3 4)])⟩)), (4, (.one ⟨false, false, (.cells [(.int .i32 97), (.int .i64 0), (.int .i64 0), (.int .i64 0), (.int .i32 88), (.int .i64 0), (.int .i64 0), (.int .i64 0), (.int .i32 89), (.int .i64 0), (.int .i64 0), (.int .i64 0)])⟩))]) (args := [(.agg [(.int .i64 1), (.int .i64 3), (.sl 1 0 0 1 1), (.int .i64 0), (.int .i64 0), (.bool (false))]), (.agg [(.int .i64 1), (.int .i64 3), (.sl 3 0 0 1 1), (.int .i64 0), (.int .i64 0), (.bool (false))])]) (fn := Try.f11) (c := bodyOf Try.f11) (fuel := 300) (k := kOf Try.prog Try.f11) (outs := [2437, 2389]) (hs := [(17, ⟨.call [1, 2] (.c (.bool (true))) [] [], none⟩), (21, ⟨.call [3, 4] (.c (.bool (true))) [] [], none⟩), (30, ⟨.call [1, 2] (.c (.sl 469 0 0 1 1)) [] [(469, (.one ⟨true, false, (.cells [(.sl 470 0 0 3 4)])⟩)), (470, (.one ⟨true, false, (.cells [(.int .i32 97), (.int .i64 0), (.int .i64 0), (.int .i64 0), (.int .i32 98), (.int .i64 0), (.int .i64 0), (.int .i64 0), (.int .i32 99), (.int .i64 0), (.int .i64 0), (.int .i64 0)])⟩))], none⟩), (159, ⟨.call [4] (.c (.sl 2389 0 0 2 4)) [] [(2389, (.one ⟨true, false, (.cells [(.int .i32 88), (.int .i64 0), (.int .i64 0), (.int .i64 0), (.int .i32 89), (.int .i64 0), (.int .i64 0), (.int .i64 0)])⟩))], none⟩)])
    (cs := [Contract Try.prog 31 [(.c (.sl 4 0 4 2 4))] [(4, (.one ⟨false, false, (.cells [(.int .i32 97), (.int .i64 0), (.int .i64 0), (.int .i64 0), (.int .i32 88), (.int .i64 0), (.int .i64 0), (.int .i64 0), (.int .i32 89), (.int .i64 0), (.int .i64 0), (.int .i64 0)])⟩))] 2389 (.c (.sl 2389 0 0 2 4)) [] [(2389, (.one ⟨true, false, (.cells [(.int .i32 88), (.int .i64 0), (.int .i64 0), (.int .i64 0), (.int .i32 89), (.int .i64 0), (.int .i64 0), (.int .i64 0)])⟩))],
      Contract Try.prog 30 [(.agg [(.int .i64 1), (.int .i64 3), (.sl 1 0 0 1 1), (.int .i64 0), (.int .i64 0), (.bool (false))]), (.c (.int .i64 1)), (.c (.int .i64 3))] [(1, (.one ⟨false, false, (.cells [(.sl 2 0 0 3 4)])⟩)), (2, (.one ⟨false, false, (.cells [(.int .i32 97), (.int .i64 0), (.int .i64 0), (.int .i64 0), (.int .i32 98), (.int .i64 0), (.int .i64 0), (.int .i64 0), (.int .i32 99), (.int .i64 0), (.int .i64 0), (.int .i64 0)])⟩))] 469 (.c (.sl 469 0 0 1 1)) [] [(469, (.one ⟨true, false, (.cells [(.sl 470 0 0 3 4)])⟩)), (470, (.one ⟨true, false, (.cells [(.int .i32 97), (.int .i64 0), (.int .i64 0), (.int .i64 0), (.int .i32 98), (.int .i64 0), (.int .i64 0), (.int .i64 0), (.int .i32 99), (.int .i64 0), (.int .i64 0), (.int .i64 0)])⟩))],
      Contract Try.prog 19 [(.agg [(.int .i64 1), (.int .i64 3), (.sl 3 0 0 1 1), (.int .i64 0), (.int .i64 0), (.bool (false))])] [(3, (.one ⟨false, false, (.cells [(.sl 4 0 0 3 4)])⟩)), (4, (.one ⟨false, false, (.cells [(.int .i32 97), (.int .i64 0), (.int .i64 0), (.int .i64 0), (.int .i32 88), (.int .i64 0), (.int .i64 0), (.int .i64 0), (.int .i32 89), (.int .i64 0), (.int .i64 0), (.int .i64 0)])⟩))] 341 (.c (.bool (true))) [] [],
      Contract Try.prog 19 [(.agg [(.int .i64 1), (.int .i64 3), (.sl 1 0 0 1 1), (.int .i64 0), (.int .i64 0), (.bool (false))])] [(1, (.one ⟨false, false, (.cells [(.sl 2 0 0 3 4)])⟩)), (2, (.one ⟨false, false, (.cells [(.int .i32 97), (.int .i64 0), (.int .i64 0), (.int .i64 0), (.int .i32 98), (.int .i64 0), (.int .i64 0), (.int .i64 0), (.int .i32 99), (.int .i64 0), (.int .i64 0), (.int .i64 0)])⟩))] 277 (.c (.bool (true))) [] []])
    mixed Try.func11 (by kernel_rfl) (by kernel_rfl) (by kernel_rfl) (by kernel_rfl) (by kernel_rfl) ⟨Contract0.in1 kclone_XY [.b 4 1 true []] [none] [(2, 2389)] [] (by kernel_rfl), Contract0.in1 kfrom [.b 1 1 true [], .b 2 2 true []] [none, none, none] [(3, 469), (4, 470)] [] (by kernel_rfl), Contract0.in1 kright_aXY [.b 3 1 true [], .b 4 2 true []] [none] [] [] (by kernel_rfl), Contract0.in1 kright_abc [.b 1 1 true [], .b 2 2 true []] [none] [] [] (by kernel_rfl), trivial⟩) [.b 1 1 true, .b 2 2 true, .b 3 3 true, .b 4 4 true] [] [(2437, 5), (2389, 6)] [] (by kernel_rfl) (by kernel_rfl) (by kernel_rfl) (by kernel_rfl) (by kernel_rfl)
end Go.Proofs.Ytohleiikedpmkaa.Vm

namespace Go.Proofs.Ytohleiikedpmkaa.Vm
open Go Go.Proofs Go.Proofs.Ytohleiikedpmkaa
set_option maxRecDepth 100000
theorem known25 :
    PureF Try.prog 12 [] (.c (.bool (true))) :=
  Contract0.fr 300 [(1, ⟨.call [] (.agg [(.int .i64 1), (.int .i64 3), (.sl 17 0 0 1 1), (.int .i64 0), (.int .i64 0), (.bool (false))]) [] [(17, (.one ⟨true, false, (.cells [(.sl 18 0 0 3 4)])⟩)), (18, (.one ⟨true, true, (.cells [(.int .i32 97), (.int .i64 0), (.int .i64 0), (.int .i64 0), (.int .i32 98), (.int .i64 0), (.int .i64 0), (.int .i64 0), (.int .i32 99), (.int .i64 0), (.int .i64 0), (.int .i64 0)])⟩))], none⟩), (2, ⟨.call [] (.agg [(.int .i64 1), (.int .i64 3), (.sl 33 0 0 1 1), (.int .i64 0), (.int .i64 0), (.bool (false))]) [] [(33, (.one ⟨true, false, (.cells [(.sl 34 0 0 3 4)])⟩)), (34, (.one ⟨true, true, (.cells [(.int .i32 97), (.int .i64 0), (.int .i64 0), (.int .i64 0), (.int .i32 88), (.int .i64 0), (.int .i64 0), (.int .i64 0), (.int .i32 89), (.int .i64 0), (.int .i64 0), (.int .i64 0)])⟩))], none⟩), (3, ⟨.call [17, 33, 18, 34] (.agg [(.int .i64 1), (.int .i64 3), (.int .i64 0), (.int .i64 0), (.bool (false)), (.sl 49 0 0 1 3)]) [] [(49, (.one ⟨true, false, (.cells [(.int .i64 0), (.int .i64 1), (.sl 50 0 0 2 4)])⟩)), (50, (.one ⟨true, false, (.cells [(.int .i32 88), (.int .i64 0), (.int .i64 0), (.int .i64 0), (.int .i32 89), (.int .i64 0), (.int .i64 0), (.int .i64 0)])⟩))], none⟩)] [] [Contract Try.prog 11 [(.agg [(.int .i64 1), (.int .i64 3), (.sl 17 0 0 1 1), (.int .i64 0), (.int .i64 0), (.bool (false))]), (.agg [(.int .i64 1), (.int .i64 3), (.sl 33 0 0 1 1), (.int .i64 0), (.int .i64 0), (.bool (false))])] [(17, (.one ⟨true, false, (.cells [(.sl 18 0 0 3 4)])⟩)), (33, (.one ⟨true, false, (.cells [(.sl 34 0 0 3 4)])⟩)), (18, (.one ⟨true, true, (.cells [(.int .i32 97), (.int .i64 0), (.int .i64 0), (.int .i64 0), (.int .i32 98), (.int .i64 0), (.int .i64 0), (.int .i64 0), (.int .i32 99), (.int .i64 0), (.int .i64 0), (.int .i64 0)])⟩)), (34, (.one ⟨true, true, (.cells [(.int .i32 97), (.int .i64 0), (.int .i64 0), (.int .i64 0), (.int .i32 88), (.int .i64 0), (.int .i64 0), (.int .i64 0), (.int .i32 89), (.int .i64 0), (.int .i64 0), (.int .i64 0)])⟩))] 49 (.agg [(.int .i64 1), (.int .i64 3), (.int .i64 0), (.int .i64 0), (.bool (false)), (.sl 49 0 0 1 3)]) [] [(49, (.one ⟨true, false, (.cells [(.int .i64 0), (.int .i64 1), (.sl 50 0 0 2 4)])⟩)), (50, (.one ⟨true, false, (.cells [(.int .i32 88), (.int .i64 0), (.int .i64 0), (.int .i64 0), (.int .i32 89), (.int .i64 0), (.int .i64 0), (.int .i64 0)])⟩))],
      Contract Try.prog 29 [(.c (.str ({ data := #[97, 88, 89] })))] [] 33 (.agg [(.int .i64 1), (.int .i64 3), (.sl 33 0 0 1 1), (.int .i64 0), (.int .i64 0), (.bool (false))]) [] [(33, (.one ⟨true, false, (.cells [(.sl 34 0 0 3 4)])⟩)), (34, (.one ⟨true, true, (.cells [(.int .i32 97), (.int .i64 0), (.int .i64 0), (.int .i64 0), (.int .i32 88), (.int .i64 0), (.int .i64 0), (.int .i64 0), (.int .i32 89), (.int .i64 0), (.int .i64 0), (.int .i64 0)])⟩))],
      Contract Try.prog 29 [(.c (.str ({ data := #[97, 98, 99] })))] [] 17 (.agg [(.int .i64 1), (.int .i64 3), (.sl 17 0 0 1 1), (.int .i64 0), (.int .i64 0), (.bool (false))]) [] [(17, (.one ⟨true, false, (.cells [(.sl 18 0 0 3 4)])⟩)), (18, (.one ⟨true, true, (.cells [(.int .i32 97), (.int .i64 0), (.int .i64 0), (.int .i64 0), (.int .i32 98), (.int .i64 0), (.int .i64 0), (.int .i64 0), (.int .i32 99), (.int .i64 0), (.int .i64 0), (.int .i64 0)])⟩))]] mixed Try.func12 (by kernel_rfl) ⟨Contract0.in1 kdiff [.b 17 1 true [], .b 18 2 true [], .b 33 3 true [], .b 34 4 true []] [none, none] [(5, 49), (6, 50)] [] (by kernel_rfl), Contract0.in1 ktext_aXY [] [none] [(1, 33), (2, 34)] [] (by kernel_rfl), Contract0.in1 ktext_abc [] [none] [(1, 17), (2, 18)] [] (by kernel_rfl), trivial⟩
end Go.Proofs.Ytohleiikedpmkaa.Vm

namespace Go.Proofs.Ytohleiikedpmkaa.Vm
open Go Go.Proofs Go.Proofs.Ytohleiikedpmkaa
set_option maxRecDepth 100000
end Go.Proofs.Ytohleiikedpmkaa.Vm

namespace Go.Proofs.Ytohleiikedpmkaa.W
open Go Go.Proofs.Ytohleiikedpmkaa.Vm
theorem sRo_b {rr : Nat} {l : List Int} {o : Nat} (h : 1 ≤ rr) : ∀ i, 0 ≤ sRo rr l o i ∧ sRo rr l o i < (rr : Int)
  | 0 => by show (0 : Int) ≤ 0 ∧ (0 : Int) < rr; omega
  | i + 1 => by
    have := pick_lt (a := tq (List.getD l (o + i) 0) 11) (b := (rr : Int)) (by omega)
    exact ⟨Int.natCast_nonneg _, this⟩
theorem sCo_b {cw : Nat} {l : List Int} {o : Nat} (h : 1 ≤ cw) : ∀ i, 0 ≤ sCo cw l o i ∧ sCo cw l o i < (cw : Int)
  | 0 => by show (0 : Int) ≤ 0 ∧ (0 : Int) < cw; omega
  | i + 1 => by
    have := pick_lt (a := tq (List.getD l (o + i) 0) 13) (b := (cw : Int)) (by omega)
    exact ⟨Int.natCast_nonneg _, this⟩
theorem okC_four (n : Int) : okC (igG (four n) 0) (igG (four n) 1) (igG (four n) 2) (igG (four n) 3) := by
  have h0 := pick_lt (a := tq n 70) (b := 4) (by decide)
  have h1 := pick_lt (a := tq n 300) (b := 9) (by decide)
  have h2 := pick_lt (a := tq n 3000) (b := 9) (by decide)
  have h3 := pick_lt (a := tq n 30000) (b := 8) (by decide)
  have e0 : igG (four n) 0 = List.getD [97, 98, 8364, 32] (pick (tq n 70) 4) 0 := rfl
  have e1 : igG (four n) 1 = (pick (tq n 300) 9 : Int) := rfl
  have e2 : igG (four n) 2 = (pick (tq n 3000) 9 : Int) := rfl
  have e3 : igG (four n) 3 = (pick (tq n 30000) 8 : Int) := rfl
  have hc : igG (four n) 0 = 97 ∨ igG (four n) 0 = 98 ∨ igG (four n) 0 = 8364 ∨ igG (four n) 0 = 32 := by
    rw [e0]
    generalize pick (tq n 70) 4 = q at h0
    have : q < 4 := by omega
    rcases q with _ | _ | _ | _ | q
    all_goals first | (simp; done) | omega
  rw [e1, e2, e3]
  generalize igG (four n) 0 = a at hc
  unfold okC
  omega
theorem okC_blank (k : Nat) : okC (blank (k * 4)) (blank (k * 4 + 1)) (blank (k * 4 + 2)) (blank (k * 4 + 3)) := by
  have e0 : blank (k * 4) = 32 := by unfold blank; rw [if_pos (by omega)]
  have e1 : blank (k * 4 + 1) = 0 := by unfold blank; rw [if_neg (by omega)]
  have e2 : blank (k * 4 + 2) = 0 := by unfold blank; rw [if_neg (by omega)]
  have e3 : blank (k * 4 + 3) = 0 := by unfold blank; rw [if_neg (by omega)]
  rw [e0, e1, e2, e3]
  unfold okC
  omega
theorem okRow_blank (n : Nat) : okRow blank n := fun k _ => okC_blank k
theorem okRow_put {X : Nat → Nat → Int} {j0 k0 : Nat} {n : Int} {j cw : Nat} (h : okRow (X j) cw) : okRow (putX X j0 (k0 * 4) (igG (four n)) j) cw := by
  intro k hk
  unfold putX
  cases hj : Nat.beq j j0 with
  | false => simp only [Bool.false_and, cond_false]; exact h k hk
  | true =>
    simp only [Bool.true_and]
    by_cases e : k = k0
    · subst e
      have i0 : inR (k * 4) 4 (k * 4) = true := inR_iff.2 (by omega)
      have i1 : inR (k * 4) 4 (k * 4 + 1) = true := inR_iff.2 (by omega)
      have i2 : inR (k * 4) 4 (k * 4 + 2) = true := inR_iff.2 (by omega)
      have i3 : inR (k * 4) 4 (k * 4 + 3) = true := inR_iff.2 (by omega)
      rw [i0, i1, i2, i3]
      simp only [cond_true, Nat.sub_self, Nat.add_sub_cancel_left]
      exact okC_four n
    · have i0 : inR (k0 * 4) 4 (k * 4) = false := inR_f (by omega)
      have i1 : inR (k0 * 4) 4 (k * 4 + 1) = false := inR_f (by omega)
      have i2 : inR (k0 * 4) 4 (k * 4 + 2) = false := inR_f (by omega)
      have i3 : inR (k0 * 4) 4 (k * 4 + 3) = false := inR_f (by omega)
      rw [i0, i1, i2, i3]
      simp only [cond_false]
      exact h k hk
theorem sX_ok {rr cw : Nat} {l : List Int} {o : Nat} : ∀ i j, okRow (sX rr cw l o i j) cw
  | 0, _ => okRow_blank cw
  | i + 1, j => okRow_put (sX_ok i j)
end Go.Proofs.Ytohleiikedpmkaa.W

namespace Go.Proofs.Ytohleiikedpmkaa.W
open Go Go.Proofs.Ytohleiikedpmkaa.Vm
def sN (L : Rn) : Nat → Nat
  | 0 => 0
  | k + 1 => sN L k + rn L k
def cR (Y X : Nat → Nat → Int) (j : Nat) : Nat → Nat
  | 0 => 0
  | k + 1 => bif eqc Y X j k then cR Y X j k else cR Y X j k + 1
def cA (Y X : Nat → Nat → Int) (cw : Nat) : Nat → Nat
  | 0 => 0
  | i + 1 => cA Y X cw i + cR Y X i cw
def okRuns (X Y : Nat → Nat → Int) (rr cw : Nat) (L : Rn) : Prop := ∀ q, q < L.length → 1 ≤ rn L q ∧ ra L q < rr ∧ rb L q + rn L q ≤ cw ∧ (∀ p, p < rn L q → eqc Y X (ra L q) (rb L q + p) = false) ∧ (∀ q', q = q' + 1 → ra L q' < ra L q ∨ (ra L q' = ra L q ∧ rb L q' + rn L q' < rb L q))
theorem sN_app {L : Rn} {x : Nat × Nat × Nat} : ∀ k, k ≤ L.length → sN (L ++ [x]) k = sN L k
  | 0, _ => rfl
  | k + 1, h => by
    show sN (L ++ [x]) k + rn (L ++ [x]) k = sN L k + rn L k
    rw [sN_app k (by omega), (ra_old (x := x) (show k < L.length by omega)).2.2]
theorem cR_run {Y X : Nat → Nat → Int} {j k : Nat} : ∀ d, (∀ q, k ≤ q → q < k + d → eqc Y X j q = false) → cR Y X j (k + d) = cR Y X j k + d
  | 0, _ => rfl
  | d + 1, h => by
    show (bif eqc Y X j (k + d) then cR Y X j (k + d) else cR Y X j (k + d) + 1) = _
    rw [h (k + d) (by omega) (by omega), cR_run d (fun q h1 h2 => h q h1 (by omega))]
    rfl
structure Good (X Y : Nat → Nat → Int) (rr cw : Nat) (i k : Nat) (L : Rn) : Prop where
  ok : okRuns X Y rr cw L
  last : ∀ q, q + 1 = L.length → ra L q < i ∨ (ra L q = i ∧ rb L q + rn L q < k)
  sum : sN L L.length = cA Y X cw i + cR Y X i (min k cw)
theorem Good.add {X Y : Nat → Nat → Int} {rr cw i k S : Nat} {L : Rn} (h : Good X Y rr cw i k L) (hi : i < rr) (h1 : k < S) (h2 : S ≤ cw) (h3 : ∀ q, k ≤ q → q < S → eqc Y X i q = false) (h4 : S = cw ∨ eqc Y X i S = true) : Good X Y rr cw i (S + 1) (L ++ [(i, k, S - k)]) := by
  have hl : (L ++ [(i, k, S - k)]).length = L.length + 1 := by simp
  obtain ⟨n1, n2, n3⟩ := ra_new (L := L) (x := (i, k, S - k))
  have n1 : ra (L ++ [(i, k, S - k)]) L.length = i := n1
  have n2 : rb (L ++ [(i, k, S - k)]) L.length = k := n2
  have n3 : rn (L ++ [(i, k, S - k)]) L.length = S - k := n3
  refine ⟨fun q hq => ?_, fun q hq => ?_, ?_⟩
  · by_cases hlt : q < L.length
    · obtain ⟨o1, o2, o3⟩ := ra_old (x := (i, k, S - k)) hlt
      obtain ⟨g1, g2, g3, g4, g5⟩ := h.ok q hlt
      rw [o1, o2, o3]
      refine ⟨g1, g2, g3, g4, fun q' hq' => ?_⟩
      obtain ⟨p1, p2, p3⟩ := ra_old (x := (i, k, S - k)) (show q' < L.length by omega)
      rw [p1, p2, p3]
      exact g5 q' hq'
    · have e : q = L.length := by omega
      subst e
      rw [n1, n2, n3]
      refine ⟨by omega, hi, by omega, fun p hp => h3 (k + p) (by omega) (by omega), fun q' hq' => ?_⟩
      obtain ⟨p1, p2, p3⟩ := ra_old (x := (i, k, S - k)) (show q' < L.length by omega)
      rw [p1, p2, p3]
      exact h.last q' hq'.symm
  · have e : q = L.length := by omega
    subst e
    rw [n1, n2, n3]
    exact .inr ⟨rfl, by omega⟩
  · rw [hl]
    show sN (L ++ [(i, k, S - k)]) L.length + rn (L ++ [(i, k, S - k)]) L.length = _
    rw [sN_app _ (Nat.le_refl _), n3, h.sum, Nat.min_eq_left (show k ≤ cw by omega)]
    have e1 : cR Y X i S = cR Y X i k + (S - k) := by
      have := cR_run (k := k) (S - k) (fun q h5 h6 => h3 q h5 (by omega))
      rwa [show k + (S - k) = S by omega] at this
    rcases h4 with h4 | h4
    · rw [Nat.min_eq_right (by omega)]
      rw [h4] at e1 ⊢
      omega
    · by_cases hs : S < cw
      · rw [Nat.min_eq_left (by omega)]
        have e2 : cR Y X i (S + 1) = cR Y X i S := by
          show (bif eqc Y X i S then cR Y X i S else cR Y X i S + 1) = _
          rw [h4]; rfl
        omega
      · have e3 : S = cw := by omega
        rw [Nat.min_eq_right (by omega)]
        rw [e3] at e1 ⊢
        omega
theorem Good.skip {X Y : Nat → Nat → Int} {rr cw i k : Nat} {L : Rn} (h : Good X Y rr cw i k L) (h2 : k < cw) (h4 : eqc Y X i k = true) : Good X Y rr cw i (k + 1) L := by
  refine ⟨h.ok, fun q hq => ?_, ?_⟩
  · rcases h.last q hq with h5 | h5
    · exact .inl h5
    · exact .inr ⟨h5.1, by omega⟩
  · rw [h.sum, Nat.min_eq_left (by omega), Nat.min_eq_left (by omega)]
    have e2 : cR Y X i (k + 1) = cR Y X i k := by
      show (bif eqc Y X i k then cR Y X i k else cR Y X i k + 1) = _
      rw [h4]; rfl
    omega
theorem Good.rows {X Y : Nat → Nat → Int} {rr cw i : Nat} (hi : i < rr) : ∀ n k L, Good X Y rr cw i k L → k ≤ cw + 1 → cw - k ≤ n → Good X Y rr cw (i + 1) 0 (rowRuns Y X i cw n k L)
  | 0, k, L, h, hk, hn => by
    show Good X Y rr cw (i + 1) 0 L
    refine ⟨h.ok, fun q hq => ?_, ?_⟩
    · rcases h.last q hq with h5 | h5
      · exact .inl (by omega)
      · exact .inl (by omega)
    · rw [h.sum, Nat.min_eq_right (by omega), Nat.zero_min]; rfl
  | n + 1, k, L, h, hk, hn => by
    by_cases hlt : k < cw
    · obtain ⟨s1, s2, s3, s4⟩ := stopAt_spec Y X i (Nat.le_of_lt hlt)
      simp only [rowRuns, bltT hlt, cond_true]
      by_cases hs : k < stopAt Y X i cw k
      · rw [bltT hs]
        simp only [cond_true]
        exact Good.rows hi n _ _ (h.add hi hs s2 s3 s4) (by omega) (by omega)
      · rw [bltF hs]
        simp only [cond_false]
        have e : stopAt Y X i cw k = k := by omega
        rw [e] at s4 ⊢
        have h4 : eqc Y X i k = true := by
          rcases s4 with s4 | s4
          · omega
          · exact s4
        exact Good.rows hi n _ _ (h.skip hlt h4) (by omega) (by omega)
    · rw [rowRuns_ge (by omega)]
      refine ⟨h.ok, fun q hq => ?_, ?_⟩
      · rcases h.last q hq with h5 | h5
        · exact .inl (by omega)
        · exact .inl (by omega)
      · rw [h.sum, Nat.min_eq_right (by omega), Nat.zero_min]; rfl
theorem runs_good {X Y : Nat → Nat → Int} {rr cw : Nat} : ∀ i, i ≤ rr → Good X Y rr cw i 0 (runs Y X cw i)
  | 0, _ => ⟨fun q hq => by simp [runs] at hq, fun q hq => by simp [runs] at hq, by simp [runs, sN, cA, cR]⟩
  | i + 1, h => Good.rows (by omega) _ _ _ (runs_good i (by omega)) (by omega) (by omega)
theorem runs_ok (X Y : Nat → Nat → Int) (rr cw : Nat) : okRuns X Y rr cw (runs Y X cw rr) := (runs_good rr (Nat.le_refl _)).ok
theorem runs_sum (X Y : Nat → Nat → Int) (rr cw : Nat) : sN (runs Y X cw rr) (runs Y X cw rr).length = cA Y X cw rr := by
  have := (runs_good (X := X) (Y := Y) (cw := cw) rr (Nat.le_refl _)).sum
  rw [this, Nat.zero_min]; rfl
end Go.Proofs.Ytohleiikedpmkaa.W

namespace Go.Proofs.Ytohleiikedpmkaa.W
open Go Go.Proofs.Ytohleiikedpmkaa.Vm
def appZ (Y Z : Nat → Nat → Int) (L : Rn) : Nat → Nat → Nat → Int
  | 0 => Z
  | i + 1 => fun j p => bif Nat.beq j (ra L i) && inR (rb L i * 4) (rn L i * 4) p then Y j p else appZ Y Z L i j p
theorem appZ_or (Y Z : Nat → Nat → Int) (L : Rn) (j p : Nat) : ∀ i, appZ Y Z L i j p = Y j p ∨ appZ Y Z L i j p = Z j p
  | 0 => .inr rfl
  | i + 1 => by
    show (bif Nat.beq j (ra L i) && inR (rb L i * 4) (rn L i * 4) p then Y j p else appZ Y Z L i j p) = _ ∨ (bif Nat.beq j (ra L i) && inR (rb L i * 4) (rn L i * 4) p then Y j p else appZ Y Z L i j p) = _
    cases Nat.beq j (ra L i) && inR (rb L i * 4) (rn L i * 4) p with
    | true => exact .inl rfl
    | false => exact appZ_or Y Z L j p i
theorem appZ_cov {Y Z : Nat → Nat → Int} {L : Rn} {j p q : Nat} (h1 : ra L q = j) (h2 : rb L q * 4 ≤ p) (h3 : p < rb L q * 4 + rn L q * 4) : ∀ i, q < i → appZ Y Z L i j p = Y j p
  | 0, h => by omega
  | i + 1, h => by
    show (bif Nat.beq j (ra L i) && inR (rb L i * 4) (rn L i * 4) p then Y j p else appZ Y Z L i j p) = _
    by_cases e : q = i
    · subst e
      rw [h1, Nat.beq_refl, inR_iff.2 ⟨h2, h3⟩]; rfl
    · have := appZ_cov (Y := Y) (Z := Z) h1 h2 h3 i (by omega)
      rw [this]
      cases Nat.beq j (ra L i) && inR (rb L i * 4) (rn L i * 4) p <;> rfl
def Cov (X Y : Nat → Nat → Int) (cw i k : Nat) (L : Rn) : Prop := ∀ j c, c < cw → (j < i ∨ (j = i ∧ c < k)) → eqc Y X j c = false → ∃ q, q < L.length ∧ ra L q = j ∧ rb L q ≤ c ∧ c < rb L q + rn L q
theorem Cov.add {X Y : Nat → Nat → Int} {cw i k S : Nat} {L : Rn} (h : Cov X Y cw i k L) (h4 : S = cw ∨ eqc Y X i S = true) : Cov X Y cw i (S + 1) (L ++ [(i, k, S - k)]) := by
  intro j c hc hj he
  have hl : (L ++ [(i, k, S - k)]).length = L.length + 1 := by simp
  by_cases h0 : j < i ∨ (j = i ∧ c < k)
  · obtain ⟨q, g1, g2, g3, g4⟩ := h j c hc h0 he
    obtain ⟨o1, o2, o3⟩ := ra_old (x := (i, k, S - k)) g1
    exact ⟨q, by omega, by rw [o1]; exact g2, by rw [o2]; exact g3, by rw [o2, o3]; exact g4⟩
  · obtain ⟨n1, n2, n3⟩ := ra_new (L := L) (x := (i, k, S - k))
    have n1 : ra (L ++ [(i, k, S - k)]) L.length = i := n1
    have n2 : rb (L ++ [(i, k, S - k)]) L.length = k := n2
    have n3 : rn (L ++ [(i, k, S - k)]) L.length = S - k := n3
    have hji : j = i := by omega
    have hcS : c ≠ S := by
      intro e
      rcases h4 with h4 | h4
      · omega
      · rw [hji, e, h4] at he; simp at he
    exact ⟨L.length, by omega, by rw [n1, hji], by rw [n2]; omega, by rw [n2, n3]; omega⟩
theorem Cov.skip {X Y : Nat → Nat → Int} {cw i k : Nat} {L : Rn} (h : Cov X Y cw i k L) (h4 : eqc Y X i k = true) : Cov X Y cw i (k + 1) L := by
  intro j c hc hj he
  refine h j c hc ?_ he
  by_cases e : j = i ∧ c = k
  · rw [e.1, e.2, h4] at he; simp at he
  · omega
theorem Cov.rows {X Y : Nat → Nat → Int} {cw i : Nat} : ∀ n k L, Cov X Y cw i k L → k ≤ cw + 1 → cw - k ≤ n → Cov X Y cw (i + 1) 0 (rowRuns Y X i cw n k L)
  | 0, k, L, h, hk, hn => fun j c hc hj he => h j c hc (by omega) he
  | n + 1, k, L, h, hk, hn => by
    by_cases hlt : k < cw
    · obtain ⟨s1, s2, s3, s4⟩ := stopAt_spec Y X i (Nat.le_of_lt hlt)
      simp only [rowRuns, bltT hlt, cond_true]
      by_cases hs : k < stopAt Y X i cw k
      · rw [bltT hs]
        simp only [cond_true]
        exact Cov.rows n _ _ (h.add s4) (by omega) (by omega)
      · rw [bltF hs]
        simp only [cond_false]
        have e : stopAt Y X i cw k = k := by omega
        rw [e] at s4 ⊢
        have h4 : eqc Y X i k = true := by
          rcases s4 with s4 | s4
          · omega
          · exact s4
        exact Cov.rows n _ _ (h.skip h4) (by omega) (by omega)
    · rw [rowRuns_ge (by omega)]
      exact fun j c hc hj he => h j c hc (by omega) he
theorem runs_cov {X Y : Nat → Nat → Int} {cw : Nat} : ∀ i, Cov X Y cw i 0 (runs Y X cw i)
  | 0 => fun j c _ hj _ => by omega
  | i + 1 => Cov.rows _ _ _ (runs_cov i) (by omega) (by omega)
theorem app_runs (Y Z : Nat → Nat → Int) (rr cw : Nat) {j p : Nat} (hj : j < rr) (hp : p < cw * 4) : appZ Y Z (runs Y Z cw rr) (runs Y Z cw rr).length j p = Y j p := by
  cases he : eqc Y Z j (p / 4) with
  | false =>
    obtain ⟨q, g1, g2, g3, g4⟩ := runs_cov (X := Z) (Y := Y) (cw := cw) rr j (p / 4) (by omega) (.inl hj) he
    exact appZ_cov g2 (by omega) (by omega) _ g1
  | true =>
    have e : Y j p = Z j p := by
      unfold eqc at he
      simp only [Bool.and_eq_true, beq_iff_eq, and_true] at he
      obtain ⟨a, b, c, d⟩ := he
      rcases (by omega : p = p / 4 * 4 ∨ p = p / 4 * 4 + 1 ∨ p = p / 4 * 4 + 2 ∨ p = p / 4 * 4 + 3) with e | e | e | e
      · rw [e]; exact a
      · rw [e]; exact b
      · rw [e]; exact c
      · rw [e]; exact d
    rcases appZ_or Y Z (runs Y Z cw rr) j p (runs Y Z cw rr).length with h | h
    · exact h
    · rw [h, e]
theorem okRow_at {x : Nat → Int} {n m b : Nat} (h : okRow x n) (hb : b + m ≤ n) : okRow (fun p => x (p + b * 4)) m := by
  intro k hk
  have := h (k + b) (by omega)
  rw [show (k + b) * 4 = k * 4 + b * 4 by omega] at this
  show okC (x (k * 4 + b * 4)) (x (k * 4 + 1 + b * 4)) (x (k * 4 + 2 + b * 4)) (x (k * 4 + 3 + b * 4))
  rw [show k * 4 + 1 + b * 4 = k * 4 + b * 4 + 1 by omega, show k * 4 + 2 + b * 4 = k * 4 + b * 4 + 2 by omega, show k * 4 + 3 + b * 4 = k * 4 + b * 4 + 3 by omega]
  exact this
end Go.Proofs.Ytohleiikedpmkaa.W
namespace Go.Proofs.Ytohleiikedpmkaa.Vm
open Go Go.Proofs Go.Proofs.Ytohleiikedpmkaa
theorem app_loop (rr cw : Nat) (X : Nat → Nat → Int) (rr2 cw2 : Nat) (ro2 co2 : Int) (hi2 : Bool) (L : W.Rn) (Y : Nat → Nat → Int)
    (hrr : 1 ≤ rr ∧ rr ≤ 60) (hcw : 1 ≤ cw ∧ cw ≤ 120) (hX : ∀ j, j < rr → W.okRow (X j) cw)
    (hrr2 : 1 ≤ rr2 ∧ rr2 ≤ 60) (hcw2 : 1 ≤ cw2 ∧ cw2 ≤ 120) (hro2 : 0 ≤ ro2 ∧ ro2 < rr2) (hco2 : 0 ≤ co2 ∧ co2 < cw2) (hL : L.length ≤ 4000)
    (hok : ∀ q, q < L.length → 1 ≤ W.rn L q ∧ W.ra L q < rr2 ∧ W.rb L q + W.rn L q ≤ cw2) (hY : ∀ j, j < rr2 → W.okRow (Y j) cw2) :
    CodeOk Try.prog 108 677 (kAt (kOf Try.prog Try.f15) [true, true, true, false, true, false]) (LAa0 rr cw X rr2 cw2 ro2 co2 hi2 L Y) (.exit 0) (LAaI rr cw X rr2 cw2 ro2 co2 hi2 L Y L.length (W.appZ Y (W.frX rr cw X rr2 cw2) L L.length)) := by
  have hro : (0 : Int) ≤ 0 ∧ (0 : Int) < rr := by omega
  have hco : (0 : Int) ≤ 0 ∧ (0 : Int) < cw := by omega
  have h : CodeOk Try.prog 108 677 (kAt (kOf Try.prog Try.f15) [true, true, true, false, true, false]) (LAaI rr cw X rr2 cw2 ro2 co2 hi2 L Y 0 (W.appZ Y (W.frX rr cw X rr2 cw2) L 0)) (.exit 0) (LAaI rr cw X rr2 cw2 ro2 co2 hi2 L Y L.length (W.appZ Y (W.frX rr cw X rr2 cw2) L L.length)) := by
    generalize W.frX rr cw X rr2 cw2 = Z
    refine LAa_by (fun i => LAaI rr cw X rr2 cw2 ro2 co2 hi2 L Y i (W.appZ Y Z L i)) (fun i => i ≤ L.length) (fun i => L.length - i) (by simp) ?_ 0 (Nat.zero_le _)
    intro i hi
    by_cases h0 : (i : Int) < (L.length : Int)
    · have hq := hok i (by omega)
      have hr : W.rl rr2 (cw2 * 4) (W.ra L i) = cw2 * 4 := rl_lt hq.2.1
      refine .inl ⟨i + 1, by omega, by omega, (LAa_rt rr cw X 0 0 rr2 cw2 ro2 co2 hi2 L Y i (W.appZ Y Z L i) hrr hcw hro hco hX hrr2 hcw2 hro2 hco2 hL hok hY hi (fun _ => by omega) (fun _ => W.okRow_at (hY _ hq.2.1) hq.2.2) h0 (by rw [hr]; omega)).move (Move.same (by decide) (by decide) (by decide) rfl ?_)⟩
      refine ⟨SameB.refl rfl, fun j k e => SameB.refl e, SameB.refl rfl, fun j k e => SameB.refl e, SameB.refl rfl, SameB.refl rfl, SameB.refl rfl, ?_, SameB.refl rfl, trivial⟩
      intro j k e
      injection e with e
      subst e
      by_cases hj : j = W.ra L i
      · subst hj
        refine SameB.ig (((renF_upd _).trans (by rw [Nat.beq_refl]; rfl))) (fun h => h) (fun p _ => ?_) (fun p _ => ?_)
        · rw [Nat.min_eq_left (by omega)]
          cases hR : inR (W.rb L i * 4) (W.rn L i * 4) p with
          | false => rfl
          | true =>
            have h1 := inR_iff.1 hR
            show W.ck (p - W.rb L i * 4 + 0 + 0) = W.ck p
            unfold W.ck
            rw [show (p - W.rb L i * 4 + 0 + 0) % 4 = p % 4 by omega]
        · show _ = (bif Nat.beq (W.ra L i) (W.ra L i) && inR (W.rb L i * 4) (W.rn L i * 4) p then Y (W.ra L i) p else W.appZ Y Z L i (W.ra L i) p)
          rw [Nat.min_eq_left (by omega), Nat.beq_refl, Bool.true_and]
          cases hR : inR (W.rb L i * 4) (W.rn L i * 4) p with
          | false => rfl
          | true =>
            have h1 := inR_iff.1 hR
            show Y (W.ra L i) (p - W.rb L i * 4 + 0 + 0 + W.rb L i * 4) = Y (W.ra L i) p
            rw [show p - W.rb L i * 4 + 0 + 0 + W.rb L i * 4 = p by omega]
      · refine SameB.ig (((renF_upd _).trans (by rw [beqF hj]; rfl))) (fun h => h) (fun p _ => rfl) (fun p _ => ?_)
        show _ = (bif Nat.beq j (W.ra L i) && inR (W.rb L i * 4) (W.rn L i * 4) p then Y j p else W.appZ Y Z L i j p)
        rw [beqF hj, Bool.false_and]
        rfl
    · have e : i = L.length := by omega
      subst e
      exact .inr (LAa_xf rr cw X 0 0 rr2 cw2 ro2 co2 hi2 L Y L.length (W.appZ Y Z L L.length) hrr hcw hro hco hX hrr2 hcw2 hro2 hco2 hL hok hY hi (fun _ => by omega) (fun h => by omega) h0)
  refine CodeOk.enter (Move.same (by decide) (by decide) (by decide) rfl ?_) h
  exact ⟨SameB.refl rfl, fun j k e => SameB.refl e, SameB.refl rfl, fun j k e => SameB.refl e, SameB.refl rfl, SameB.refl rfl, SameB.refl rfl, fun j k e => SameB.refl e, SameB.refl rfl, trivial⟩
end Go.Proofs.Ytohleiikedpmkaa.Vm

namespace Go.Proofs.Ytohleiikedpmkaa.Vm
open Go Go.Proofs Go.Proofs.Ytohleiikedpmkaa
set_option maxRecDepth 100000
theorem app_ok (rr cw : Nat) (X : Nat → Nat → Int) (ro co : Int) (hi : Bool) (rr2 cw2 : Nat) (ro2 co2 : Int) (hi2 : Bool) (L : W.Rn) (Y : Nat → Nat → Int)
    (hrr : 1 ≤ rr ∧ rr ≤ 60)
    (hcw : 1 ≤ cw ∧ cw ≤ 120)
    (hro : 0 ≤ ro ∧ ro < rr)
    (hco : 0 ≤ co ∧ co < cw)
    (hX : ∀ j, j < rr → W.okRow (X j) cw)
    (hrr2 : 1 ≤ rr2 ∧ rr2 ≤ 60)
    (hcw2 : 1 ≤ cw2 ∧ cw2 ≤ 120)
    (hro2 : 0 ≤ ro2 ∧ ro2 < rr2)
    (hco2 : 0 ≤ co2 ∧ co2 < cw2)
    (hL : L.length ≤ 4000)
    (hok : ∀ q, q < L.length → 1 ≤ W.rn L q ∧ W.ra L q < rr2 ∧ W.rb L q + W.rn L q ≤ cw2)
    (hY : ∀ j, j < rr2 → W.okRow (Y j) cw2) :
    Contract0 Try.prog 15 [(.agg [(.int .i64 (↑rr)), (.int .i64 (↑cw)), (.sl 1 0 0 rr 1), (.int .i64 ro), (.int .i64 co), (.bool hi)]), (.agg [(.int .i64 (↑rr2)), (.int .i64 (↑cw2)), (.int .i64 ro2), (.int .i64 co2), (.bool hi2), (.sl 3 0 0 (List.length L) 3)])] [(1, (.one ⟨false, false, (.gen rr (fun j_ => (.sl 2 j_ 0 cw 4)))⟩)), (2, (.many (fun j_ => some ⟨false, false, (.ig (W.rl rr (cw * 4) j_) W.ck (fun p_ => (X j_ p_)))⟩))), (3, (.one ⟨false, false, (.row (List.length L * 3) 3 (fun j_ => [(.int .i64 (↑(W.ra L j_))), (.int .i64 (↑(W.rb L j_))), (.sl 4 j_ 0 (W.rn L j_) 4)]))⟩)), (4, (.many (fun j_ => some ⟨false, false, (.ig (W.rn L j_ * 4) W.ck (fun p_ => (Y (W.ra L j_) (p_ + W.rb L j_ * 4))))⟩)))] 5 (.tup [(.agg [(.int .i64 (↑rr2)), (.int .i64 (↑cw2)), (.sl 5 0 0 rr2 1), (.int .i64 ro2), (.int .i64 co2), (.bool hi2)]), (.c (.int .i64 0))]) [] [(5, (.one ⟨true, false, (.gen rr2 (fun j_ => (.sl 6 j_ 0 cw2 4)))⟩)), (6, (.many (fun j_ => some ⟨true, false, (.ig (W.rl rr2 (cw2 * 4) j_) W.ck (fun p_ => (W.appZ Y (W.frX rr cw X rr2 cw2) L (List.length L) j_ p_)))⟩)))] :=
  Contract0.renum (Contract0.of_frunF (res := (.tup [(.agg [(.int .i64 (↑rr2)), (.int .i64 (↑cw2)), (.sl 453 0 0 rr2 1), (.int .i64 ro2), (.int .i64 co2), (.bool hi2)]), (.c (.int .i64 0))])) (up := [(453, (.one ⟨true, false, (.gen rr2 (fun j_ => (.sl 454 j_ 0 cw2 4)))⟩)), (454, (.many (fun j_ => some ⟨true, false, (.ig (W.rl rr2 (cw2 * 4) j_) W.ck (fun p_ => (W.appZ Y (W.frX rr cw X rr2 cw2) L (List.length L) j_ p_)))⟩)))]) (kill := []) (n0 := 5) (m := [(1, (.one ⟨false, false, (.gen rr (fun j_ => (.sl 2 j_ 0 cw 4)))⟩)), (2, (.many (fun j_ => some ⟨false, false, (.ig (W.rl rr (cw * 4) j_) W.ck (fun p_ => (X j_ p_)))⟩))), (3, (.one ⟨false, false, (.row (List.length L * 3) 3 (fun j_ => [(.int .i64 (↑(W.ra L j_))), (.int .i64 (↑(W.rb L j_))), (.sl 4 j_ 0 (W.rn L j_) 4)]))⟩)), (4, (.many (fun j_ => some ⟨false, false, (.ig (W.rn L j_ * 4) W.ck (fun p_ => (Y (W.ra L j_) (p_ + W.rb L j_ * 4))))⟩)))]) (args := [(.agg [(.int .i64 (↑rr)), (.int .i64 (↑cw)), (.sl 1 0 0 rr 1), (.int .i64 ro), (.int .i64 co), (.bool hi)]), (.agg [(.int .i64 (↑rr2)), (.int .i64 (↑cw2)), (.int .i64 ro2), (.int .i64 co2), (.bool hi2), (.sl 3 0 0 (List.length L) 3)])]) (fn := Try.f15) (c := bodyOf Try.f15) (fuel := 300) (k := kOf Try.prog Try.f15) (outs := [453, 454]) (hs := [(5, ⟨.call [1, 2] (.c (.bool (true))) [] [], none⟩), (16, ⟨.call [] (.c (.bool (true))) [] [], none⟩), (29, ⟨.call [1, 2] (.c (.sl 453 0 0 rr2 1)) [] [(453, (.one ⟨true, false, (.gen rr2 (fun j_ => (.sl 454 j_ 0 cw2 4)))⟩)), (454, (.many (fun j_ => some ⟨true, false, (.ig (W.rl rr2 (cw2 * 4) j_) W.ck (fun p_ => (W.frX rr cw (fun j_ p_ => X j_ p_) rr2 cw2 j_ p_)))⟩)))], none⟩), (43, ⟨.sum ⟨[3, 4, 6, 44, 45, 5, 46], [1, 2, 3, 4, 21, 37, 453, 454, 581], [], 677⟩ (.exit 0) (LAaI rr cw X rr2 cw2 ro2 co2 hi2 L Y (List.length L) (W.appZ Y (W.frX rr cw X rr2 cw2) L (List.length L))), none⟩)])
    (cs := [OwnF (fun j_ => some ⟨true, false, (.ig (W.rl rr2 (cw2 * 4) j_) W.ck (fun p_ => (W.appZ Y (W.frX rr cw X rr2 cw2) L (List.length L) j_ p_)))⟩),
      CodeOk Try.prog 108 677 (kAt (kOf Try.prog Try.f15) [true, true, true, false, true, false]) (LAa0 rr cw X rr2 cw2 ro2 co2 hi2 L Y) (.exit 0) (LAaI rr cw X rr2 cw2 ro2 co2 hi2 L Y (List.length L) (W.appZ Y (W.frX rr cw X rr2 cw2) L (List.length L))),
      Contract Try.prog 30 [(.agg [(.int .i64 (↑rr)), (.int .i64 (↑cw)), (.sl 1 0 0 rr 1), (.int .i64 ro), (.int .i64 co), (.bool hi)]), (.c (.int .i64 (↑rr2))), (.c (.int .i64 (↑cw2)))] [(1, (.one ⟨false, false, (.gen rr (fun j_ => (.sl 2 j_ 0 cw 4)))⟩)), (2, (.many (fun j_ => some ⟨false, false, (.ig (W.rl rr (cw * 4) j_) W.ck (fun p_ => (X j_ p_)))⟩)))] 453 (.c (.sl 453 0 0 rr2 1)) [] [(453, (.one ⟨true, false, (.gen rr2 (fun j_ => (.sl 454 j_ 0 cw2 4)))⟩)), (454, (.many (fun j_ => some ⟨true, false, (.ig (W.rl rr2 (cw2 * 4) j_) W.ck (fun p_ => (W.frX rr cw (fun j_ p_ => X j_ p_) rr2 cw2 j_ p_)))⟩)))],
      Contract Try.prog 32 [(.c (.int .i64 (↑rr2))), (.c (.int .i64 (↑cw2))), (.c (.int .i64 ro2)), (.c (.int .i64 co2))] [] 261 (.c (.bool (true))) [] [],
      Contract Try.prog 19 [(.agg [(.int .i64 (↑rr)), (.int .i64 (↑cw)), (.sl 1 0 0 rr 1), (.int .i64 ro), (.int .i64 co), (.bool hi)])] [(1, (.one ⟨false, false, (.gen rr (fun j_ => (.sl 2 j_ 0 cw 4)))⟩)), (2, (.many (fun j_ => some ⟨false, false, (.ig (W.rl rr (cw * 4) j_) W.ck (fun p_ => (X j_ p_)))⟩)))] 85 (.c (.bool (true))) [] []])
    mixed Try.func15 (by kernel_rfl) (by kernel_rfl) (by kernel_rfl) ⟨rfl, (.inr (RoF.of (fun _ => rfl))), rfl, (.inr (RoF.of (fun _ => rfl))), trivial⟩ (by kernel_rfl) ⟨OwnF.of (fun _ => rfl), (app_loop rr cw X rr2 cw2 ro2 co2 hi2 L Y (by omega) (by omega) (by omega) (by omega) (by omega) (by omega) (by omega) (by omega) (by omega) (by omega)), Contract0.in1 (from_ok rr cw (fun j_ p_ => X j_ p_) ro co hi rr2 cw2 (by omega) (by omega) (by omega) (by omega) (by omega) (by omega) (by omega)) [.b 1 1 true [], .b 2 2 true []] [none, none, none] [(3, 453), (4, 454)] [] (by kernel_rfl), Contract0.in1 (size_ok ((↑rr2 : Int)) ((↑cw2 : Int)) ro2 co2 (by omega) (by omega) (by omega) (by omega)) [] [none, none, none, none] [] [] (by kernel_rfl), Contract0.in1 (right_ok rr cw (fun j_ p_ => X j_ p_) ro co hi (by omega) (by omega) (by omega) (by omega) (by omega)) [.b 1 1 true [], .b 2 2 true []] [none] [] [] (by kernel_rfl), trivial⟩) [.b 1 1 true, .b 2 2 true, .b 3 3 true, .b 4 4 true] [] [(453, 5), (454, 6)] [] (by kernel_rfl) (by kernel_rfl) (by kernel_rfl) (by kernel_rfl) (by kernel_rfl)
end Go.Proofs.Ytohleiikedpmkaa.Vm

namespace Go.Proofs.Ytohleiikedpmkaa.Vm
open Go Go.Proofs Go.Proofs.Ytohleiikedpmkaa
set_option maxRecDepth 100000
theorem short4 (a b c d : Int)
    (h0 : 0 ≤ a ∧ a ≤ 65535)
    (h1 : 0 ≤ b ∧ b ≤ 65535)
    (h2 : 0 ≤ c ∧ c ≤ 65535)
    (h3 : 0 ≤ d ∧ d ≤ 65535) :
    Contract0 Try.prog 41 [(.c (.sl 1 0 0 4 1))] [(1, (.one ⟨false, false, (.ints .i64 [a, b, c, d])⟩))] 2 (.c (.bool (true))) [] [] :=
  Contract0.fr 300 [(2, ⟨.call [1] (.c (.bool (false))) [] [], none⟩)] [] [Contract Try.prog 52 [(.c (.sl 1 0 0 4 1)), (.c (.fn 53 []))] [(1, (.one ⟨false, false, (.ints .i64 [a, b, c, d])⟩))] 34 (.c (.bool (false))) [] []] mixed Try.func41 (by kernel_rfl) ⟨Contract0.in1 (cti4 a b c d (by omega) (by omega) (by omega) (by omega)) [.b 1 1 true []] [none, none] [] [] (by kernel_rfl), trivial⟩
theorem short3 (a b c : Int)
    (h0 : 0 ≤ a ∧ a ≤ 65535)
    (h1 : 0 ≤ b ∧ b ≤ 65535)
    (h2 : 0 ≤ c ∧ c ≤ 65535) :
    Contract0 Try.prog 41 [(.c (.sl 1 0 0 3 1))] [(1, (.one ⟨false, false, (.ints .i64 [a, b, c])⟩))] 2 (.c (.bool (true))) [] [] :=
  Contract0.fr 300 [(2, ⟨.call [1] (.c (.bool (false))) [] [], none⟩)] [] [Contract Try.prog 52 [(.c (.sl 1 0 0 3 1)), (.c (.fn 53 []))] [(1, (.one ⟨false, false, (.ints .i64 [a, b, c])⟩))] 34 (.c (.bool (false))) [] []] mixed Try.func41 (by kernel_rfl) ⟨Contract0.in1 (cti3 a b c (by omega) (by omega) (by omega)) [.b 1 1 true []] [none, none] [] [] (by kernel_rfl), trivial⟩
end Go.Proofs.Ytohleiikedpmkaa.Vm

namespace Go.Proofs.Ytohleiikedpmkaa.Vm
open Go
theorem bOri {a b : Int} (h1 : 0 ≤ a) (h2 : a < 2 ^ 62) (h3 : 0 ≤ b) (h4 : b < 2 ^ 62) : bOr .i64 a b = ((a.toNat ||| b.toNat : Nat) : Int) := by
  unfold bOr
  have ea : (BitVec.ofInt IntKind.i64.bits a).toNat = a.toNat := by
    rw [BitVec.toNat_ofInt]
    show (a % ((2 ^ 64 : Nat) : Int)).toNat = _
    rw [Int.emod_eq_of_lt h1 (by omega)]
  have eb : (BitVec.ofInt IntKind.i64.bits b).toNat = b.toNat := by
    rw [BitVec.toNat_ofInt]
    show (b % ((2 ^ 64 : Nat) : Int)).toNat = _
    rw [Int.emod_eq_of_lt h3 (by omega)]
  rw [BitVec.toNat_or, ea, eb]
  have hl : a.toNat ||| b.toNat < 2 ^ 62 := Nat.or_lt_two_pow (by omega) (by omega)
  exact wrap_i64 (Int.natCast_nonneg _) (by omega)
theorem ori_add {a b : Int} (k : Nat) (h1 : 0 ≤ a) (h2 : a < 2 ^ k) (h3 : 0 ≤ b) (h5 : b < 2 ^ 62) (hk : (2 : Int) ^ k ≤ 2 ^ 62) (hb : b % 2 ^ k = 0) : bOr .i64 b a = b + a := by
  rw [bOri h3 h5 h1 (by omega)]
  have e : b.toNat ||| a.toNat = b.toNat + a.toNat := by
    refine nat_join k b.toNat a.toNat ?_ ?_
    · have : ((b.toNat % 2 ^ k : Nat) : Int) = 0 := by rw [Int.natCast_emod, Int.toNat_of_nonneg h3]; simpa using hb
      exact_mod_cast this
    · have : ((a.toNat : Nat) : Int) < ((2 ^ k : Nat) : Int) := by rw [Int.toNat_of_nonneg h1]; simpa using h2
      exact_mod_cast this
  rw [e]; omega
theorem byteD {l : List Int} (h : W.bytes l) (o : Nat) : 0 ≤ List.getD l o 0 ∧ List.getD l o 0 < 256 := by
  by_cases ho : o < l.length
  · rw [List.getD_eq_getElem?_getD, List.getElem?_eq_getElem ho, Option.getD_some]
    exact h _ (List.getElem_mem ho)
  · rw [List.getD_eq_getElem?_getD, List.getElem?_eq_none (by omega), Option.getD_none]; omega
end Go.Proofs.Ytohleiikedpmkaa.Vm
namespace Go.Proofs.Ytohleiikedpmkaa.W
def be2 (l : List Int) (o : Nat) : Int := List.getD l o 0 * 256 + List.getD l (o + 1) 0
def be3 (l : List Int) (o : Nat) : Int := List.getD l o 0 * 65536 + List.getD l (o + 1) 0 * 256 + List.getD l (o + 2) 0
end Go.Proofs.Ytohleiikedpmkaa.W
namespace Go.Proofs.Ytohleiikedpmkaa.Vm
open Go Go.Proofs Go.Proofs.Ytohleiikedpmkaa
theorem or_one {a : Int} (h : 0 ≤ a ∧ a < 256) : bOr IntKind.i64 0 (IntKind.wrap IntKind.i64 a) = a := by
  rw [wrap_i64 h.1 (by omega), ori_add 8 h.1 (by omega) (by decide) (by decide) (by decide) (by decide)]
  omega
theorem or_two {a b : Int} (h : 0 ≤ a ∧ a < 256) (h2 : 0 ≤ b ∧ b < 256) : bOr IntKind.i64 (IntKind.wrap IntKind.i64 (bOr IntKind.i64 0 (IntKind.wrap IntKind.i64 a) * 256)) (IntKind.wrap IntKind.i64 b) = a * 256 + b := by
  rw [or_one h, wrap_i64 h2.1 (by omega), wrap_i64 (n := a * 256) (by omega) (by omega), ori_add 8 h2.1 (by omega) (by omega) (by omega) (by decide) (by omega)]
theorem or_three {a b c : Int} (h : 0 ≤ a ∧ a < 256) (h2 : 0 ≤ b ∧ b < 256) (h3 : 0 ≤ c ∧ c < 256) : bOr IntKind.i64 (IntKind.wrap IntKind.i64 ((a * 256 + b) * 256)) (IntKind.wrap IntKind.i64 c) = a * 65536 + b * 256 + c := by
  rw [wrap_i64 h3.1 (by omega), wrap_i64 (n := (a * 256 + b) * 256) (by omega) (by omega), ori_add 8 h3.1 (by omega) (by omega) (by omega) (by decide) (by omega)]
  omega
theorem take1_ok (l : List Int) (o n : Nat) (hl : o + n ≤ l.length) (hk : 1 ≤ n) (hn : n ≤ 1048576) (hb : W.bytes l) :
    Contract0 Try.prog 46 [(.c (.ptr 1 0 0)), (.c (.int .i64 1))] [(1, (.one ⟨true, true, (.cells [(.sl 2 0 o n 1), (.bool (false))])⟩)), (2, (.one ⟨true, false, (.ints .u8 l)⟩))] 3 (.c (.int .i64 (List.getD l o 0))) [] [(1, (.one ⟨true, true, (.cells [(.sl 2 0 (o + 1) (n - 1) 1), (.bool (false))])⟩)), (2, (.one ⟨true, false, (.ints .u8 l)⟩))] := by
  have h := take1 l o n hl hk hn hb
  rwa [or_one (byteD hb o)] at h
theorem take2_ok (l : List Int) (o n : Nat) (hl : o + n ≤ l.length) (hk : 2 ≤ n) (hn : n ≤ 1048576) (hb : W.bytes l) :
    Contract0 Try.prog 46 [(.c (.ptr 1 0 0)), (.c (.int .i64 2))] [(1, (.one ⟨true, true, (.cells [(.sl 2 0 o n 1), (.bool (false))])⟩)), (2, (.one ⟨true, false, (.ints .u8 l)⟩))] 3 (.c (.int .i64 (W.be2 l o))) [] [(1, (.one ⟨true, true, (.cells [(.sl 2 0 (o + 2) (n - 2) 1), (.bool (false))])⟩)), (2, (.one ⟨true, false, (.ints .u8 l)⟩))] :=
  take2 l o n _ hl hk hn hb (or_two (byteD hb o) (byteD hb (o + 1)))
theorem take3_ok (l : List Int) (o n : Nat) (hl : o + n ≤ l.length) (hk : 3 ≤ n) (hn : n ≤ 1048576) (hb : W.bytes l) :
    Contract0 Try.prog 46 [(.c (.ptr 1 0 0)), (.c (.int .i64 3))] [(1, (.one ⟨true, true, (.cells [(.sl 2 0 o n 1), (.bool (false))])⟩)), (2, (.one ⟨true, false, (.ints .u8 l)⟩))] 3 (.c (.int .i64 (W.be3 l o))) [] [(1, (.one ⟨true, true, (.cells [(.sl 2 0 (o + 3) (n - 3) 1), (.bool (false))])⟩)), (2, (.one ⟨true, false, (.ints .u8 l)⟩))] := by
  have h := take3 l o n _ hl hk hn hb (or_two (byteD hb o) (byteD hb (o + 1)))
  rwa [or_three (byteD hb o) (byteD hb (o + 1)) (byteD hb (o + 2))] at h
end Go.Proofs.Ytohleiikedpmkaa.Vm
