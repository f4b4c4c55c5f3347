/- What functions of the program come to: parts of the walk (Sa). -/
import Derived.Test.YtmfnldkiaodkpaaOa
import Derived.KernelRfl
import Derived.Test.YtmfnldkiaodkpaaProg
set_option linter.unusedSimpArgs false
set_option linter.unusedVariables false
namespace Go.Proofs.Ytmfnldkiaodkpaa.Vm
open Go Go.Proofs Go.Proofs.Ytmfnldkiaodkpaa
set_option maxRecDepth 100000
theorem bfirst :
    PureF Try.prog 88 [] (.aggi .u32 [1779033703, 3144134277, 1013904242, 2773480762, 1359893119, 2600822924, 528734635, 1541459225]) :=
  Contract0.fr 300 [] [] [] mixed Try.func88 (by kernel_rfl) trivial
theorem bsigma0 :
    PureF Try.prog 99 [(.c (.int .i64 0))] (.aggi .i64 [0, 1, 2, 3, 4, 5, 6, 7, 8, 9, 10, 11, 12, 13, 14, 15]) :=
  Contract0.fr 300 [] [] [] mixed Try.func99 (by kernel_rfl) trivial
theorem bsigma1 :
    PureF Try.prog 99 [(.c (.int .i64 1))] (.aggi .i64 [14, 10, 4, 8, 9, 15, 13, 6, 1, 12, 0, 2, 11, 7, 5, 3]) :=
  Contract0.fr 300 [] [] [] mixed Try.func99 (by kernel_rfl) trivial
theorem bsigma2 :
    PureF Try.prog 99 [(.c (.int .i64 2))] (.aggi .i64 [11, 8, 12, 0, 5, 2, 15, 13, 10, 14, 3, 6, 7, 1, 9, 4]) :=
  Contract0.fr 300 [] [] [] mixed Try.func99 (by kernel_rfl) trivial
theorem bsigma3 :
    PureF Try.prog 99 [(.c (.int .i64 3))] (.aggi .i64 [7, 9, 3, 1, 13, 12, 11, 14, 2, 6, 5, 10, 4, 0, 15, 8]) :=
  Contract0.fr 300 [] [] [] mixed Try.func99 (by kernel_rfl) trivial
theorem bsigma4 :
    PureF Try.prog 99 [(.c (.int .i64 4))] (.aggi .i64 [9, 0, 5, 7, 2, 4, 10, 15, 14, 1, 11, 12, 6, 8, 3, 13]) :=
  Contract0.fr 300 [] [] [] mixed Try.func99 (by kernel_rfl) trivial
theorem bsigma5 :
    PureF Try.prog 99 [(.c (.int .i64 5))] (.aggi .i64 [2, 12, 6, 10, 0, 11, 8, 3, 4, 13, 7, 5, 15, 14, 1, 9]) :=
  Contract0.fr 300 [] [] [] mixed Try.func99 (by kernel_rfl) trivial
theorem bsigma6 :
    PureF Try.prog 99 [(.c (.int .i64 6))] (.aggi .i64 [12, 5, 1, 15, 14, 13, 4, 10, 0, 7, 6, 3, 9, 2, 8, 11]) :=
  Contract0.fr 300 [] [] [] mixed Try.func99 (by kernel_rfl) trivial
theorem bsigma7 :
    PureF Try.prog 99 [(.c (.int .i64 7))] (.aggi .i64 [13, 11, 7, 14, 12, 1, 3, 9, 5, 0, 15, 4, 8, 6, 2, 10]) :=
  Contract0.fr 300 [] [] [] mixed Try.func99 (by kernel_rfl) trivial
theorem bsigma8 :
    PureF Try.prog 99 [(.c (.int .i64 8))] (.aggi .i64 [6, 15, 14, 9, 11, 3, 0, 8, 12, 2, 13, 7, 1, 4, 10, 5]) :=
  Contract0.fr 300 [] [] [] mixed Try.func99 (by kernel_rfl) trivial
theorem bsigma9 :
    PureF Try.prog 99 [(.c (.int .i64 9))] (.aggi .i64 [10, 2, 8, 4, 7, 6, 1, 5, 15, 11, 9, 14, 3, 12, 13, 0]) :=
  Contract0.fr 300 [] [] [] mixed Try.func99 (by kernel_rfl) trivial
theorem rotm16 (a : Int) :
    PureF Try.prog 98 [(.c (.int .u32 a)), (.c (.int .i64 (-16)))] (.c (.int .u32 (bOr IntKind.u32 (a * 65536 % 4294967296) (a / 65536)))) :=
  Contract0.fr 300 [] [] [] mixed Try.func98 (by kernel_rfl) trivial
theorem rotm12 (a : Int) :
    PureF Try.prog 98 [(.c (.int .u32 a)), (.c (.int .i64 (-12)))] (.c (.int .u32 (bOr IntKind.u32 (a * 1048576 % 4294967296) (a / 4096)))) :=
  Contract0.fr 300 [] [] [] mixed Try.func98 (by kernel_rfl) trivial
theorem rotm8 (a : Int) :
    PureF Try.prog 98 [(.c (.int .u32 a)), (.c (.int .i64 (-8)))] (.c (.int .u32 (bOr IntKind.u32 (a * 16777216 % 4294967296) (a / 256)))) :=
  Contract0.fr 300 [] [] [] mixed Try.func98 (by kernel_rfl) trivial
theorem rotm7 (a : Int) :
    PureF Try.prog 98 [(.c (.int .u32 a)), (.c (.int .i64 (-7)))] (.c (.int .u32 (bOr IntKind.u32 (a * 33554432 % 4294967296) (a / 128)))) :=
  Contract0.fr 300 [] [] [] mixed Try.func98 (by kernel_rfl) trivial
theorem bmix0 (ex : Bool) (v0 v1 v2 v3 v4 v5 v6 v7 v8 v9 v10 v11 v12 v13 v14 v15 x y x0 x2 x4 x6 x8 x10 x12 : Int)
    (h1 : (bXor IntKind.u32 v12 ((v0 + (v4 + x) % 4294967296) % 4294967296)) = x0)
    (h3 : ((v8 + bOr IntKind.u32 (x0 * 65536 % 4294967296) (x0 / 65536)) % 4294967296) = x2)
    (h5 : (bOr IntKind.u32 (bXor IntKind.u32 v4 x2 * 1048576 % 4294967296) (bXor IntKind.u32 v4 x2 / 4096)) = x4)
    (h7 : (((v0 + (v4 + x) % 4294967296) % 4294967296 + (x4 + y) % 4294967296) % 4294967296) = x6)
    (h9 : (bXor IntKind.u32 (bOr IntKind.u32 (x0 * 65536 % 4294967296) (x0 / 65536)) x6) = x8)
    (h11 : ((x2 + bOr IntKind.u32 (x8 * 16777216 % 4294967296) (x8 / 256)) % 4294967296) = x10)
    (h13 : (bOr IntKind.u32 (bXor IntKind.u32 v4 x2 * 1048576 % 4294967296) (bXor IntKind.u32 v4 x2 / 4096)) = x12) :
    Contract0 Try.prog 97 [(.c (.int .i64 0)), (.c (.int .i64 4)), (.c (.int .i64 8)), (.c (.int .i64 12)), (.c (.int .u32 x)), (.c (.int .u32 y)), (.c (.ptr 1 0 0))] [(1, (.one ⟨true, ex, (.ints .u32 [v0, v1, v2, v3, v4, v5, v6, v7, v8, v9, v10, v11, v12, v13, v14, v15])⟩))] 2 (.tup []) [] [(1, (.one ⟨true, ex, (.ints .u32 [x6, v1, v2, v3, (bOr IntKind.u32 (bXor IntKind.u32 x12 x10 * 33554432 % 4294967296) (bXor IntKind.u32 x12 x10 / 128)), v5, v6, v7, x10, v9, v10, v11, (bOr IntKind.u32 (x8 * 16777216 % 4294967296) (x8 / 256)), v13, v14, v15])⟩))] :=
  Contract0.renum (Contract0.of_frun (res := (.tup [])) (up := [(1, (.one ⟨true, ex, (.ints .u32 [x6, v1, v2, v3, (bOr IntKind.u32 (bXor IntKind.u32 x12 x10 * 33554432 % 4294967296) (bXor IntKind.u32 x12 x10 / 128)), v5, v6, v7, x10, v9, v10, v11, (bOr IntKind.u32 (x8 * 16777216 % 4294967296) (x8 / 256)), v13, v14, v15])⟩))]) (kill := []) (n0 := 2) (m := [(1, (.one ⟨true, ex, (.ints .u32 [v0, v1, v2, v3, v4, v5, v6, v7, v8, v9, v10, v11, v12, v13, v14, v15])⟩))]) (args := [(.c (.int .i64 0)), (.c (.int .i64 4)), (.c (.int .i64 8)), (.c (.int .i64 12)), (.c (.int .u32 x)), (.c (.int .u32 y)), (.c (.ptr 1 0 0))]) (fn := Try.f97) (c := bodyOf Try.f97) (fuel := 300) (k := kOf Try.prog Try.f97) (outs := [1]) (hs := [(18, ⟨.auto, some (.c (.int .u32 x0))⟩), (19, ⟨.call [] (.c (.int .u32 (bOr IntKind.u32 (x0 * 65536 % 4294967296) (x0 / 65536)))) [] [], none⟩), (28, ⟨.auto, some (.c (.int .u32 x2))⟩), (39, ⟨.call [] (.c (.int .u32 (bOr IntKind.u32 (bXor IntKind.u32 v4 x2 * 1048576 % 4294967296) (bXor IntKind.u32 v4 x2 / 4096)))) [] [], none⟩), (47, ⟨.auto, some (.c (.int .u32 x4))⟩), (50, ⟨.auto, some (.c (.int .u32 x6))⟩), (60, ⟨.auto, some (.c (.int .u32 x8))⟩), (61, ⟨.call [] (.c (.int .u32 (bOr IntKind.u32 (x8 * 16777216 % 4294967296) (x8 / 256)))) [] [], none⟩), (70, ⟨.auto, some (.c (.int .u32 x10))⟩), (76, ⟨.auto, some (.c (.int .u32 x12))⟩), (81, ⟨.call [] (.c (.int .u32 (bOr IntKind.u32 (bXor IntKind.u32 x12 x10 * 33554432 % 4294967296) (bXor IntKind.u32 x12 x10 / 128)))) [] [], none⟩)])
    (cs := [Contract Try.prog 98 [(.c (.int .u32 (bXor IntKind.u32 x12 x10))), (.c (.int .i64 (-7)))] [] 1298 (.c (.int .u32 (bOr IntKind.u32 (bXor IntKind.u32 x12 x10 * 33554432 % 4294967296) (bXor IntKind.u32 x12 x10 / 128)))) [] [],
      EI .u32 (bOr IntKind.u32 (bXor IntKind.u32 v4 x2 * 1048576 % 4294967296) (bXor IntKind.u32 v4 x2 / 4096)) x12,
      EI .u32 ((x2 + bOr IntKind.u32 (x8 * 16777216 % 4294967296) (x8 / 256)) % 4294967296) x10,
      Contract Try.prog 98 [(.c (.int .u32 x8)), (.c (.int .i64 (-8)))] [] 978 (.c (.int .u32 (bOr IntKind.u32 (x8 * 16777216 % 4294967296) (x8 / 256)))) [] [],
      EI .u32 (bXor IntKind.u32 (bOr IntKind.u32 (x0 * 65536 % 4294967296) (x0 / 65536)) x6) x8,
      EI .u32 (((v0 + (v4 + x) % 4294967296) % 4294967296 + (x4 + y) % 4294967296) % 4294967296) x6,
      EI .u32 (bOr IntKind.u32 (bXor IntKind.u32 v4 x2 * 1048576 % 4294967296) (bXor IntKind.u32 v4 x2 / 4096)) x4,
      Contract Try.prog 98 [(.c (.int .u32 (bXor IntKind.u32 v4 x2))), (.c (.int .i64 (-12)))] [] 626 (.c (.int .u32 (bOr IntKind.u32 (bXor IntKind.u32 v4 x2 * 1048576 % 4294967296) (bXor IntKind.u32 v4 x2 / 4096)))) [] [],
      EI .u32 ((v8 + bOr IntKind.u32 (x0 * 65536 % 4294967296) (x0 / 65536)) % 4294967296) x2,
      Contract Try.prog 98 [(.c (.int .u32 x0)), (.c (.int .i64 (-16)))] [] 306 (.c (.int .u32 (bOr IntKind.u32 (x0 * 65536 % 4294967296) (x0 / 65536)))) [] [],
      EI .u32 (bXor IntKind.u32 v12 ((v0 + (v4 + x) % 4294967296) % 4294967296)) x0])
    mixed Try.func97 (by kernel_rfl) (by kernel_rfl) (by kernel_rfl) (by kernel_rfl) (by kernel_rfl) ⟨Contract0.in1 (rotm7 (bXor IntKind.u32 x12 x10)) [] [none, none] [] [] (by kernel_rfl), .mk h13, .mk h11, Contract0.in1 (rotm8 x8) [] [none, none] [] [] (by kernel_rfl), .mk h9, .mk h7, .mk h5, Contract0.in1 (rotm12 (bXor IntKind.u32 v4 x2)) [] [none, none] [] [] (by kernel_rfl), .mk h3, Contract0.in1 (rotm16 x0) [] [none, none] [] [] (by kernel_rfl), .mk h1, trivial⟩) [.b 1 1 false] [] [] [] (by kernel_rfl) (by kernel_rfl) (by kernel_rfl) (by kernel_rfl) (by kernel_rfl)
theorem bmix1 (ex : Bool) (v0 v1 v2 v3 v4 v5 v6 v7 v8 v9 v10 v11 v12 v13 v14 v15 x y x0 x2 x4 x6 x8 x10 x12 : Int)
    (h1 : (bXor IntKind.u32 v13 ((v1 + (v5 + x) % 4294967296) % 4294967296)) = x0)
    (h3 : ((v9 + bOr IntKind.u32 (x0 * 65536 % 4294967296) (x0 / 65536)) % 4294967296) = x2)
    (h5 : (bOr IntKind.u32 (bXor IntKind.u32 v5 x2 * 1048576 % 4294967296) (bXor IntKind.u32 v5 x2 / 4096)) = x4)
    (h7 : (((v1 + (v5 + x) % 4294967296) % 4294967296 + (x4 + y) % 4294967296) % 4294967296) = x6)
    (h9 : (bXor IntKind.u32 (bOr IntKind.u32 (x0 * 65536 % 4294967296) (x0 / 65536)) x6) = x8)
    (h11 : ((x2 + bOr IntKind.u32 (x8 * 16777216 % 4294967296) (x8 / 256)) % 4294967296) = x10)
    (h13 : (bOr IntKind.u32 (bXor IntKind.u32 v5 x2 * 1048576 % 4294967296) (bXor IntKind.u32 v5 x2 / 4096)) = x12) :
    Contract0 Try.prog 97 [(.c (.int .i64 1)), (.c (.int .i64 5)), (.c (.int .i64 9)), (.c (.int .i64 13)), (.c (.int .u32 x)), (.c (.int .u32 y)), (.c (.ptr 1 0 0))] [(1, (.one ⟨true, ex, (.ints .u32 [v0, v1, v2, v3, v4, v5, v6, v7, v8, v9, v10, v11, v12, v13, v14, v15])⟩))] 2 (.tup []) [] [(1, (.one ⟨true, ex, (.ints .u32 [v0, x6, v2, v3, v4, (bOr IntKind.u32 (bXor IntKind.u32 x12 x10 * 33554432 % 4294967296) (bXor IntKind.u32 x12 x10 / 128)), v6, v7, v8, x10, v10, v11, v12, (bOr IntKind.u32 (x8 * 16777216 % 4294967296) (x8 / 256)), v14, v15])⟩))] :=
  Contract0.renum (Contract0.of_frun (res := (.tup [])) (up := [(1, (.one ⟨true, ex, (.ints .u32 [v0, x6, v2, v3, v4, (bOr IntKind.u32 (bXor IntKind.u32 x12 x10 * 33554432 % 4294967296) (bXor IntKind.u32 x12 x10 / 128)), v6, v7, v8, x10, v10, v11, v12, (bOr IntKind.u32 (x8 * 16777216 % 4294967296) (x8 / 256)), v14, v15])⟩))]) (kill := []) (n0 := 2) (m := [(1, (.one ⟨true, ex, (.ints .u32 [v0, v1, v2, v3, v4, v5, v6, v7, v8, v9, v10, v11, v12, v13, v14, v15])⟩))]) (args := [(.c (.int .i64 1)), (.c (.int .i64 5)), (.c (.int .i64 9)), (.c (.int .i64 13)), (.c (.int .u32 x)), (.c (.int .u32 y)), (.c (.ptr 1 0 0))]) (fn := Try.f97) (c := bodyOf Try.f97) (fuel := 300) (k := kOf Try.prog Try.f97) (outs := [1]) (hs := [(18, ⟨.auto, some (.c (.int .u32 x0))⟩), (19, ⟨.call [] (.c (.int .u32 (bOr IntKind.u32 (x0 * 65536 % 4294967296) (x0 / 65536)))) [] [], none⟩), (28, ⟨.auto, some (.c (.int .u32 x2))⟩), (39, ⟨.call [] (.c (.int .u32 (bOr IntKind.u32 (bXor IntKind.u32 v5 x2 * 1048576 % 4294967296) (bXor IntKind.u32 v5 x2 / 4096)))) [] [], none⟩), (47, ⟨.auto, some (.c (.int .u32 x4))⟩), (50, ⟨.auto, some (.c (.int .u32 x6))⟩), (60, ⟨.auto, some (.c (.int .u32 x8))⟩), (61, ⟨.call [] (.c (.int .u32 (bOr IntKind.u32 (x8 * 16777216 % 4294967296) (x8 / 256)))) [] [], none⟩), (70, ⟨.auto, some (.c (.int .u32 x10))⟩), (76, ⟨.auto, some (.c (.int .u32 x12))⟩), (81, ⟨.call [] (.c (.int .u32 (bOr IntKind.u32 (bXor IntKind.u32 x12 x10 * 33554432 % 4294967296) (bXor IntKind.u32 x12 x10 / 128)))) [] [], none⟩)])
    (cs := [Contract Try.prog 98 [(.c (.int .u32 (bXor IntKind.u32 x12 x10))), (.c (.int .i64 (-7)))] [] 1298 (.c (.int .u32 (bOr IntKind.u32 (bXor IntKind.u32 x12 x10 * 33554432 % 4294967296) (bXor IntKind.u32 x12 x10 / 128)))) [] [],
      EI .u32 (bOr IntKind.u32 (bXor IntKind.u32 v5 x2 * 1048576 % 4294967296) (bXor IntKind.u32 v5 x2 / 4096)) x12,
      EI .u32 ((x2 + bOr IntKind.u32 (x8 * 16777216 % 4294967296) (x8 / 256)) % 4294967296) x10,
      Contract Try.prog 98 [(.c (.int .u32 x8)), (.c (.int .i64 (-8)))] [] 978 (.c (.int .u32 (bOr IntKind.u32 (x8 * 16777216 % 4294967296) (x8 / 256)))) [] [],
      EI .u32 (bXor IntKind.u32 (bOr IntKind.u32 (x0 * 65536 % 4294967296) (x0 / 65536)) x6) x8,
      EI .u32 (((v1 + (v5 + x) % 4294967296) % 4294967296 + (x4 + y) % 4294967296) % 4294967296) x6,
      EI .u32 (bOr IntKind.u32 (bXor IntKind.u32 v5 x2 * 1048576 % 4294967296) (bXor IntKind.u32 v5 x2 / 4096)) x4,
      Contract Try.prog 98 [(.c (.int .u32 (bXor IntKind.u32 v5 x2))), (.c (.int .i64 (-12)))] [] 626 (.c (.int .u32 (bOr IntKind.u32 (bXor IntKind.u32 v5 x2 * 1048576 % 4294967296) (bXor IntKind.u32 v5 x2 / 4096)))) [] [],
      EI .u32 ((v9 + bOr IntKind.u32 (x0 * 65536 % 4294967296) (x0 / 65536)) % 4294967296) x2,
      Contract Try.prog 98 [(.c (.int .u32 x0)), (.c (.int .i64 (-16)))] [] 306 (.c (.int .u32 (bOr IntKind.u32 (x0 * 65536 % 4294967296) (x0 / 65536)))) [] [],
      EI .u32 (bXor IntKind.u32 v13 ((v1 + (v5 + x) % 4294967296) % 4294967296)) x0])
    mixed Try.func97 (by kernel_rfl) (by kernel_rfl) (by kernel_rfl) (by kernel_rfl) (by kernel_rfl) ⟨Contract0.in1 (rotm7 (bXor IntKind.u32 x12 x10)) [] [none, none] [] [] (by kernel_rfl), .mk h13, .mk h11, Contract0.in1 (rotm8 x8) [] [none, none] [] [] (by kernel_rfl), .mk h9, .mk h7, .mk h5, Contract0.in1 (rotm12 (bXor IntKind.u32 v5 x2)) [] [none, none] [] [] (by kernel_rfl), .mk h3, Contract0.in1 (rotm16 x0) [] [none, none] [] [] (by kernel_rfl), .mk h1, trivial⟩) [.b 1 1 false] [] [] [] (by kernel_rfl) (by kernel_rfl) (by kernel_rfl) (by kernel_rfl) (by kernel_rfl)
theorem bmix2 (ex : Bool) (v0 v1 v2 v3 v4 v5 v6 v7 v8 v9 v10 v11 v12 v13 v14 v15 x y x0 x2 x4 x6 x8 x10 x12 : Int)
    (h1 : (bXor IntKind.u32 v14 ((v2 + (v6 + x) % 4294967296) % 4294967296)) = x0)
    (h3 : ((v10 + bOr IntKind.u32 (x0 * 65536 % 4294967296) (x0 / 65536)) % 4294967296) = x2)
    (h5 : (bOr IntKind.u32 (bXor IntKind.u32 v6 x2 * 1048576 % 4294967296) (bXor IntKind.u32 v6 x2 / 4096)) = x4)
    (h7 : (((v2 + (v6 + x) % 4294967296) % 4294967296 + (x4 + y) % 4294967296) % 4294967296) = x6)
    (h9 : (bXor IntKind.u32 (bOr IntKind.u32 (x0 * 65536 % 4294967296) (x0 / 65536)) x6) = x8)
    (h11 : ((x2 + bOr IntKind.u32 (x8 * 16777216 % 4294967296) (x8 / 256)) % 4294967296) = x10)
    (h13 : (bOr IntKind.u32 (bXor IntKind.u32 v6 x2 * 1048576 % 4294967296) (bXor IntKind.u32 v6 x2 / 4096)) = x12) :
    Contract0 Try.prog 97 [(.c (.int .i64 2)), (.c (.int .i64 6)), (.c (.int .i64 10)), (.c (.int .i64 14)), (.c (.int .u32 x)), (.c (.int .u32 y)), (.c (.ptr 1 0 0))] [(1, (.one ⟨true, ex, (.ints .u32 [v0, v1, v2, v3, v4, v5, v6, v7, v8, v9, v10, v11, v12, v13, v14, v15])⟩))] 2 (.tup []) [] [(1, (.one ⟨true, ex, (.ints .u32 [v0, v1, x6, v3, v4, v5, (bOr IntKind.u32 (bXor IntKind.u32 x12 x10 * 33554432 % 4294967296) (bXor IntKind.u32 x12 x10 / 128)), v7, v8, v9, x10, v11, v12, v13, (bOr IntKind.u32 (x8 * 16777216 % 4294967296) (x8 / 256)), v15])⟩))] :=
  Contract0.renum (Contract0.of_frun (res := (.tup [])) (up := [(1, (.one ⟨true, ex, (.ints .u32 [v0, v1, x6, v3, v4, v5, (bOr IntKind.u32 (bXor IntKind.u32 x12 x10 * 33554432 % 4294967296) (bXor IntKind.u32 x12 x10 / 128)), v7, v8, v9, x10, v11, v12, v13, (bOr IntKind.u32 (x8 * 16777216 % 4294967296) (x8 / 256)), v15])⟩))]) (kill := []) (n0 := 2) (m := [(1, (.one ⟨true, ex, (.ints .u32 [v0, v1, v2, v3, v4, v5, v6, v7, v8, v9, v10, v11, v12, v13, v14, v15])⟩))]) (args := [(.c (.int .i64 2)), (.c (.int .i64 6)), (.c (.int .i64 10)), (.c (.int .i64 14)), (.c (.int .u32 x)), (.c (.int .u32 y)), (.c (.ptr 1 0 0))]) (fn := Try.f97) (c := bodyOf Try.f97) (fuel := 300) (k := kOf Try.prog Try.f97) (outs := [1]) (hs := [(18, ⟨.auto, some (.c (.int .u32 x0))⟩), (19, ⟨.call [] (.c (.int .u32 (bOr IntKind.u32 (x0 * 65536 % 4294967296) (x0 / 65536)))) [] [], none⟩), (28, ⟨.auto, some (.c (.int .u32 x2))⟩), (39, ⟨.call [] (.c (.int .u32 (bOr IntKind.u32 (bXor IntKind.u32 v6 x2 * 1048576 % 4294967296) (bXor IntKind.u32 v6 x2 / 4096)))) [] [], none⟩), (47, ⟨.auto, some (.c (.int .u32 x4))⟩), (50, ⟨.auto, some (.c (.int .u32 x6))⟩), (60, ⟨.auto, some (.c (.int .u32 x8))⟩), (61, ⟨.call [] (.c (.int .u32 (bOr IntKind.u32 (x8 * 16777216 % 4294967296) (x8 / 256)))) [] [], none⟩), (70, ⟨.auto, some (.c (.int .u32 x10))⟩), (76, ⟨.auto, some (.c (.int .u32 x12))⟩), (81, ⟨.call [] (.c (.int .u32 (bOr IntKind.u32 (bXor IntKind.u32 x12 x10 * 33554432 % 4294967296) (bXor IntKind.u32 x12 x10 / 128)))) [] [], none⟩)])
    (cs := [Contract Try.prog 98 [(.c (.int .u32 (bXor IntKind.u32 x12 x10))), (.c (.int .i64 (-7)))] [] 1298 (.c (.int .u32 (bOr IntKind.u32 (bXor IntKind.u32 x12 x10 * 33554432 % 4294967296) (bXor IntKind.u32 x12 x10 / 128)))) [] [],
      EI .u32 (bOr IntKind.u32 (bXor IntKind.u32 v6 x2 * 1048576 % 4294967296) (bXor IntKind.u32 v6 x2 / 4096)) x12,
      EI .u32 ((x2 + bOr IntKind.u32 (x8 * 16777216 % 4294967296) (x8 / 256)) % 4294967296) x10,
      Contract Try.prog 98 [(.c (.int .u32 x8)), (.c (.int .i64 (-8)))] [] 978 (.c (.int .u32 (bOr IntKind.u32 (x8 * 16777216 % 4294967296) (x8 / 256)))) [] [],
      EI .u32 (bXor IntKind.u32 (bOr IntKind.u32 (x0 * 65536 % 4294967296) (x0 / 65536)) x6) x8,
      EI .u32 (((v2 + (v6 + x) % 4294967296) % 4294967296 + (x4 + y) % 4294967296) % 4294967296) x6,
      EI .u32 (bOr IntKind.u32 (bXor IntKind.u32 v6 x2 * 1048576 % 4294967296) (bXor IntKind.u32 v6 x2 / 4096)) x4,
      Contract Try.prog 98 [(.c (.int .u32 (bXor IntKind.u32 v6 x2))), (.c (.int .i64 (-12)))] [] 626 (.c (.int .u32 (bOr IntKind.u32 (bXor IntKind.u32 v6 x2 * 1048576 % 4294967296) (bXor IntKind.u32 v6 x2 / 4096)))) [] [],
      EI .u32 ((v10 + bOr IntKind.u32 (x0 * 65536 % 4294967296) (x0 / 65536)) % 4294967296) x2,
      Contract Try.prog 98 [(.c (.int .u32 x0)), (.c (.int .i64 (-16)))] [] 306 (.c (.int .u32 (bOr IntKind.u32 (x0 * 65536 % 4294967296) (x0 / 65536)))) [] [],
      EI .u32 (bXor IntKind.u32 v14 ((v2 + (v6 + x) % 4294967296) % 4294967296)) x0])
    mixed Try.func97 (by kernel_rfl) (by kernel_rfl) (by kernel_rfl) (by kernel_rfl) (by kernel_rfl) ⟨Contract0.in1 (rotm7 (bXor IntKind.u32 x12 x10)) [] [none, none] [] [] (by kernel_rfl), .mk h13, .mk h11, Contract0.in1 (rotm8 x8) [] [none, none] [] [] (by kernel_rfl), .mk h9, .mk h7, .mk h5, Contract0.in1 (rotm12 (bXor IntKind.u32 v6 x2)) [] [none, none] [] [] (by kernel_rfl), .mk h3, Contract0.in1 (rotm16 x0) [] [none, none] [] [] (by kernel_rfl), .mk h1, trivial⟩) [.b 1 1 false] [] [] [] (by kernel_rfl) (by kernel_rfl) (by kernel_rfl) (by kernel_rfl) (by kernel_rfl)
theorem bmix3 (ex : Bool) (v0 v1 v2 v3 v4 v5 v6 v7 v8 v9 v10 v11 v12 v13 v14 v15 x y x0 x2 x4 x6 x8 x10 x12 : Int)
    (h1 : (bXor IntKind.u32 v15 ((v3 + (v7 + x) % 4294967296) % 4294967296)) = x0)
    (h3 : ((v11 + bOr IntKind.u32 (x0 * 65536 % 4294967296) (x0 / 65536)) % 4294967296) = x2)
    (h5 : (bOr IntKind.u32 (bXor IntKind.u32 v7 x2 * 1048576 % 4294967296) (bXor IntKind.u32 v7 x2 / 4096)) = x4)
    (h7 : (((v3 + (v7 + x) % 4294967296) % 4294967296 + (x4 + y) % 4294967296) % 4294967296) = x6)
    (h9 : (bXor IntKind.u32 (bOr IntKind.u32 (x0 * 65536 % 4294967296) (x0 / 65536)) x6) = x8)
    (h11 : ((x2 + bOr IntKind.u32 (x8 * 16777216 % 4294967296) (x8 / 256)) % 4294967296) = x10)
    (h13 : (bOr IntKind.u32 (bXor IntKind.u32 v7 x2 * 1048576 % 4294967296) (bXor IntKind.u32 v7 x2 / 4096)) = x12) :
    Contract0 Try.prog 97 [(.c (.int .i64 3)), (.c (.int .i64 7)), (.c (.int .i64 11)), (.c (.int .i64 15)), (.c (.int .u32 x)), (.c (.int .u32 y)), (.c (.ptr 1 0 0))] [(1, (.one ⟨true, ex, (.ints .u32 [v0, v1, v2, v3, v4, v5, v6, v7, v8, v9, v10, v11, v12, v13, v14, v15])⟩))] 2 (.tup []) [] [(1, (.one ⟨true, ex, (.ints .u32 [v0, v1, v2, x6, v4, v5, v6, (bOr IntKind.u32 (bXor IntKind.u32 x12 x10 * 33554432 % 4294967296) (bXor IntKind.u32 x12 x10 / 128)), v8, v9, v10, x10, v12, v13, v14, (bOr IntKind.u32 (x8 * 16777216 % 4294967296) (x8 / 256))])⟩))] :=
  Contract0.renum (Contract0.of_frun (res := (.tup [])) (up := [(1, (.one ⟨true, ex, (.ints .u32 [v0, v1, v2, x6, v4, v5, v6, (bOr IntKind.u32 (bXor IntKind.u32 x12 x10 * 33554432 % 4294967296) (bXor IntKind.u32 x12 x10 / 128)), v8, v9, v10, x10, v12, v13, v14, (bOr IntKind.u32 (x8 * 16777216 % 4294967296) (x8 / 256))])⟩))]) (kill := []) (n0 := 2) (m := [(1, (.one ⟨true, ex, (.ints .u32 [v0, v1, v2, v3, v4, v5, v6, v7, v8, v9, v10, v11, v12, v13, v14, v15])⟩))]) (args := [(.c (.int .i64 3)), (.c (.int .i64 7)), (.c (.int .i64 11)), (.c (.int .i64 15)), (.c (.int .u32 x)), (.c (.int .u32 y)), (.c (.ptr 1 0 0))]) (fn := Try.f97) (c := bodyOf Try.f97) (fuel := 300) (k := kOf Try.prog Try.f97) (outs := [1]) (hs := [(18, ⟨.auto, some (.c (.int .u32 x0))⟩), (19, ⟨.call [] (.c (.int .u32 (bOr IntKind.u32 (x0 * 65536 % 4294967296) (x0 / 65536)))) [] [], none⟩), (28, ⟨.auto, some (.c (.int .u32 x2))⟩), (39, ⟨.call [] (.c (.int .u32 (bOr IntKind.u32 (bXor IntKind.u32 v7 x2 * 1048576 % 4294967296) (bXor IntKind.u32 v7 x2 / 4096)))) [] [], none⟩), (47, ⟨.auto, some (.c (.int .u32 x4))⟩), (50, ⟨.auto, some (.c (.int .u32 x6))⟩), (60, ⟨.auto, some (.c (.int .u32 x8))⟩), (61, ⟨.call [] (.c (.int .u32 (bOr IntKind.u32 (x8 * 16777216 % 4294967296) (x8 / 256)))) [] [], none⟩), (70, ⟨.auto, some (.c (.int .u32 x10))⟩), (76, ⟨.auto, some (.c (.int .u32 x12))⟩), (81, ⟨.call [] (.c (.int .u32 (bOr IntKind.u32 (bXor IntKind.u32 x12 x10 * 33554432 % 4294967296) (bXor IntKind.u32 x12 x10 / 128)))) [] [], none⟩)])
    (cs := [Contract Try.prog 98 [(.c (.int .u32 (bXor IntKind.u32 x12 x10))), (.c (.int .i64 (-7)))] [] 1298 (.c (.int .u32 (bOr IntKind.u32 (bXor IntKind.u32 x12 x10 * 33554432 % 4294967296) (bXor IntKind.u32 x12 x10 / 128)))) [] [],
      EI .u32 (bOr IntKind.u32 (bXor IntKind.u32 v7 x2 * 1048576 % 4294967296) (bXor IntKind.u32 v7 x2 / 4096)) x12,
      EI .u32 ((x2 + bOr IntKind.u32 (x8 * 16777216 % 4294967296) (x8 / 256)) % 4294967296) x10,
      Contract Try.prog 98 [(.c (.int .u32 x8)), (.c (.int .i64 (-8)))] [] 978 (.c (.int .u32 (bOr IntKind.u32 (x8 * 16777216 % 4294967296) (x8 / 256)))) [] [],
      EI .u32 (bXor IntKind.u32 (bOr IntKind.u32 (x0 * 65536 % 4294967296) (x0 / 65536)) x6) x8,
      EI .u32 (((v3 + (v7 + x) % 4294967296) % 4294967296 + (x4 + y) % 4294967296) % 4294967296) x6,
      EI .u32 (bOr IntKind.u32 (bXor IntKind.u32 v7 x2 * 1048576 % 4294967296) (bXor IntKind.u32 v7 x2 / 4096)) x4,
      Contract Try.prog 98 [(.c (.int .u32 (bXor IntKind.u32 v7 x2))), (.c (.int .i64 (-12)))] [] 626 (.c (.int .u32 (bOr IntKind.u32 (bXor IntKind.u32 v7 x2 * 1048576 % 4294967296) (bXor IntKind.u32 v7 x2 / 4096)))) [] [],
      EI .u32 ((v11 + bOr IntKind.u32 (x0 * 65536 % 4294967296) (x0 / 65536)) % 4294967296) x2,
      Contract Try.prog 98 [(.c (.int .u32 x0)), (.c (.int .i64 (-16)))] [] 306 (.c (.int .u32 (bOr IntKind.u32 (x0 * 65536 % 4294967296) (x0 / 65536)))) [] [],
      EI .u32 (bXor IntKind.u32 v15 ((v3 + (v7 + x) % 4294967296) % 4294967296)) x0])
    mixed Try.func97 (by kernel_rfl) (by kernel_rfl) (by kernel_rfl) (by kernel_rfl) (by kernel_rfl) ⟨Contract0.in1 (rotm7 (bXor IntKind.u32 x12 x10)) [] [none, none] [] [] (by kernel_rfl), .mk h13, .mk h11, Contract0.in1 (rotm8 x8) [] [none, none] [] [] (by kernel_rfl), .mk h9, .mk h7, .mk h5, Contract0.in1 (rotm12 (bXor IntKind.u32 v7 x2)) [] [none, none] [] [] (by kernel_rfl), .mk h3, Contract0.in1 (rotm16 x0) [] [none, none] [] [] (by kernel_rfl), .mk h1, trivial⟩) [.b 1 1 false] [] [] [] (by kernel_rfl) (by kernel_rfl) (by kernel_rfl) (by kernel_rfl) (by kernel_rfl)
theorem bmix4 (ex : Bool) (v0 v1 v2 v3 v4 v5 v6 v7 v8 v9 v10 v11 v12 v13 v14 v15 x y x0 x2 x4 x6 x8 x10 x12 : Int)
    (h1 : (bXor IntKind.u32 v15 ((v0 + (v5 + x) % 4294967296) % 4294967296)) = x0)
    (h3 : ((v10 + bOr IntKind.u32 (x0 * 65536 % 4294967296) (x0 / 65536)) % 4294967296) = x2)
    (h5 : (bOr IntKind.u32 (bXor IntKind.u32 v5 x2 * 1048576 % 4294967296) (bXor IntKind.u32 v5 x2 / 4096)) = x4)
    (h7 : (((v0 + (v5 + x) % 4294967296) % 4294967296 + (x4 + y) % 4294967296) % 4294967296) = x6)
    (h9 : (bXor IntKind.u32 (bOr IntKind.u32 (x0 * 65536 % 4294967296) (x0 / 65536)) x6) = x8)
    (h11 : ((x2 + bOr IntKind.u32 (x8 * 16777216 % 4294967296) (x8 / 256)) % 4294967296) = x10)
    (h13 : (bOr IntKind.u32 (bXor IntKind.u32 v5 x2 * 1048576 % 4294967296) (bXor IntKind.u32 v5 x2 / 4096)) = x12) :
    Contract0 Try.prog 97 [(.c (.int .i64 0)), (.c (.int .i64 5)), (.c (.int .i64 10)), (.c (.int .i64 15)), (.c (.int .u32 x)), (.c (.int .u32 y)), (.c (.ptr 1 0 0))] [(1, (.one ⟨true, ex, (.ints .u32 [v0, v1, v2, v3, v4, v5, v6, v7, v8, v9, v10, v11, v12, v13, v14, v15])⟩))] 2 (.tup []) [] [(1, (.one ⟨true, ex, (.ints .u32 [x6, v1, v2, v3, v4, (bOr IntKind.u32 (bXor IntKind.u32 x12 x10 * 33554432 % 4294967296) (bXor IntKind.u32 x12 x10 / 128)), v6, v7, v8, v9, x10, v11, v12, v13, v14, (bOr IntKind.u32 (x8 * 16777216 % 4294967296) (x8 / 256))])⟩))] :=
  Contract0.renum (Contract0.of_frun (res := (.tup [])) (up := [(1, (.one ⟨true, ex, (.ints .u32 [x6, v1, v2, v3, v4, (bOr IntKind.u32 (bXor IntKind.u32 x12 x10 * 33554432 % 4294967296) (bXor IntKind.u32 x12 x10 / 128)), v6, v7, v8, v9, x10, v11, v12, v13, v14, (bOr IntKind.u32 (x8 * 16777216 % 4294967296) (x8 / 256))])⟩))]) (kill := []) (n0 := 2) (m := [(1, (.one ⟨true, ex, (.ints .u32 [v0, v1, v2, v3, v4, v5, v6, v7, v8, v9, v10, v11, v12, v13, v14, v15])⟩))]) (args := [(.c (.int .i64 0)), (.c (.int .i64 5)), (.c (.int .i64 10)), (.c (.int .i64 15)), (.c (.int .u32 x)), (.c (.int .u32 y)), (.c (.ptr 1 0 0))]) (fn := Try.f97) (c := bodyOf Try.f97) (fuel := 300) (k := kOf Try.prog Try.f97) (outs := [1]) (hs := [(18, ⟨.auto, some (.c (.int .u32 x0))⟩), (19, ⟨.call [] (.c (.int .u32 (bOr IntKind.u32 (x0 * 65536 % 4294967296) (x0 / 65536)))) [] [], none⟩), (28, ⟨.auto, some (.c (.int .u32 x2))⟩), (39, ⟨.call [] (.c (.int .u32 (bOr IntKind.u32 (bXor IntKind.u32 v5 x2 * 1048576 % 4294967296) (bXor IntKind.u32 v5 x2 / 4096)))) [] [], none⟩), (47, ⟨.auto, some (.c (.int .u32 x4))⟩), (50, ⟨.auto, some (.c (.int .u32 x6))⟩), (60, ⟨.auto, some (.c (.int .u32 x8))⟩), (61, ⟨.call [] (.c (.int .u32 (bOr IntKind.u32 (x8 * 16777216 % 4294967296) (x8 / 256)))) [] [], none⟩), (70, ⟨.auto, some (.c (.int .u32 x10))⟩), (76, ⟨.auto, some (.c (.int .u32 x12))⟩), (81, ⟨.call [] (.c (.int .u32 (bOr IntKind.u32 (bXor IntKind.u32 x12 x10 * 33554432 % 4294967296) (bXor IntKind.u32 x12 x10 / 128)))) [] [], none⟩)])
    (cs := [Contract Try.prog 98 [(.c (.int .u32 (bXor IntKind.u32 x12 x10))), (.c (.int .i64 (-7)))] [] 1298 (.c (.int .u32 (bOr IntKind.u32 (bXor IntKind.u32 x12 x10 * 33554432 % 4294967296) (bXor IntKind.u32 x12 x10 / 128)))) [] [],
      EI .u32 (bOr IntKind.u32 (bXor IntKind.u32 v5 x2 * 1048576 % 4294967296) (bXor IntKind.u32 v5 x2 / 4096)) x12,
      EI .u32 ((x2 + bOr IntKind.u32 (x8 * 16777216 % 4294967296) (x8 / 256)) % 4294967296) x10,
      Contract Try.prog 98 [(.c (.int .u32 x8)), (.c (.int .i64 (-8)))] [] 978 (.c (.int .u32 (bOr IntKind.u32 (x8 * 16777216 % 4294967296) (x8 / 256)))) [] [],
      EI .u32 (bXor IntKind.u32 (bOr IntKind.u32 (x0 * 65536 % 4294967296) (x0 / 65536)) x6) x8,
      EI .u32 (((v0 + (v5 + x) % 4294967296) % 4294967296 + (x4 + y) % 4294967296) % 4294967296) x6,
      EI .u32 (bOr IntKind.u32 (bXor IntKind.u32 v5 x2 * 1048576 % 4294967296) (bXor IntKind.u32 v5 x2 / 4096)) x4,
      Contract Try.prog 98 [(.c (.int .u32 (bXor IntKind.u32 v5 x2))), (.c (.int .i64 (-12)))] [] 626 (.c (.int .u32 (bOr IntKind.u32 (bXor IntKind.u32 v5 x2 * 1048576 % 4294967296) (bXor IntKind.u32 v5 x2 / 4096)))) [] [],
      EI .u32 ((v10 + bOr IntKind.u32 (x0 * 65536 % 4294967296) (x0 / 65536)) % 4294967296) x2,
      Contract Try.prog 98 [(.c (.int .u32 x0)), (.c (.int .i64 (-16)))] [] 306 (.c (.int .u32 (bOr IntKind.u32 (x0 * 65536 % 4294967296) (x0 / 65536)))) [] [],
      EI .u32 (bXor IntKind.u32 v15 ((v0 + (v5 + x) % 4294967296) % 4294967296)) x0])
    mixed Try.func97 (by kernel_rfl) (by kernel_rfl) (by kernel_rfl) (by kernel_rfl) (by kernel_rfl) ⟨Contract0.in1 (rotm7 (bXor IntKind.u32 x12 x10)) [] [none, none] [] [] (by kernel_rfl), .mk h13, .mk h11, Contract0.in1 (rotm8 x8) [] [none, none] [] [] (by kernel_rfl), .mk h9, .mk h7, .mk h5, Contract0.in1 (rotm12 (bXor IntKind.u32 v5 x2)) [] [none, none] [] [] (by kernel_rfl), .mk h3, Contract0.in1 (rotm16 x0) [] [none, none] [] [] (by kernel_rfl), .mk h1, trivial⟩) [.b 1 1 false] [] [] [] (by kernel_rfl) (by kernel_rfl) (by kernel_rfl) (by kernel_rfl) (by kernel_rfl)
theorem bmix5 (ex : Bool) (v0 v1 v2 v3 v4 v5 v6 v7 v8 v9 v10 v11 v12 v13 v14 v15 x y x0 x2 x4 x6 x8 x10 x12 : Int)
    (h1 : (bXor IntKind.u32 v12 ((v1 + (v6 + x) % 4294967296) % 4294967296)) = x0)
    (h3 : ((v11 + bOr IntKind.u32 (x0 * 65536 % 4294967296) (x0 / 65536)) % 4294967296) = x2)
    (h5 : (bOr IntKind.u32 (bXor IntKind.u32 v6 x2 * 1048576 % 4294967296) (bXor IntKind.u32 v6 x2 / 4096)) = x4)
    (h7 : (((v1 + (v6 + x) % 4294967296) % 4294967296 + (x4 + y) % 4294967296) % 4294967296) = x6)
    (h9 : (bXor IntKind.u32 (bOr IntKind.u32 (x0 * 65536 % 4294967296) (x0 / 65536)) x6) = x8)
    (h11 : ((x2 + bOr IntKind.u32 (x8 * 16777216 % 4294967296) (x8 / 256)) % 4294967296) = x10)
    (h13 : (bOr IntKind.u32 (bXor IntKind.u32 v6 x2 * 1048576 % 4294967296) (bXor IntKind.u32 v6 x2 / 4096)) = x12) :
    Contract0 Try.prog 97 [(.c (.int .i64 1)), (.c (.int .i64 6)), (.c (.int .i64 11)), (.c (.int .i64 12)), (.c (.int .u32 x)), (.c (.int .u32 y)), (.c (.ptr 1 0 0))] [(1, (.one ⟨true, ex, (.ints .u32 [v0, v1, v2, v3, v4, v5, v6, v7, v8, v9, v10, v11, v12, v13, v14, v15])⟩))] 2 (.tup []) [] [(1, (.one ⟨true, ex, (.ints .u32 [v0, x6, v2, v3, v4, v5, (bOr IntKind.u32 (bXor IntKind.u32 x12 x10 * 33554432 % 4294967296) (bXor IntKind.u32 x12 x10 / 128)), v7, v8, v9, v10, x10, (bOr IntKind.u32 (x8 * 16777216 % 4294967296) (x8 / 256)), v13, v14, v15])⟩))] :=
  Contract0.renum (Contract0.of_frun (res := (.tup [])) (up := [(1, (.one ⟨true, ex, (.ints .u32 [v0, x6, v2, v3, v4, v5, (bOr IntKind.u32 (bXor IntKind.u32 x12 x10 * 33554432 % 4294967296) (bXor IntKind.u32 x12 x10 / 128)), v7, v8, v9, v10, x10, (bOr IntKind.u32 (x8 * 16777216 % 4294967296) (x8 / 256)), v13, v14, v15])⟩))]) (kill := []) (n0 := 2) (m := [(1, (.one ⟨true, ex, (.ints .u32 [v0, v1, v2, v3, v4, v5, v6, v7, v8, v9, v10, v11, v12, v13, v14, v15])⟩))]) (args := [(.c (.int .i64 1)), (.c (.int .i64 6)), (.c (.int .i64 11)), (.c (.int .i64 12)), (.c (.int .u32 x)), (.c (.int .u32 y)), (.c (.ptr 1 0 0))]) (fn := Try.f97) (c := bodyOf Try.f97) (fuel := 300) (k := kOf Try.prog Try.f97) (outs := [1]) (hs := [(18, ⟨.auto, some (.c (.int .u32 x0))⟩), (19, ⟨.call [] (.c (.int .u32 (bOr IntKind.u32 (x0 * 65536 % 4294967296) (x0 / 65536)))) [] [], none⟩), (28, ⟨.auto, some (.c (.int .u32 x2))⟩), (39, ⟨.call [] (.c (.int .u32 (bOr IntKind.u32 (bXor IntKind.u32 v6 x2 * 1048576 % 4294967296) (bXor IntKind.u32 v6 x2 / 4096)))) [] [], none⟩), (47, ⟨.auto, some (.c (.int .u32 x4))⟩), (50, ⟨.auto, some (.c (.int .u32 x6))⟩), (60, ⟨.auto, some (.c (.int .u32 x8))⟩), (61, ⟨.call [] (.c (.int .u32 (bOr IntKind.u32 (x8 * 16777216 % 4294967296) (x8 / 256)))) [] [], none⟩), (70, ⟨.auto, some (.c (.int .u32 x10))⟩), (76, ⟨.auto, some (.c (.int .u32 x12))⟩), (81, ⟨.call [] (.c (.int .u32 (bOr IntKind.u32 (bXor IntKind.u32 x12 x10 * 33554432 % 4294967296) (bXor IntKind.u32 x12 x10 / 128)))) [] [], none⟩)])
    (cs := [Contract Try.prog 98 [(.c (.int .u32 (bXor IntKind.u32 x12 x10))), (.c (.int .i64 (-7)))] [] 1298 (.c (.int .u32 (bOr IntKind.u32 (bXor IntKind.u32 x12 x10 * 33554432 % 4294967296) (bXor IntKind.u32 x12 x10 / 128)))) [] [],
      EI .u32 (bOr IntKind.u32 (bXor IntKind.u32 v6 x2 * 1048576 % 4294967296) (bXor IntKind.u32 v6 x2 / 4096)) x12,
      EI .u32 ((x2 + bOr IntKind.u32 (x8 * 16777216 % 4294967296) (x8 / 256)) % 4294967296) x10,
      Contract Try.prog 98 [(.c (.int .u32 x8)), (.c (.int .i64 (-8)))] [] 978 (.c (.int .u32 (bOr IntKind.u32 (x8 * 16777216 % 4294967296) (x8 / 256)))) [] [],
      EI .u32 (bXor IntKind.u32 (bOr IntKind.u32 (x0 * 65536 % 4294967296) (x0 / 65536)) x6) x8,
      EI .u32 (((v1 + (v6 + x) % 4294967296) % 4294967296 + (x4 + y) % 4294967296) % 4294967296) x6,
      EI .u32 (bOr IntKind.u32 (bXor IntKind.u32 v6 x2 * 1048576 % 4294967296) (bXor IntKind.u32 v6 x2 / 4096)) x4,
      Contract Try.prog 98 [(.c (.int .u32 (bXor IntKind.u32 v6 x2))), (.c (.int .i64 (-12)))] [] 626 (.c (.int .u32 (bOr IntKind.u32 (bXor IntKind.u32 v6 x2 * 1048576 % 4294967296) (bXor IntKind.u32 v6 x2 / 4096)))) [] [],
      EI .u32 ((v11 + bOr IntKind.u32 (x0 * 65536 % 4294967296) (x0 / 65536)) % 4294967296) x2,
      Contract Try.prog 98 [(.c (.int .u32 x0)), (.c (.int .i64 (-16)))] [] 306 (.c (.int .u32 (bOr IntKind.u32 (x0 * 65536 % 4294967296) (x0 / 65536)))) [] [],
      EI .u32 (bXor IntKind.u32 v12 ((v1 + (v6 + x) % 4294967296) % 4294967296)) x0])
    mixed Try.func97 (by kernel_rfl) (by kernel_rfl) (by kernel_rfl) (by kernel_rfl) (by kernel_rfl) ⟨Contract0.in1 (rotm7 (bXor IntKind.u32 x12 x10)) [] [none, none] [] [] (by kernel_rfl), .mk h13, .mk h11, Contract0.in1 (rotm8 x8) [] [none, none] [] [] (by kernel_rfl), .mk h9, .mk h7, .mk h5, Contract0.in1 (rotm12 (bXor IntKind.u32 v6 x2)) [] [none, none] [] [] (by kernel_rfl), .mk h3, Contract0.in1 (rotm16 x0) [] [none, none] [] [] (by kernel_rfl), .mk h1, trivial⟩) [.b 1 1 false] [] [] [] (by kernel_rfl) (by kernel_rfl) (by kernel_rfl) (by kernel_rfl) (by kernel_rfl)
theorem bmix6 (ex : Bool) (v0 v1 v2 v3 v4 v5 v6 v7 v8 v9 v10 v11 v12 v13 v14 v15 x y x0 x2 x4 x6 x8 x10 x12 : Int)
    (h1 : (bXor IntKind.u32 v13 ((v2 + (v7 + x) % 4294967296) % 4294967296)) = x0)
    (h3 : ((v8 + bOr IntKind.u32 (x0 * 65536 % 4294967296) (x0 / 65536)) % 4294967296) = x2)
    (h5 : (bOr IntKind.u32 (bXor IntKind.u32 v7 x2 * 1048576 % 4294967296) (bXor IntKind.u32 v7 x2 / 4096)) = x4)
    (h7 : (((v2 + (v7 + x) % 4294967296) % 4294967296 + (x4 + y) % 4294967296) % 4294967296) = x6)
    (h9 : (bXor IntKind.u32 (bOr IntKind.u32 (x0 * 65536 % 4294967296) (x0 / 65536)) x6) = x8)
    (h11 : ((x2 + bOr IntKind.u32 (x8 * 16777216 % 4294967296) (x8 / 256)) % 4294967296) = x10)
    (h13 : (bOr IntKind.u32 (bXor IntKind.u32 v7 x2 * 1048576 % 4294967296) (bXor IntKind.u32 v7 x2 / 4096)) = x12) :
    Contract0 Try.prog 97 [(.c (.int .i64 2)), (.c (.int .i64 7)), (.c (.int .i64 8)), (.c (.int .i64 13)), (.c (.int .u32 x)), (.c (.int .u32 y)), (.c (.ptr 1 0 0))] [(1, (.one ⟨true, ex, (.ints .u32 [v0, v1, v2, v3, v4, v5, v6, v7, v8, v9, v10, v11, v12, v13, v14, v15])⟩))] 2 (.tup []) [] [(1, (.one ⟨true, ex, (.ints .u32 [v0, v1, x6, v3, v4, v5, v6, (bOr IntKind.u32 (bXor IntKind.u32 x12 x10 * 33554432 % 4294967296) (bXor IntKind.u32 x12 x10 / 128)), x10, v9, v10, v11, v12, (bOr IntKind.u32 (x8 * 16777216 % 4294967296) (x8 / 256)), v14, v15])⟩))] :=
  Contract0.renum (Contract0.of_frun (res := (.tup [])) (up := [(1, (.one ⟨true, ex, (.ints .u32 [v0, v1, x6, v3, v4, v5, v6, (bOr IntKind.u32 (bXor IntKind.u32 x12 x10 * 33554432 % 4294967296) (bXor IntKind.u32 x12 x10 / 128)), x10, v9, v10, v11, v12, (bOr IntKind.u32 (x8 * 16777216 % 4294967296) (x8 / 256)), v14, v15])⟩))]) (kill := []) (n0 := 2) (m := [(1, (.one ⟨true, ex, (.ints .u32 [v0, v1, v2, v3, v4, v5, v6, v7, v8, v9, v10, v11, v12, v13, v14, v15])⟩))]) (args := [(.c (.int .i64 2)), (.c (.int .i64 7)), (.c (.int .i64 8)), (.c (.int .i64 13)), (.c (.int .u32 x)), (.c (.int .u32 y)), (.c (.ptr 1 0 0))]) (fn := Try.f97) (c := bodyOf Try.f97) (fuel := 300) (k := kOf Try.prog Try.f97) (outs := [1]) (hs := [(18, ⟨.auto, some (.c (.int .u32 x0))⟩), (19, ⟨.call [] (.c (.int .u32 (bOr IntKind.u32 (x0 * 65536 % 4294967296) (x0 / 65536)))) [] [], none⟩), (28, ⟨.auto, some (.c (.int .u32 x2))⟩), (39, ⟨.call [] (.c (.int .u32 (bOr IntKind.u32 (bXor IntKind.u32 v7 x2 * 1048576 % 4294967296) (bXor IntKind.u32 v7 x2 / 4096)))) [] [], none⟩), (47, ⟨.auto, some (.c (.int .u32 x4))⟩), (50, ⟨.auto, some (.c (.int .u32 x6))⟩), (60, ⟨.auto, some (.c (.int .u32 x8))⟩), (61, ⟨.call [] (.c (.int .u32 (bOr IntKind.u32 (x8 * 16777216 % 4294967296) (x8 / 256)))) [] [], none⟩), (70, ⟨.auto, some (.c (.int .u32 x10))⟩), (76, ⟨.auto, some (.c (.int .u32 x12))⟩), (81, ⟨.call [] (.c (.int .u32 (bOr IntKind.u32 (bXor IntKind.u32 x12 x10 * 33554432 % 4294967296) (bXor IntKind.u32 x12 x10 / 128)))) [] [], none⟩)])
    (cs := [Contract Try.prog 98 [(.c (.int .u32 (bXor IntKind.u32 x12 x10))), (.c (.int .i64 (-7)))] [] 1298 (.c (.int .u32 (bOr IntKind.u32 (bXor IntKind.u32 x12 x10 * 33554432 % 4294967296) (bXor IntKind.u32 x12 x10 / 128)))) [] [],
      EI .u32 (bOr IntKind.u32 (bXor IntKind.u32 v7 x2 * 1048576 % 4294967296) (bXor IntKind.u32 v7 x2 / 4096)) x12,
      EI .u32 ((x2 + bOr IntKind.u32 (x8 * 16777216 % 4294967296) (x8 / 256)) % 4294967296) x10,
      Contract Try.prog 98 [(.c (.int .u32 x8)), (.c (.int .i64 (-8)))] [] 978 (.c (.int .u32 (bOr IntKind.u32 (x8 * 16777216 % 4294967296) (x8 / 256)))) [] [],
      EI .u32 (bXor IntKind.u32 (bOr IntKind.u32 (x0 * 65536 % 4294967296) (x0 / 65536)) x6) x8,
      EI .u32 (((v2 + (v7 + x) % 4294967296) % 4294967296 + (x4 + y) % 4294967296) % 4294967296) x6,
      EI .u32 (bOr IntKind.u32 (bXor IntKind.u32 v7 x2 * 1048576 % 4294967296) (bXor IntKind.u32 v7 x2 / 4096)) x4,
      Contract Try.prog 98 [(.c (.int .u32 (bXor IntKind.u32 v7 x2))), (.c (.int .i64 (-12)))] [] 626 (.c (.int .u32 (bOr IntKind.u32 (bXor IntKind.u32 v7 x2 * 1048576 % 4294967296) (bXor IntKind.u32 v7 x2 / 4096)))) [] [],
      EI .u32 ((v8 + bOr IntKind.u32 (x0 * 65536 % 4294967296) (x0 / 65536)) % 4294967296) x2,
      Contract Try.prog 98 [(.c (.int .u32 x0)), (.c (.int .i64 (-16)))] [] 306 (.c (.int .u32 (bOr IntKind.u32 (x0 * 65536 % 4294967296) (x0 / 65536)))) [] [],
      EI .u32 (bXor IntKind.u32 v13 ((v2 + (v7 + x) % 4294967296) % 4294967296)) x0])
    mixed Try.func97 (by kernel_rfl) (by kernel_rfl) (by kernel_rfl) (by kernel_rfl) (by kernel_rfl) ⟨Contract0.in1 (rotm7 (bXor IntKind.u32 x12 x10)) [] [none, none] [] [] (by kernel_rfl), .mk h13, .mk h11, Contract0.in1 (rotm8 x8) [] [none, none] [] [] (by kernel_rfl), .mk h9, .mk h7, .mk h5, Contract0.in1 (rotm12 (bXor IntKind.u32 v7 x2)) [] [none, none] [] [] (by kernel_rfl), .mk h3, Contract0.in1 (rotm16 x0) [] [none, none] [] [] (by kernel_rfl), .mk h1, trivial⟩) [.b 1 1 false] [] [] [] (by kernel_rfl) (by kernel_rfl) (by kernel_rfl) (by kernel_rfl) (by kernel_rfl)
theorem bmix7 (ex : Bool) (v0 v1 v2 v3 v4 v5 v6 v7 v8 v9 v10 v11 v12 v13 v14 v15 x y x0 x2 x4 x6 x8 x10 x12 : Int)
    (h1 : (bXor IntKind.u32 v14 ((v3 + (v4 + x) % 4294967296) % 4294967296)) = x0)
    (h3 : ((v9 + bOr IntKind.u32 (x0 * 65536 % 4294967296) (x0 / 65536)) % 4294967296) = x2)
    (h5 : (bOr IntKind.u32 (bXor IntKind.u32 v4 x2 * 1048576 % 4294967296) (bXor IntKind.u32 v4 x2 / 4096)) = x4)
    (h7 : (((v3 + (v4 + x) % 4294967296) % 4294967296 + (x4 + y) % 4294967296) % 4294967296) = x6)
    (h9 : (bXor IntKind.u32 (bOr IntKind.u32 (x0 * 65536 % 4294967296) (x0 / 65536)) x6) = x8)
    (h11 : ((x2 + bOr IntKind.u32 (x8 * 16777216 % 4294967296) (x8 / 256)) % 4294967296) = x10)
    (h13 : (bOr IntKind.u32 (bXor IntKind.u32 v4 x2 * 1048576 % 4294967296) (bXor IntKind.u32 v4 x2 / 4096)) = x12) :
    Contract0 Try.prog 97 [(.c (.int .i64 3)), (.c (.int .i64 4)), (.c (.int .i64 9)), (.c (.int .i64 14)), (.c (.int .u32 x)), (.c (.int .u32 y)), (.c (.ptr 1 0 0))] [(1, (.one ⟨true, ex, (.ints .u32 [v0, v1, v2, v3, v4, v5, v6, v7, v8, v9, v10, v11, v12, v13, v14, v15])⟩))] 2 (.tup []) [] [(1, (.one ⟨true, ex, (.ints .u32 [v0, v1, v2, x6, (bOr IntKind.u32 (bXor IntKind.u32 x12 x10 * 33554432 % 4294967296) (bXor IntKind.u32 x12 x10 / 128)), v5, v6, v7, v8, x10, v10, v11, v12, v13, (bOr IntKind.u32 (x8 * 16777216 % 4294967296) (x8 / 256)), v15])⟩))] :=
  Contract0.renum (Contract0.of_frun (res := (.tup [])) (up := [(1, (.one ⟨true, ex, (.ints .u32 [v0, v1, v2, x6, (bOr IntKind.u32 (bXor IntKind.u32 x12 x10 * 33554432 % 4294967296) (bXor IntKind.u32 x12 x10 / 128)), v5, v6, v7, v8, x10, v10, v11, v12, v13, (bOr IntKind.u32 (x8 * 16777216 % 4294967296) (x8 / 256)), v15])⟩))]) (kill := []) (n0 := 2) (m := [(1, (.one ⟨true, ex, (.ints .u32 [v0, v1, v2, v3, v4, v5, v6, v7, v8, v9, v10, v11, v12, v13, v14, v15])⟩))]) (args := [(.c (.int .i64 3)), (.c (.int .i64 4)), (.c (.int .i64 9)), (.c (.int .i64 14)), (.c (.int .u32 x)), (.c (.int .u32 y)), (.c (.ptr 1 0 0))]) (fn := Try.f97) (c := bodyOf Try.f97) (fuel := 300) (k := kOf Try.prog Try.f97) (outs := [1]) (hs := [(18, ⟨.auto, some (.c (.int .u32 x0))⟩), (19, ⟨.call [] (.c (.int .u32 (bOr IntKind.u32 (x0 * 65536 % 4294967296) (x0 / 65536)))) [] [], none⟩), (28, ⟨.auto, some (.c (.int .u32 x2))⟩), (39, ⟨.call [] (.c (.int .u32 (bOr IntKind.u32 (bXor IntKind.u32 v4 x2 * 1048576 % 4294967296) (bXor IntKind.u32 v4 x2 / 4096)))) [] [], none⟩), (47, ⟨.auto, some (.c (.int .u32 x4))⟩), (50, ⟨.auto, some (.c (.int .u32 x6))⟩), (60, ⟨.auto, some (.c (.int .u32 x8))⟩), (61, ⟨.call [] (.c (.int .u32 (bOr IntKind.u32 (x8 * 16777216 % 4294967296) (x8 / 256)))) [] [], none⟩), (70, ⟨.auto, some (.c (.int .u32 x10))⟩), (76, ⟨.auto, some (.c (.int .u32 x12))⟩), (81, ⟨.call [] (.c (.int .u32 (bOr IntKind.u32 (bXor IntKind.u32 x12 x10 * 33554432 % 4294967296) (bXor IntKind.u32 x12 x10 / 128)))) [] [], none⟩)])
    (cs := [Contract Try.prog 98 [(.c (.int .u32 (bXor IntKind.u32 x12 x10))), (.c (.int .i64 (-7)))] [] 1298 (.c (.int .u32 (bOr IntKind.u32 (bXor IntKind.u32 x12 x10 * 33554432 % 4294967296) (bXor IntKind.u32 x12 x10 / 128)))) [] [],
      EI .u32 (bOr IntKind.u32 (bXor IntKind.u32 v4 x2 * 1048576 % 4294967296) (bXor IntKind.u32 v4 x2 / 4096)) x12,
      EI .u32 ((x2 + bOr IntKind.u32 (x8 * 16777216 % 4294967296) (x8 / 256)) % 4294967296) x10,
      Contract Try.prog 98 [(.c (.int .u32 x8)), (.c (.int .i64 (-8)))] [] 978 (.c (.int .u32 (bOr IntKind.u32 (x8 * 16777216 % 4294967296) (x8 / 256)))) [] [],
      EI .u32 (bXor IntKind.u32 (bOr IntKind.u32 (x0 * 65536 % 4294967296) (x0 / 65536)) x6) x8,
      EI .u32 (((v3 + (v4 + x) % 4294967296) % 4294967296 + (x4 + y) % 4294967296) % 4294967296) x6,
      EI .u32 (bOr IntKind.u32 (bXor IntKind.u32 v4 x2 * 1048576 % 4294967296) (bXor IntKind.u32 v4 x2 / 4096)) x4,
      Contract Try.prog 98 [(.c (.int .u32 (bXor IntKind.u32 v4 x2))), (.c (.int .i64 (-12)))] [] 626 (.c (.int .u32 (bOr IntKind.u32 (bXor IntKind.u32 v4 x2 * 1048576 % 4294967296) (bXor IntKind.u32 v4 x2 / 4096)))) [] [],
      EI .u32 ((v9 + bOr IntKind.u32 (x0 * 65536 % 4294967296) (x0 / 65536)) % 4294967296) x2,
      Contract Try.prog 98 [(.c (.int .u32 x0)), (.c (.int .i64 (-16)))] [] 306 (.c (.int .u32 (bOr IntKind.u32 (x0 * 65536 % 4294967296) (x0 / 65536)))) [] [],
      EI .u32 (bXor IntKind.u32 v14 ((v3 + (v4 + x) % 4294967296) % 4294967296)) x0])
    mixed Try.func97 (by kernel_rfl) (by kernel_rfl) (by kernel_rfl) (by kernel_rfl) (by kernel_rfl) ⟨Contract0.in1 (rotm7 (bXor IntKind.u32 x12 x10)) [] [none, none] [] [] (by kernel_rfl), .mk h13, .mk h11, Contract0.in1 (rotm8 x8) [] [none, none] [] [] (by kernel_rfl), .mk h9, .mk h7, .mk h5, Contract0.in1 (rotm12 (bXor IntKind.u32 v4 x2)) [] [none, none] [] [] (by kernel_rfl), .mk h3, Contract0.in1 (rotm16 x0) [] [none, none] [] [] (by kernel_rfl), .mk h1, trivial⟩) [.b 1 1 false] [] [] [] (by kernel_rfl) (by kernel_rfl) (by kernel_rfl) (by kernel_rfl) (by kernel_rfl)
end Go.Proofs.Ytmfnldkiaodkpaa.Vm

namespace Go.Proofs.Ytmfnldkiaodkpaa.W
open Go Go.Proofs.Ytmfnldkiaodkpaa.Vm
def sigT : List (List Int) := [[0, 1, 2, 3, 4, 5, 6, 7, 8, 9, 10, 11, 12, 13, 14, 15], [14, 10, 4, 8, 9, 15, 13, 6, 1, 12, 0, 2, 11, 7, 5, 3], [11, 8, 12, 0, 5, 2, 15, 13, 10, 14, 3, 6, 7, 1, 9, 4], [7, 9, 3, 1, 13, 12, 11, 14, 2, 6, 5, 10, 4, 0, 15, 8], [9, 0, 5, 7, 2, 4, 10, 15, 14, 1, 11, 12, 6, 8, 3, 13], [2, 12, 6, 10, 0, 11, 8, 3, 4, 13, 7, 5, 15, 14, 1, 9], [12, 5, 1, 15, 14, 13, 4, 10, 0, 7, 6, 3, 9, 2, 8, 11], [13, 11, 7, 14, 12, 1, 3, 9, 5, 0, 15, 4, 8, 6, 2, 10], [6, 15, 14, 9, 11, 3, 0, 8, 12, 2, 13, 7, 1, 4, 10, 5], [10, 2, 8, 4, 7, 6, 1, 5, 15, 11, 9, 14, 3, 12, 13, 0]]
def sig (r : Nat) : List Int := sigT.getD r [0, 0, 0, 0, 0, 0, 0, 0, 0, 0, 0, 0, 0, 0, 0, 0]
theorem sig_cases (r : Nat) (P : List Int → Prop) (h : ∀ l ∈ sigT, P l) (h0 : P [0, 0, 0, 0, 0, 0, 0, 0, 0, 0, 0, 0, 0, 0, 0, 0]) : P (sig r) := by
  unfold sig
  by_cases hr : r < sigT.length
  · rw [List.getD_eq_getElem?_getD, List.getElem?_eq_getElem hr]; exact h _ (List.getElem_mem hr)
  · rw [List.getD_eq_getElem?_getD, List.getElem?_eq_none (by omega)]; exact h0
theorem sig_len {r : Nat} : (sig r).length = 16 := sig_cases r (fun l => l.length = 16) (by decide) rfl
theorem sig_all {r : Nat} : ∀ x ∈ sig r, 0 ≤ x ∧ x < 16 := sig_cases r (fun l => ∀ x ∈ l, 0 ≤ x ∧ x < 16) (by decide) (by decide)
theorem sig_get {r k : Nat} : 0 ≤ (sig r).getD k 0 ∧ (sig r).getD k 0 < 16 := by
  by_cases hk : k < (sig r).length
  · rw [List.getD_eq_getElem?_getD, List.getElem?_eq_getElem hk]; exact sig_all _ (List.getElem_mem hk)
  · rw [List.getD_eq_getElem?_getD, List.getElem?_eq_none (by omega)]; exact ⟨by decide, by decide⟩
def sg (r k : Nat) : Int := (sig r).getD k 0
theorem sig_lo {r k : Nat} : 0 ≤ sg r k := sig_get.1
theorem sig_hi {r k : Nat} : sg r k < 16 := sig_get.2
theorem sig_nat {r k : Nat} : Int.toNat (sg r k) + 1 ≤ 16 := by have := @sig_lo r k; have := @sig_hi r k; omega
def mq (a b c d x y : Int) : Int × Int × Int × Int :=
  let a1 := (a + (b + x) % 4294967296) % 4294967296
  let x0 := bXor .u32 d a1
  let d1 := bOr .u32 (x0 * 65536 % 4294967296) (x0 / 65536)
  let x2 := (c + d1) % 4294967296
  let b1 := bOr .u32 (bXor .u32 b x2 * 1048576 % 4294967296) (bXor .u32 b x2 / 4096)
  let x6 := (a1 + (b1 + y) % 4294967296) % 4294967296
  let x8 := bXor .u32 d1 x6
  let d2 := bOr .u32 (x8 * 16777216 % 4294967296) (x8 / 256)
  let x10 := (x2 + d2) % 4294967296
  let b2 := bOr .u32 (bXor .u32 b1 x10 * 33554432 % 4294967296) (bXor .u32 b1 x10 / 128)
  (x6, b2, x10, d2)
def mxl (l : List Int) (a b c d : Nat) (x y : Int) : List Int :=
  let q := mq (l.getD a 0) (l.getD b 0) (l.getD c 0) (l.getD d 0) x y
  (((l.set a q.1).set b q.2.1).set c q.2.2.1).set d q.2.2.2
theorem mxl_len {l : List Int} {a b c d : Nat} {x y : Int} : (mxl l a b c d x y).length = l.length := by simp [mxl]
def mw (l : List Int) (o : Nat) : List Int := [w32 l o, w32 l (o + 4), w32 l (o + 8), w32 l (o + 12), w32 l (o + 16), w32 l (o + 20), w32 l (o + 24), w32 l (o + 28), w32 l (o + 32), w32 l (o + 36), w32 l (o + 40), w32 l (o + 44), w32 l (o + 48), w32 l (o + 52), w32 l (o + 56), w32 l (o + 60)]
theorem mw_len {l : List Int} {o : Nat} : (mw l o).length = 16 := rfl
end Go.Proofs.Ytmfnldkiaodkpaa.W
namespace Go.Proofs.Ytmfnldkiaodkpaa.Vm
open Go Go.Proofs Go.Proofs.Ytmfnldkiaodkpaa
theorem sig_ok (r : Nat) (h : r < 10) : PureF Try.prog 99 [(.c (.int .i64 (r : Int)))] (.aggi .i64 [W.sg r 0, W.sg r 1, W.sg r 2, W.sg r 3, W.sg r 4, W.sg r 5, W.sg r 6, W.sg r 7, W.sg r 8, W.sg r 9, W.sg r 10, W.sg r 11, W.sg r 12, W.sg r 13, W.sg r 14, W.sg r 15]) := by
  match r, h with
  | 0, _ => exact bsigma0
  | 1, _ => exact bsigma1
  | 2, _ => exact bsigma2
  | 3, _ => exact bsigma3
  | 4, _ => exact bsigma4
  | 5, _ => exact bsigma5
  | 6, _ => exact bsigma6
  | 7, _ => exact bsigma7
  | 8, _ => exact bsigma8
  | 9, _ => exact bsigma9
theorem row_at (l : List Int) (h : l.length = 16) : l = [l.getD 0 0, l.getD 1 0, l.getD 2 0, l.getD 3 0, l.getD 4 0, l.getD 5 0, l.getD 6 0, l.getD 7 0, l.getD 8 0, l.getD 9 0, l.getD 10 0, l.getD 11 0, l.getD 12 0, l.getD 13 0, l.getD 14 0, l.getD 15 0] := by
  refine List.ext_getElem (by simp [h]) fun i h1 h2 => ?_
  have hi : i < 16 := by omega
  match i, hi, h1, h2 with
  | 0, _, _, _ => simp [List.getD_eq_getElem?_getD, h]
  | 1, _, _, _ => simp [List.getD_eq_getElem?_getD, h]
  | 2, _, _, _ => simp [List.getD_eq_getElem?_getD, h]
  | 3, _, _, _ => simp [List.getD_eq_getElem?_getD, h]
  | 4, _, _, _ => simp [List.getD_eq_getElem?_getD, h]
  | 5, _, _, _ => simp [List.getD_eq_getElem?_getD, h]
  | 6, _, _, _ => simp [List.getD_eq_getElem?_getD, h]
  | 7, _, _, _ => simp [List.getD_eq_getElem?_getD, h]
  | 8, _, _, _ => simp [List.getD_eq_getElem?_getD, h]
  | 9, _, _, _ => simp [List.getD_eq_getElem?_getD, h]
  | 10, _, _, _ => simp [List.getD_eq_getElem?_getD, h]
  | 11, _, _, _ => simp [List.getD_eq_getElem?_getD, h]
  | 12, _, _, _ => simp [List.getD_eq_getElem?_getD, h]
  | 13, _, _, _ => simp [List.getD_eq_getElem?_getD, h]
  | 14, _, _, _ => simp [List.getD_eq_getElem?_getD, h]
  | 15, _, _, _ => simp [List.getD_eq_getElem?_getD, h]
  | n + 16, hi, _, _ => exact absurd hi (by omega)
theorem mix0_ok (ex : Bool) (l : List Int) (x y : Int) (h0_ : l.length = 16) : Contract0 Try.prog 97 [(.c (.int .i64 0)), (.c (.int .i64 4)), (.c (.int .i64 8)), (.c (.int .i64 12)), (.c (.int .u32 x)), (.c (.int .u32 y)), (.c (.ptr 1 0 0))] [(1, (.one ⟨true, ex, (.ints .u32 l)⟩))] 2 (.tup []) [] [(1, (.one ⟨true, ex, (.ints .u32 (W.mxl l 0 4 8 12 x y))⟩))] := by
  rw [row_at l h0_]
  exact bmix0 ex _ _ _ _ _ _ _ _ _ _ _ _ _ _ _ _  x y _ _ _ _ _ _ _ rfl rfl rfl rfl rfl rfl rfl
theorem mix1_ok (ex : Bool) (l : List Int) (x y : Int) (h0_ : l.length = 16) : Contract0 Try.prog 97 [(.c (.int .i64 1)), (.c (.int .i64 5)), (.c (.int .i64 9)), (.c (.int .i64 13)), (.c (.int .u32 x)), (.c (.int .u32 y)), (.c (.ptr 1 0 0))] [(1, (.one ⟨true, ex, (.ints .u32 l)⟩))] 2 (.tup []) [] [(1, (.one ⟨true, ex, (.ints .u32 (W.mxl l 1 5 9 13 x y))⟩))] := by
  rw [row_at l h0_]
  exact bmix1 ex _ _ _ _ _ _ _ _ _ _ _ _ _ _ _ _  x y _ _ _ _ _ _ _ rfl rfl rfl rfl rfl rfl rfl
theorem mix2_ok (ex : Bool) (l : List Int) (x y : Int) (h0_ : l.length = 16) : Contract0 Try.prog 97 [(.c (.int .i64 2)), (.c (.int .i64 6)), (.c (.int .i64 10)), (.c (.int .i64 14)), (.c (.int .u32 x)), (.c (.int .u32 y)), (.c (.ptr 1 0 0))] [(1, (.one ⟨true, ex, (.ints .u32 l)⟩))] 2 (.tup []) [] [(1, (.one ⟨true, ex, (.ints .u32 (W.mxl l 2 6 10 14 x y))⟩))] := by
  rw [row_at l h0_]
  exact bmix2 ex _ _ _ _ _ _ _ _ _ _ _ _ _ _ _ _  x y _ _ _ _ _ _ _ rfl rfl rfl rfl rfl rfl rfl
theorem mix3_ok (ex : Bool) (l : List Int) (x y : Int) (h0_ : l.length = 16) : Contract0 Try.prog 97 [(.c (.int .i64 3)), (.c (.int .i64 7)), (.c (.int .i64 11)), (.c (.int .i64 15)), (.c (.int .u32 x)), (.c (.int .u32 y)), (.c (.ptr 1 0 0))] [(1, (.one ⟨true, ex, (.ints .u32 l)⟩))] 2 (.tup []) [] [(1, (.one ⟨true, ex, (.ints .u32 (W.mxl l 3 7 11 15 x y))⟩))] := by
  rw [row_at l h0_]
  exact bmix3 ex _ _ _ _ _ _ _ _ _ _ _ _ _ _ _ _  x y _ _ _ _ _ _ _ rfl rfl rfl rfl rfl rfl rfl
theorem mix4_ok (ex : Bool) (l : List Int) (x y : Int) (h0_ : l.length = 16) : Contract0 Try.prog 97 [(.c (.int .i64 0)), (.c (.int .i64 5)), (.c (.int .i64 10)), (.c (.int .i64 15)), (.c (.int .u32 x)), (.c (.int .u32 y)), (.c (.ptr 1 0 0))] [(1, (.one ⟨true, ex, (.ints .u32 l)⟩))] 2 (.tup []) [] [(1, (.one ⟨true, ex, (.ints .u32 (W.mxl l 0 5 10 15 x y))⟩))] := by
  rw [row_at l h0_]
  exact bmix4 ex _ _ _ _ _ _ _ _ _ _ _ _ _ _ _ _  x y _ _ _ _ _ _ _ rfl rfl rfl rfl rfl rfl rfl
theorem mix5_ok (ex : Bool) (l : List Int) (x y : Int) (h0_ : l.length = 16) : Contract0 Try.prog 97 [(.c (.int .i64 1)), (.c (.int .i64 6)), (.c (.int .i64 11)), (.c (.int .i64 12)), (.c (.int .u32 x)), (.c (.int .u32 y)), (.c (.ptr 1 0 0))] [(1, (.one ⟨true, ex, (.ints .u32 l)⟩))] 2 (.tup []) [] [(1, (.one ⟨true, ex, (.ints .u32 (W.mxl l 1 6 11 12 x y))⟩))] := by
  rw [row_at l h0_]
  exact bmix5 ex _ _ _ _ _ _ _ _ _ _ _ _ _ _ _ _  x y _ _ _ _ _ _ _ rfl rfl rfl rfl rfl rfl rfl
theorem mix6_ok (ex : Bool) (l : List Int) (x y : Int) (h0_ : l.length = 16) : Contract0 Try.prog 97 [(.c (.int .i64 2)), (.c (.int .i64 7)), (.c (.int .i64 8)), (.c (.int .i64 13)), (.c (.int .u32 x)), (.c (.int .u32 y)), (.c (.ptr 1 0 0))] [(1, (.one ⟨true, ex, (.ints .u32 l)⟩))] 2 (.tup []) [] [(1, (.one ⟨true, ex, (.ints .u32 (W.mxl l 2 7 8 13 x y))⟩))] := by
  rw [row_at l h0_]
  exact bmix6 ex _ _ _ _ _ _ _ _ _ _ _ _ _ _ _ _  x y _ _ _ _ _ _ _ rfl rfl rfl rfl rfl rfl rfl
theorem mix7_ok (ex : Bool) (l : List Int) (x y : Int) (h0_ : l.length = 16) : Contract0 Try.prog 97 [(.c (.int .i64 3)), (.c (.int .i64 4)), (.c (.int .i64 9)), (.c (.int .i64 14)), (.c (.int .u32 x)), (.c (.int .u32 y)), (.c (.ptr 1 0 0))] [(1, (.one ⟨true, ex, (.ints .u32 l)⟩))] 2 (.tup []) [] [(1, (.one ⟨true, ex, (.ints .u32 (W.mxl l 3 4 9 14 x y))⟩))] := by
  rw [row_at l h0_]
  exact bmix7 ex _ _ _ _ _ _ _ _ _ _ _ _ _ _ _ _  x y _ _ _ _ _ _ _ rfl rfl rfl rfl rfl rfl rfl
end Go.Proofs.Ytmfnldkiaodkpaa.Vm
