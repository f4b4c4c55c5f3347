/- What functions of the program come to: parts of the walk (Ob). -/
import Derived.Test.YtmfnldkiaodkpaaOa
import Derived.KernelRfl
import Derived.Test.YtmfnldkiaodkpaaProg
set_option linter.unusedSimpArgs false
set_option linter.unusedVariables false
namespace Go.Proofs.Ytmfnldkiaodkpaa.Vm
open Go Go.Proofs Go.Proofs.Ytmfnldkiaodkpaa
set_option maxRecDepth 100000
theorem words (k nn : List Int) (c : Int)
    (hk : k.length = 32)
    (hn : nn.length = 12) :
    PureF Try.prog 105 [(.aggi .u8 k), (.c (.int .u32 c)), (.aggi .u8 nn)] (.aggi .u32 (W.words k c nn)) :=
  Contract0.told (res := (.aggi .u32 [1634760805, 857760878, 2036477234, 1797285236, (W.w32 k 0), (W.w32 k 4), (W.w32 k 8), (W.w32 k 12), (W.w32 k 16), (W.w32 k 20), (W.w32 k 24), (W.w32 k 28), c, (W.w32 nn 0), (W.w32 nn 4), (W.w32 nn 8)])) (up := []) (res' := (.aggi .u32 (W.words k c nn))) (up' := []) (by rfl) (by rfl) (Contract0.of_frun (res := (.aggi .u32 [1634760805, 857760878, 2036477234, 1797285236, (W.w32 k 0), (W.w32 k 4), (W.w32 k 8), (W.w32 k 12), (W.w32 k 16), (W.w32 k 20), (W.w32 k 24), (W.w32 k 28), c, (W.w32 nn 0), (W.w32 nn 4), (W.w32 nn 8)])) (up := []) (kill := []) (n0 := 1) (m := []) (args := [(.aggi .u8 k), (.c (.int .u32 c)), (.aggi .u8 nn)]) (fn := Try.f105) (c := bodyOf Try.f105) (fuel := 300) (k := kOf Try.prog Try.f105) (outs := []) (hs := [(15, ⟨.ask, none⟩), (16, ⟨.call [1] (.tup [(.c (.int .u32 (W.w32 k 0))), (.c (.bool (true)))]) [] [], none⟩), (32, ⟨.ask, none⟩), (33, ⟨.call [1] (.tup [(.c (.int .u32 (W.w32 k 4))), (.c (.bool (true)))]) [] [], none⟩), (49, ⟨.ask, none⟩), (50, ⟨.call [1] (.tup [(.c (.int .u32 (W.w32 k 8))), (.c (.bool (true)))]) [] [], none⟩), (66, ⟨.ask, none⟩), (67, ⟨.call [1] (.tup [(.c (.int .u32 (W.w32 k 12))), (.c (.bool (true)))]) [] [], none⟩), (83, ⟨.ask, none⟩), (84, ⟨.call [1] (.tup [(.c (.int .u32 (W.w32 k 16))), (.c (.bool (true)))]) [] [], none⟩), (100, ⟨.ask, none⟩), (101, ⟨.call [1] (.tup [(.c (.int .u32 (W.w32 k 20))), (.c (.bool (true)))]) [] [], none⟩), (117, ⟨.ask, none⟩), (118, ⟨.call [1] (.tup [(.c (.int .u32 (W.w32 k 24))), (.c (.bool (true)))]) [] [], none⟩), (134, ⟨.ask, none⟩), (135, ⟨.call [1] (.tup [(.c (.int .u32 (W.w32 k 28))), (.c (.bool (true)))]) [] [], none⟩), (157, ⟨.ask, none⟩), (158, ⟨.call [17] (.tup [(.c (.int .u32 (W.w32 nn 0))), (.c (.bool (true)))]) [] [], none⟩), (174, ⟨.ask, none⟩), (175, ⟨.call [17] (.tup [(.c (.int .u32 (W.w32 nn 4))), (.c (.bool (true)))]) [] [], none⟩), (191, ⟨.ask, none⟩), (192, ⟨.call [17] (.tup [(.c (.int .u32 (W.w32 nn 8))), (.c (.bool (true)))]) [] [], none⟩)])
    (cs := [Contract Try.prog 96 [(.c (.sl 17 0 8 4 1))] [(17, (.one ⟨true, true, (.ints .u8 nn)⟩))] 2881 (.tup [(.c (.int .u32 (W.w32 nn 8))), (.c (.bool (true)))]) [] [],
      ((0 : Int) ≤ (8 : Int) ∧ (8 : Int) ≤ (12 : Int) ∧ (12 : Int) ≤ (12 : Int) ∧ (12 : Nat) ≤ List.length nn),
      Contract Try.prog 96 [(.c (.sl 17 0 4 8 1))] [(17, (.one ⟨true, true, (.ints .u8 nn)⟩))] 2625 (.tup [(.c (.int .u32 (W.w32 nn 4))), (.c (.bool (true)))]) [] [],
      ((0 : Int) ≤ (4 : Int) ∧ (4 : Int) ≤ (12 : Int) ∧ (12 : Int) ≤ (12 : Int) ∧ (12 : Nat) ≤ List.length nn),
      Contract Try.prog 96 [(.c (.sl 17 0 0 12 1))] [(17, (.one ⟨true, true, (.ints .u8 nn)⟩))] 2369 (.tup [(.c (.int .u32 (W.w32 nn 0))), (.c (.bool (true)))]) [] [],
      ((0 : Int) ≤ (0 : Int) ∧ (0 : Int) ≤ (12 : Int) ∧ (12 : Int) ≤ (12 : Int) ∧ (12 : Nat) ≤ List.length nn),
      Contract Try.prog 96 [(.c (.sl 1 0 28 4 1))] [(1, (.one ⟨true, true, (.ints .u8 k)⟩))] 2033 (.tup [(.c (.int .u32 (W.w32 k 28))), (.c (.bool (true)))]) [] [],
      ((0 : Int) ≤ (28 : Int) ∧ (28 : Int) ≤ (32 : Int) ∧ (32 : Int) ≤ (32 : Int) ∧ (32 : Nat) ≤ List.length k),
      Contract Try.prog 96 [(.c (.sl 1 0 24 8 1))] [(1, (.one ⟨true, true, (.ints .u8 k)⟩))] 1777 (.tup [(.c (.int .u32 (W.w32 k 24))), (.c (.bool (true)))]) [] [],
      ((0 : Int) ≤ (24 : Int) ∧ (24 : Int) ≤ (32 : Int) ∧ (32 : Int) ≤ (32 : Int) ∧ (32 : Nat) ≤ List.length k),
      Contract Try.prog 96 [(.c (.sl 1 0 20 12 1))] [(1, (.one ⟨true, true, (.ints .u8 k)⟩))] 1521 (.tup [(.c (.int .u32 (W.w32 k 20))), (.c (.bool (true)))]) [] [],
      ((0 : Int) ≤ (20 : Int) ∧ (20 : Int) ≤ (32 : Int) ∧ (32 : Int) ≤ (32 : Int) ∧ (32 : Nat) ≤ List.length k),
      Contract Try.prog 96 [(.c (.sl 1 0 16 16 1))] [(1, (.one ⟨true, true, (.ints .u8 k)⟩))] 1265 (.tup [(.c (.int .u32 (W.w32 k 16))), (.c (.bool (true)))]) [] [],
      ((0 : Int) ≤ (16 : Int) ∧ (16 : Int) ≤ (32 : Int) ∧ (32 : Int) ≤ (32 : Int) ∧ (32 : Nat) ≤ List.length k),
      Contract Try.prog 96 [(.c (.sl 1 0 12 20 1))] [(1, (.one ⟨true, true, (.ints .u8 k)⟩))] 1009 (.tup [(.c (.int .u32 (W.w32 k 12))), (.c (.bool (true)))]) [] [],
      ((0 : Int) ≤ (12 : Int) ∧ (12 : Int) ≤ (32 : Int) ∧ (32 : Int) ≤ (32 : Int) ∧ (32 : Nat) ≤ List.length k),
      Contract Try.prog 96 [(.c (.sl 1 0 8 24 1))] [(1, (.one ⟨true, true, (.ints .u8 k)⟩))] 753 (.tup [(.c (.int .u32 (W.w32 k 8))), (.c (.bool (true)))]) [] [],
      ((0 : Int) ≤ (8 : Int) ∧ (8 : Int) ≤ (32 : Int) ∧ (32 : Int) ≤ (32 : Int) ∧ (32 : Nat) ≤ List.length k),
      Contract Try.prog 96 [(.c (.sl 1 0 4 28 1))] [(1, (.one ⟨true, true, (.ints .u8 k)⟩))] 497 (.tup [(.c (.int .u32 (W.w32 k 4))), (.c (.bool (true)))]) [] [],
      ((0 : Int) ≤ (4 : Int) ∧ (4 : Int) ≤ (32 : Int) ∧ (32 : Int) ≤ (32 : Int) ∧ (32 : Nat) ≤ List.length k),
      Contract Try.prog 96 [(.c (.sl 1 0 0 32 1))] [(1, (.one ⟨true, true, (.ints .u8 k)⟩))] 241 (.tup [(.c (.int .u32 (W.w32 k 0))), (.c (.bool (true)))]) [] [],
      ((0 : Int) ≤ (0 : Int) ∧ (0 : Int) ≤ (32 : Int) ∧ (32 : Int) ≤ (32 : Int) ∧ (32 : Nat) ≤ List.length k)])
    mixed Try.func105 (by kernel_rfl) (by kernel_rfl) (by kernel_rfl) (by kernel_rfl) (by kernel_rfl) ⟨Contract0.inst (Get32 nn 8 4 (by omega) (by omega)) [.b 17 1 true []] [none] [] [] (by kernel_rfl) (by kernel_rfl) (by kernel_rfl) (by kernel_rfl) (by kernel_rfl), (by omega), Contract0.inst (Get32 nn 4 8 (by omega) (by omega)) [.b 17 1 true []] [none] [] [] (by kernel_rfl) (by kernel_rfl) (by kernel_rfl) (by kernel_rfl) (by kernel_rfl), (by omega), Contract0.inst (Get32 nn 0 12 (by omega) (by omega)) [.b 17 1 true []] [none] [] [] (by kernel_rfl) (by kernel_rfl) (by kernel_rfl) (by kernel_rfl) (by kernel_rfl), (by omega), Contract0.inst (Get32 k 28 4 (by omega) (by omega)) [.b 1 1 true []] [none] [] [] (by kernel_rfl) (by kernel_rfl) (by kernel_rfl) (by kernel_rfl) (by kernel_rfl), (by omega), Contract0.inst (Get32 k 24 8 (by omega) (by omega)) [.b 1 1 true []] [none] [] [] (by kernel_rfl) (by kernel_rfl) (by kernel_rfl) (by kernel_rfl) (by kernel_rfl), (by omega), Contract0.inst (Get32 k 20 12 (by omega) (by omega)) [.b 1 1 true []] [none] [] [] (by kernel_rfl) (by kernel_rfl) (by kernel_rfl) (by kernel_rfl) (by kernel_rfl), (by omega), Contract0.inst (Get32 k 16 16 (by omega) (by omega)) [.b 1 1 true []] [none] [] [] (by kernel_rfl) (by kernel_rfl) (by kernel_rfl) (by kernel_rfl) (by kernel_rfl), (by omega), Contract0.inst (Get32 k 12 20 (by omega) (by omega)) [.b 1 1 true []] [none] [] [] (by kernel_rfl) (by kernel_rfl) (by kernel_rfl) (by kernel_rfl) (by kernel_rfl), (by omega), Contract0.inst (Get32 k 8 24 (by omega) (by omega)) [.b 1 1 true []] [none] [] [] (by kernel_rfl) (by kernel_rfl) (by kernel_rfl) (by kernel_rfl) (by kernel_rfl), (by omega), Contract0.inst (Get32 k 4 28 (by omega) (by omega)) [.b 1 1 true []] [none] [] [] (by kernel_rfl) (by kernel_rfl) (by kernel_rfl) (by kernel_rfl) (by kernel_rfl), (by omega), Contract0.inst (Get32 k 0 32 (by omega) (by omega)) [.b 1 1 true []] [none] [] [] (by kernel_rfl) (by kernel_rfl) (by kernel_rfl) (by kernel_rfl) (by kernel_rfl), (by omega), trivial⟩)


end Go.Proofs.Ytmfnldkiaodkpaa.Vm

namespace Go.Proofs.Ytmfnldkiaodkpaa.Vm
open Go Go.Proofs Go.Proofs.Ytmfnldkiaodkpaa
end Go.Proofs.Ytmfnldkiaodkpaa.Vm
