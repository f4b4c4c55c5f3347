/- What functions of the program come to: parts of the walk (Pf). -/
import Derived.Test.YtokhfkjkeebfpaaPw
import Derived.KernelRfl
import Derived.Test.YtokhfkjkeebfpaaProg
import Derived.Test.YtokhfkjkeebfpaaPe
namespace Go.Proofs.Ytokhfkjkeebfpaa.Vm
open Go Go.Proofs Go.Proofs.Ytokhfkjkeebfpaa
set_option maxRecDepth 100000
theorem m64_7   :
    PureF Try.prog 64 [(.aggi .u64 [67108862, 67108863, 67108863, 67108863, 67108863])] (.aggi .u64 [67108862, 67108863, 67108863, 67108863, 67108863]) :=
  Contract0.of_frun (fn := Try.f64) (c := bodyOf Try.f64) (fuel := 300) (k := kOf Try.prog Try.f64) (outs := []) (hs := [])
    (cs := [])
    mixed Try.func64 (by kernel_rfl) (by kernel_rfl) (by kernel_rfl) rfl (by kernel_rfl) trivial

theorem m64_6   :
    PureF Try.prog 64 [(.aggi .u64 [134217726, 134217726, 134217726, 134217726, 67108862])] (.aggi .u64 [67108862, 67108863, 67108863, 67108863, 67108863]) :=
  Contract0.of_frun (fn := Try.f64) (c := bodyOf Try.f64) (fuel := 300) (k := kOf Try.prog Try.f64) (outs := []) (hs := [])
    (cs := [])
    mixed Try.func64 (by kernel_rfl) (by kernel_rfl) (by kernel_rfl) rfl (by kernel_rfl) trivial

theorem m43_1   :
    PureF Try.prog 43 [(.aggi .u8 [2, 0, 0, 0, 0, 0, 0, 0, 0, 0, 0, 0, 0, 0, 0, 0, 0])] (.aggi .u64 [2, 0, 0, 0, 0]) :=
  Contract0.of_frun (fn := Try.f43) (c := bodyOf Try.f43) (fuel := 300) (k := kOf Try.prog Try.f43) (outs := []) (hs := [])
    (cs := [])
    mixed Try.func43 (by kernel_rfl) (by kernel_rfl) (by kernel_rfl) rfl (by kernel_rfl) trivial

theorem m43_2   :
    PureF Try.prog 43 [(.aggi .u8 [255, 255, 255, 255, 255, 255, 255, 255, 255, 255, 255, 255, 255, 255, 255, 255, 1])] (.aggi .u64 [67108863, 67108863, 67108863, 67108863, 33554431]) :=
  Contract0.of_frun (fn := Try.f43) (c := bodyOf Try.f43) (fuel := 300) (k := kOf Try.prog Try.f43) (outs := []) (hs := [])
    (cs := [])
    mixed Try.func43 (by kernel_rfl) (by kernel_rfl) (by kernel_rfl) rfl (by kernel_rfl) trivial

theorem m44_3
    (c1 : PureF Try.prog 64 [(.aggi .u64 [134217726, 134217726, 134217726, 134217726, 67108862])] (.aggi .u64 [67108862, 67108863, 67108863, 67108863, 67108863]))   :
    PureF Try.prog 44 [(.aggi .u64 [67108863, 67108863, 67108863, 67108863, 33554431]), (.aggi .u64 [2, 0, 0, 0, 0])] (.aggi .u64 [67108862, 67108863, 67108863, 67108863, 67108863]) :=
  Contract0.of_frun (fn := Try.f44) (c := bodyOf Try.f44) (fuel := 300) (k := kOf Try.prog Try.f44) (outs := []) (hs := [(689, ⟨.call [] (.aggi .u64 [67108862, 67108863, 67108863, 67108863, 67108863]) [] [], none⟩)])
    (cs := [Contract Try.prog 64 [(.aggi .u64 [134217726, 134217726, 134217726, 134217726, 67108862])] [] 10049 (.aggi .u64 [67108862, 67108863, 67108863, 67108863, 67108863]) [] []])
    mixed Try.func44 (by kernel_rfl) (by kernel_rfl) (by kernel_rfl) rfl (by kernel_rfl) ⟨c1.use (by kernel_rfl) rfl rfl _ _, trivial⟩

theorem m45_4
    (c1 : PureF Try.prog 64 [(.aggi .u64 [67108862, 67108863, 67108863, 67108863, 67108863])] (.aggi .u64 [67108862, 67108863, 67108863, 67108863, 67108863]))
    (c3 : PureF Try.prog 64 [(.aggi .u64 [67108862, 67108863, 67108863, 67108863, 67108863])] (.aggi .u64 [67108862, 67108863, 67108863, 67108863, 67108863]))
    (c5 : PureF Try.prog 64 [(.aggi .u64 [67108862, 67108863, 67108863, 67108863, 67108863])] (.aggi .u64 [67108862, 67108863, 67108863, 67108863, 67108863]))   :
    PureF Try.prog 45 [(.aggi .u64 [67108862, 67108863, 67108863, 67108863, 67108863])] (.aggi .u64 [3, 0, 0, 0, 0]) :=
  Contract0.of_frun (fn := Try.f45) (c := bodyOf Try.f45) (fuel := 300) (k := kOf Try.prog Try.f45) (outs := []) (hs := [(3, ⟨.call [] (.aggi .u64 [67108862, 67108863, 67108863, 67108863, 67108863]) [] [], none⟩), (4, ⟨.call [] (.aggi .u64 [67108862, 67108863, 67108863, 67108863, 67108863]) [] [], none⟩), (5, ⟨.call [] (.aggi .u64 [67108862, 67108863, 67108863, 67108863, 67108863]) [] [], none⟩)])
    (cs := [Contract Try.prog 64 [(.aggi .u64 [67108862, 67108863, 67108863, 67108863, 67108863])] [] 81 (.aggi .u64 [67108862, 67108863, 67108863, 67108863, 67108863]) [] [],
      Contract Try.prog 64 [(.aggi .u64 [67108862, 67108863, 67108863, 67108863, 67108863])] [] 65 (.aggi .u64 [67108862, 67108863, 67108863, 67108863, 67108863]) [] [],
      Contract Try.prog 64 [(.aggi .u64 [67108862, 67108863, 67108863, 67108863, 67108863])] [] 49 (.aggi .u64 [67108862, 67108863, 67108863, 67108863, 67108863]) [] []])
    mixed Try.func45 (by kernel_rfl) (by kernel_rfl) (by kernel_rfl) rfl (by kernel_rfl) ⟨c5.use (by kernel_rfl) rfl rfl _ _, c3.use (by kernel_rfl) rfl rfl _ _, c1.use (by kernel_rfl) rfl rfl _ _, trivial⟩

theorem m46_5   :
    PureF Try.prog 46 [(.aggi .u64 [3, 0, 0, 0, 0])] (.aggi .u8 [3, 0, 0, 0, 0, 0, 0, 0, 0, 0, 0, 0, 0, 0, 0, 0]) :=
  Contract0.of_frun (fn := Try.f46) (c := bodyOf Try.f46) (fuel := 300) (k := kOf Try.prog Try.f46) (outs := []) (hs := [])
    (cs := [])
    mixed Try.func46 (by kernel_rfl) (by kernel_rfl) (by kernel_rfl) rfl (by kernel_rfl) trivial

theorem run18m
    (c1 : Contract0 Try.prog 38 [(.c (.int .u64 1152921487695413247))] [] 1 (.c (.sl 33 0 0 8 1)) [] [(33, (.one ⟨true, true, (.ints .u8 [255, 255, 255, 15, 252, 255, 255, 15])⟩))])
    (c3 : Contract0 Try.prog 38 [(.c (.int .u64 1152921487695413244))] [] 1 (.c (.sl 33 0 0 8 1)) [] [(33, (.one ⟨true, true, (.ints .u8 [252, 255, 255, 15, 252, 255, 255, 15])⟩))])
    (c5 : Contract0 Try.prog 37 [(.c (.sl 1 0 0 2 1))] [(1, (.one ⟨false, true, (.cells [(.sl 2 0 0 8 1), (.sl 3 0 0 8 1)])⟩)), (2, (.one ⟨false, true, (.ints .u8 [255, 255, 255, 15, 252, 255, 255, 15])⟩)), (3, (.one ⟨false, true, (.ints .u8 [252, 255, 255, 15, 252, 255, 255, 15])⟩))] 4 (.c (.sl 356 0 0 16 1)) [] [(356, (.one ⟨true, false, (.ints .u8 [255, 255, 255, 15, 252, 255, 255, 15, 252, 255, 255, 15, 252, 255, 255, 15])⟩))])
    (c7 : PureF Try.prog 43 [(.aggi .u8 [2, 0, 0, 0, 0, 0, 0, 0, 0, 0, 0, 0, 0, 0, 0, 0, 0])] (.aggi .u64 [2, 0, 0, 0, 0]))
    (c9 : PureF Try.prog 43 [(.aggi .u8 [255, 255, 255, 255, 255, 255, 255, 255, 255, 255, 255, 255, 255, 255, 255, 255, 1])] (.aggi .u64 [67108863, 67108863, 67108863, 67108863, 33554431]))
    (c11 : PureF Try.prog 44 [(.aggi .u64 [67108863, 67108863, 67108863, 67108863, 33554431]), (.aggi .u64 [2, 0, 0, 0, 0])] (.aggi .u64 [67108862, 67108863, 67108863, 67108863, 67108863]))
    (c13 : PureF Try.prog 45 [(.aggi .u64 [67108862, 67108863, 67108863, 67108863, 67108863])] (.aggi .u64 [3, 0, 0, 0, 0]))
    (c15 : PureF Try.prog 46 [(.aggi .u64 [3, 0, 0, 0, 0])] (.aggi .u8 [3, 0, 0, 0, 0, 0, 0, 0, 0, 0, 0, 0, 0, 0, 0, 0]))   :
    Contract0 Try.prog 18 [(.aggi .u8 [2, 0, 0, 0, 0, 0, 0, 0, 0, 0, 0, 0, 0, 0, 0, 0, 0, 0, 0, 0, 0, 0, 0, 0, 0, 0, 0, 0, 0, 0, 0, 0]), (.c (.sl 1 0 0 16 1))] [(1, (.one ⟨false, true, (.ints .u8 [255, 255, 255, 255, 255, 255, 255, 255, 255, 255, 255, 255, 255, 255, 255, 255])⟩))] 2 (.aggi .u8 [3, 0, 0, 0, 0, 0, 0, 0, 0, 0, 0, 0, 0, 0, 0, 0]) [] [] :=
  Contract0.of_frun (fn := Try.f18) (c := bodyOf Try.f18) (fuel := 3000) (k := kOf Try.prog Try.f18) (outs := []) (hs := [(2, ⟨.call [] (.c (.sl 34 0 0 8 1)) [] [(34, (.one ⟨true, true, (.ints .u8 [255, 255, 255, 15, 252, 255, 255, 15])⟩))], none⟩), (3, ⟨.call [] (.c (.sl 50 0 0 8 1)) [] [(50, (.one ⟨true, true, (.ints .u8 [252, 255, 255, 15, 252, 255, 255, 15])⟩))], none⟩), (5, ⟨.call [66, 34, 50] (.c (.sl 82 0 0 16 1)) [] [(82, (.one ⟨true, false, (.ints .u8 [255, 255, 255, 15, 252, 255, 255, 15, 252, 255, 255, 15, 252, 255, 255, 15])⟩))], none⟩), (284, ⟨.call [] (.aggi .u64 [2, 0, 0, 0, 0]) [] [], none⟩), (310, ⟨.call [] (.aggi .u64 [67108863, 67108863, 67108863, 67108863, 33554431]) [] [], none⟩), (391, ⟨.call [] (.aggi .u64 [67108862, 67108863, 67108863, 67108863, 67108863]) [] [], none⟩), (398, ⟨.call [] (.aggi .u64 [3, 0, 0, 0, 0]) [] [], none⟩), (399, ⟨.call [] (.aggi .u8 [3, 0, 0, 0, 0, 0, 0, 0, 0, 0, 0, 0, 0, 0, 0, 0]) [] [], none⟩)])
    (cs := [Contract Try.prog 46 [(.aggi .u64 [3, 0, 0, 0, 0])] [] 5986 (.aggi .u8 [3, 0, 0, 0, 0, 0, 0, 0, 0, 0, 0, 0, 0, 0, 0, 0]) [] [],
      Contract Try.prog 45 [(.aggi .u64 [67108862, 67108863, 67108863, 67108863, 67108863])] [] 5970 (.aggi .u64 [3, 0, 0, 0, 0]) [] [],
      Contract Try.prog 44 [(.aggi .u64 [67108863, 67108863, 67108863, 67108863, 33554431]), (.aggi .u64 [2, 0, 0, 0, 0])] [] 5874 (.aggi .u64 [67108862, 67108863, 67108863, 67108863, 67108863]) [] [],
      Contract Try.prog 43 [(.aggi .u8 [255, 255, 255, 255, 255, 255, 255, 255, 255, 255, 255, 255, 255, 255, 255, 255, 1])] [] 4674 (.aggi .u64 [67108863, 67108863, 67108863, 67108863, 33554431]) [] [],
      Contract Try.prog 43 [(.aggi .u8 [2, 0, 0, 0, 0, 0, 0, 0, 0, 0, 0, 0, 0, 0, 0, 0, 0])] [] 4274 (.aggi .u64 [2, 0, 0, 0, 0]) [] [],
      Contract Try.prog 37 [(.c (.sl 66 0 0 2 1))] [(66, (.one ⟨true, true, (.cells [(.sl 34 0 0 8 1), (.sl 50 0 0 8 1)])⟩)), (34, (.one ⟨true, true, (.ints .u8 [255, 255, 255, 15, 252, 255, 255, 15])⟩)), (50, (.one ⟨true, true, (.ints .u8 [252, 255, 255, 15, 252, 255, 255, 15])⟩))] 82 (.c (.sl 82 0 0 16 1)) [] [(82, (.one ⟨true, false, (.ints .u8 [255, 255, 255, 15, 252, 255, 255, 15, 252, 255, 255, 15, 252, 255, 255, 15])⟩))],
      Contract Try.prog 38 [(.c (.int .u64 1152921487695413244))] [] 50 (.c (.sl 50 0 0 8 1)) [] [(50, (.one ⟨true, true, (.ints .u8 [252, 255, 255, 15, 252, 255, 255, 15])⟩))],
      Contract Try.prog 38 [(.c (.int .u64 1152921487695413247))] [] 34 (.c (.sl 34 0 0 8 1)) [] [(34, (.one ⟨true, true, (.ints .u8 [255, 255, 255, 15, 252, 255, 255, 15])⟩))]])
    mixed Try.func18 (by kernel_rfl) (by kernel_rfl) (by kernel_rfl) rfl (by kernel_rfl) ⟨c15.use (by kernel_rfl) rfl rfl _ _, c13.use (by kernel_rfl) rfl rfl _ _, c11.use (by kernel_rfl) rfl rfl _ _, c9.use (by kernel_rfl) rfl rfl _ _, c7.use (by kernel_rfl) rfl rfl _ _, c5.gen [(66, (1, true)), (34, (2, true)), (50, (3, true))] [(356, 82)] [] (by kernel_rfl) (by kernel_rfl) rfl (by kernel_rfl) rfl rfl (by kernel_rfl) rfl rfl (by kernel_rfl), c3.gen [] [(33, 50)] [] (by kernel_rfl) (by kernel_rfl) rfl (by kernel_rfl) rfl rfl (by kernel_rfl) rfl rfl (by kernel_rfl), c1.gen [] [(33, 34)] [] (by kernel_rfl) (by kernel_rfl) rfl (by kernel_rfl) rfl rfl (by kernel_rfl) rfl rfl (by kernel_rfl), trivial⟩

theorem run3
    (c1 : Contract0 Try.prog 18 [(.aggi .u8 [2, 0, 0, 0, 0, 0, 0, 0, 0, 0, 0, 0, 0, 0, 0, 0, 0, 0, 0, 0, 0, 0, 0, 0, 0, 0, 0, 0, 0, 0, 0, 0]), (.c (.sl 1 0 0 16 1))] [(1, (.one ⟨false, true, (.ints .u8 [255, 255, 255, 255, 255, 255, 255, 255, 255, 255, 255, 255, 255, 255, 255, 255])⟩))] 2 (.aggi .u8 [3, 0, 0, 0, 0, 0, 0, 0, 0, 0, 0, 0, 0, 0, 0, 0]) [] [])
    (c2 : PureF Try.prog 19 [] (.c (.bool (true))))   :
    PureF Try.prog 3 [] (.c (.bool (true))) :=
  Contract0.of_frun (fn := Try.f3) (c := bodyOf Try.f3) (fuel := 300) (k := kOf Try.prog Try.f3) (outs := []) (hs := [(7, ⟨.call [97] (.aggi .u8 [3, 0, 0, 0, 0, 0, 0, 0, 0, 0, 0, 0, 0, 0, 0, 0]) [] [], none⟩), (10, ⟨.call [] (.c (.bool (true))) [] [], none⟩)])
    (cs := [Contract Try.prog 19 [] [] 161 (.c (.bool (true))) [] [],
      Contract Try.prog 18 [(.aggi .u8 [2, 0, 0, 0, 0, 0, 0, 0, 0, 0, 0, 0, 0, 0, 0, 0, 0, 0, 0, 0, 0, 0, 0, 0, 0, 0, 0, 0, 0, 0, 0, 0]), (.c (.sl 97 0 0 16 1))] [(97, (.one ⟨false, true, (.cells [(.int .u8 255), (.int .u8 255), (.int .u8 255), (.int .u8 255), (.int .u8 255), (.int .u8 255), (.int .u8 255), (.int .u8 255), (.int .u8 255), (.int .u8 255), (.int .u8 255), (.int .u8 255), (.int .u8 255), (.int .u8 255), (.int .u8 255), (.int .u8 255)])⟩))] 113 (.aggi .u8 [3, 0, 0, 0, 0, 0, 0, 0, 0, 0, 0, 0, 0, 0, 0, 0]) [] []])
    mixed Try.func3 (by kernel_rfl) (by kernel_rfl) (by kernel_rfl) rfl (by kernel_rfl) ⟨c2.use (by kernel_rfl) rfl rfl _ _, c1.ro [(97, (1, true))] rfl (by kernel_rfl) rfl (by kernel_rfl) rfl rfl _, trivial⟩

end Go.Proofs.Ytokhfkjkeebfpaa.Vm

namespace Go.Proofs.Ytokhfkjkeebfpaa.Vm
open Go Go.Proofs Go.Proofs.Ytokhfkjkeebfpaa
theorem m44_3_ok : PureF Try.prog 44 [(.aggi .u64 [67108863, 67108863, 67108863, 67108863, 33554431]), (.aggi .u64 [2, 0, 0, 0, 0])] (.aggi .u64 [67108862, 67108863, 67108863, 67108863, 67108863]) := m44_3 m64_6
theorem m45_4_ok : PureF Try.prog 45 [(.aggi .u64 [67108862, 67108863, 67108863, 67108863, 67108863])] (.aggi .u64 [3, 0, 0, 0, 0]) := m45_4 m64_7 m64_7 m64_7
theorem run18m_ok : Contract0 Try.prog 18 [(.aggi .u8 [2, 0, 0, 0, 0, 0, 0, 0, 0, 0, 0, 0, 0, 0, 0, 0, 0, 0, 0, 0, 0, 0, 0, 0, 0, 0, 0, 0, 0, 0, 0, 0]), (.c (.sl 1 0 0 16 1))] [(1, (.one ⟨false, true, (.ints .u8 [255, 255, 255, 255, 255, 255, 255, 255, 255, 255, 255, 255, 255, 255, 255, 255])⟩))] 2 (.aggi .u8 [3, 0, 0, 0, 0, 0, 0, 0, 0, 0, 0, 0, 0, 0, 0, 0]) [] [] := run18m run38a_ok run38b_ok run37 m43_1 m43_2 m44_3_ok m45_4_ok m46_5
theorem run3_ok : PureF Try.prog 3 [] (.c (.bool (true))) := run3 run18m_ok run19_ok
end Go.Proofs.Ytokhfkjkeebfpaa.Vm
