/- What functions of the program come to: parts of the walk (Pd). -/
import Derived.Test.YtmfnldkiaodkpaaPw
import Derived.KernelRfl
import Derived.Test.YtmfnldkiaodkpaaProg
set_option linter.unusedSimpArgs false
set_option linter.unusedVariables false
namespace Go.Proofs.Ytmfnldkiaodkpaa.Vm
open Go Go.Proofs Go.Proofs.Ytmfnldkiaodkpaa
set_option maxRecDepth 100000
theorem k64_16   :
    PureF Try.prog 84 [(.aggi .u64 [43844519, 17878349, 46627976, 53214801, 42807735])] (.aggi .u64 [43844519, 17878349, 46627976, 53214801, 42807735]) :=
  Contract0.of_frun (fn := Try.f84) (c := bodyOf Try.f84) (fuel := 300) (k := kOf Try.prog Try.f84) (outs := []) (hs := [])
    (cs := [])
    mixed Try.func84 (by kernel_rfl) (by kernel_rfl) (by kernel_rfl) rfl (by kernel_rfl) trivial

theorem k64_15   :
    PureF Try.prog 84 [(.aggi .u64 [19413284177428380, 3188593649695598, 8576667974007792, 4369508928971401, 2543184264277713])] (.aggi .u64 [43844519, 17878349, 46627976, 53214801, 42807735]) :=
  Contract0.of_frun (fn := Try.f84) (c := bodyOf Try.f84) (fuel := 300) (k := kOf Try.prog Try.f84) (outs := []) (hs := [])
    (cs := [])
    mixed Try.func84 (by kernel_rfl) (by kernel_rfl) (by kernel_rfl) rfl (by kernel_rfl) trivial

theorem k64_14   :
    PureF Try.prog 84 [(.aggi .u64 [30171953825712497, 9323172434340780, 11629096865014967, 7609933754964549, 5028861781107003])] (.aggi .u64 [4927710, 65878669, 66747596, 9355469, 47754671]) :=
  Contract0.of_frun (fn := Try.f84) (c := bodyOf Try.f84) (fuel := 300) (k := kOf Try.prog Try.f84) (outs := []) (hs := [])
    (cs := [])
    mixed Try.func84 (by kernel_rfl) (by kernel_rfl) (by kernel_rfl) rfl (by kernel_rfl) trivial

theorem k64_13   :
    PureF Try.prog 84 [(.aggi .u64 [11783960160246919, 3722482129536373, 4505377602973569, 3506597428071956, 2524834167471521])] (.aggi .u64 [43811836, 58384953, 48829565, 34764178, 46697591]) :=
  Contract0.of_frun (fn := Try.f84) (c := bodyOf Try.f84) (fuel := 300) (k := kOf Try.prog Try.f84) (outs := []) (hs := [])
    (cs := [])
    mixed Try.func84 (by kernel_rfl) (by kernel_rfl) (by kernel_rfl) rfl (by kernel_rfl) trivial

theorem k64_12   :
    PureF Try.prog 84 [(.aggi .u64 [0, 0, 0, 0, 0])] (.aggi .u64 [0, 0, 0, 0, 0]) :=
  Contract0.of_frun (fn := Try.f84) (c := bodyOf Try.f84) (fuel := 300) (k := kOf Try.prog Try.f84) (outs := []) (hs := [])
    (cs := [])
    mixed Try.func84 (by kernel_rfl) (by kernel_rfl) (by kernel_rfl) rfl (by kernel_rfl) trivial

theorem k43_1   :
    PureF Try.prog 59 [(.aggi .u8 [133, 214, 190, 8, 84, 85, 109, 3, 124, 68, 82, 14, 64, 213, 6, 8, 0])] (.aggi .u64 [12506757, 55923970, 4702262, 16791881, 526037]) :=
  Contract0.of_frun (fn := Try.f59) (c := bodyOf Try.f59) (fuel := 300) (k := kOf Try.prog Try.f59) (outs := []) (hs := [])
    (cs := [])
    mixed Try.func59 (by kernel_rfl) (by kernel_rfl) (by kernel_rfl) rfl (by kernel_rfl) trivial

theorem k45_2
    (c1 : PureF Try.prog 84 [(.aggi .u64 [0, 0, 0, 0, 0])] (.aggi .u64 [0, 0, 0, 0, 0]))
    (c3 : PureF Try.prog 84 [(.aggi .u64 [0, 0, 0, 0, 0])] (.aggi .u64 [0, 0, 0, 0, 0]))
    (c5 : PureF Try.prog 84 [(.aggi .u64 [0, 0, 0, 0, 0])] (.aggi .u64 [0, 0, 0, 0, 0]))   :
    PureF Try.prog 61 [(.aggi .u64 [0, 0, 0, 0, 0])] (.aggi .u64 [0, 0, 0, 0, 0]) :=
  Contract0.of_frun (fn := Try.f61) (c := bodyOf Try.f61) (fuel := 300) (k := kOf Try.prog Try.f61) (outs := []) (hs := [(3, ⟨.call [] (.aggi .u64 [0, 0, 0, 0, 0]) [] [], none⟩), (4, ⟨.call [] (.aggi .u64 [0, 0, 0, 0, 0]) [] [], none⟩), (5, ⟨.call [] (.aggi .u64 [0, 0, 0, 0, 0]) [] [], none⟩)])
    (cs := [Contract Try.prog 84 [(.aggi .u64 [0, 0, 0, 0, 0])] [] 81 (.aggi .u64 [0, 0, 0, 0, 0]) [] [],
      Contract Try.prog 84 [(.aggi .u64 [0, 0, 0, 0, 0])] [] 65 (.aggi .u64 [0, 0, 0, 0, 0]) [] [],
      Contract Try.prog 84 [(.aggi .u64 [0, 0, 0, 0, 0])] [] 49 (.aggi .u64 [0, 0, 0, 0, 0]) [] []])
    mixed Try.func61 (by kernel_rfl) (by kernel_rfl) (by kernel_rfl) rfl (by kernel_rfl) ⟨c5.use (by kernel_rfl) rfl rfl _ _, c3.use (by kernel_rfl) rfl rfl _ _, c1.use (by kernel_rfl) rfl rfl _ _, trivial⟩

theorem k46_3   :
    PureF Try.prog 62 [(.aggi .u64 [0, 0, 0, 0, 0])] (.aggi .u8 [0, 0, 0, 0, 0, 0, 0, 0, 0, 0, 0, 0, 0, 0, 0, 0]) :=
  Contract0.of_frun (fn := Try.f62) (c := bodyOf Try.f62) (fuel := 300) (k := kOf Try.prog Try.f62) (outs := []) (hs := [])
    (cs := [])
    mixed Try.func62 (by kernel_rfl) (by kernel_rfl) (by kernel_rfl) rfl (by kernel_rfl) trivial

theorem k43_4   :
    PureF Try.prog 59 [(.aggi .u8 [67, 114, 121, 112, 116, 111, 103, 114, 97, 112, 104, 105, 99, 32, 70, 111, 1])] (.aggi .u64 [7959107, 31186204, 50730790, 26060193, 24069664]) :=
  Contract0.of_frun (fn := Try.f59) (c := bodyOf Try.f59) (fuel := 300) (k := kOf Try.prog Try.f59) (outs := []) (hs := [])
    (cs := [])
    mixed Try.func59 (by kernel_rfl) (by kernel_rfl) (by kernel_rfl) rfl (by kernel_rfl) trivial

theorem k44_5
    (c1 : PureF Try.prog 84 [(.aggi .u64 [11783960160246919, 3722482129536373, 4505377602973569, 3506597428071956, 2524834167471521])] (.aggi .u64 [43811836, 58384953, 48829565, 34764178, 46697591]))   :
    PureF Try.prog 60 [(.aggi .u64 [7959107, 31186204, 50730790, 26060193, 24069664]), (.aggi .u64 [12506757, 55923970, 4702262, 16791881, 526037])] (.aggi .u64 [43811836, 58384953, 48829565, 34764178, 46697591]) :=
  Contract0.of_frun (fn := Try.f60) (c := bodyOf Try.f60) (fuel := 300) (k := kOf Try.prog Try.f60) (outs := []) (hs := [(689, ⟨.call [] (.aggi .u64 [43811836, 58384953, 48829565, 34764178, 46697591]) [] [], none⟩)])
    (cs := [Contract Try.prog 84 [(.aggi .u64 [11783960160246919, 3722482129536373, 4505377602973569, 3506597428071956, 2524834167471521])] [] 10049 (.aggi .u64 [43811836, 58384953, 48829565, 34764178, 46697591]) [] []])
    mixed Try.func60 (by kernel_rfl) (by kernel_rfl) (by kernel_rfl) rfl (by kernel_rfl) ⟨c1.use (by kernel_rfl) rfl rfl _ _, trivial⟩

theorem k43_6   :
    PureF Try.prog 59 [(.aggi .u8 [114, 117, 109, 32, 82, 101, 115, 101, 97, 114, 99, 104, 32, 71, 114, 111, 1])] (.aggi .u64 [7173490, 14242952, 52827735, 8495501, 24080967]) :=
  Contract0.of_frun (fn := Try.f59) (c := bodyOf Try.f59) (fuel := 300) (k := kOf Try.prog Try.f59) (outs := []) (hs := [])
    (cs := [])
    mixed Try.func59 (by kernel_rfl) (by kernel_rfl) (by kernel_rfl) rfl (by kernel_rfl) trivial

theorem k44_7
    (c1 : PureF Try.prog 84 [(.aggi .u64 [30171953825712497, 9323172434340780, 11629096865014967, 7609933754964549, 5028861781107003])] (.aggi .u64 [4927710, 65878669, 66747596, 9355469, 47754671]))   :
    PureF Try.prog 60 [(.aggi .u64 [50985326, 72627905, 101657300, 43259679, 70778558]), (.aggi .u64 [12506757, 55923970, 4702262, 16791881, 526037])] (.aggi .u64 [4927710, 65878669, 66747596, 9355469, 47754671]) :=
  Contract0.of_frun (fn := Try.f60) (c := bodyOf Try.f60) (fuel := 300) (k := kOf Try.prog Try.f60) (outs := []) (hs := [(689, ⟨.call [] (.aggi .u64 [4927710, 65878669, 66747596, 9355469, 47754671]) [] [], none⟩)])
    (cs := [Contract Try.prog 84 [(.aggi .u64 [30171953825712497, 9323172434340780, 11629096865014967, 7609933754964549, 5028861781107003])] [] 10049 (.aggi .u64 [4927710, 65878669, 66747596, 9355469, 47754671]) [] []])
    mixed Try.func60 (by kernel_rfl) (by kernel_rfl) (by kernel_rfl) rfl (by kernel_rfl) ⟨c1.use (by kernel_rfl) rfl rfl _ _, trivial⟩

theorem k43_8   :
    PureF Try.prog 59 [(.aggi .u8 [117, 112, 1, 0, 0, 0, 0, 0, 0, 0, 0, 0, 0, 0, 0, 0, 0])] (.aggi .u64 [94325, 0, 0, 0, 0]) :=
  Contract0.of_frun (fn := Try.f59) (c := bodyOf Try.f59) (fuel := 300) (k := kOf Try.prog Try.f59) (outs := []) (hs := [])
    (cs := [])
    mixed Try.func59 (by kernel_rfl) (by kernel_rfl) (by kernel_rfl) rfl (by kernel_rfl) trivial

theorem k44_9
    (c1 : PureF Try.prog 84 [(.aggi .u64 [19413284177428380, 3188593649695598, 8576667974007792, 4369508928971401, 2543184264277713])] (.aggi .u64 [43844519, 17878349, 46627976, 53214801, 42807735]))   :
    PureF Try.prog 60 [(.aggi .u64 [5022035, 65878669, 66747596, 9355469, 47754671]), (.aggi .u64 [12506757, 55923970, 4702262, 16791881, 526037])] (.aggi .u64 [43844519, 17878349, 46627976, 53214801, 42807735]) :=
  Contract0.of_frun (fn := Try.f60) (c := bodyOf Try.f60) (fuel := 300) (k := kOf Try.prog Try.f60) (outs := []) (hs := [(689, ⟨.call [] (.aggi .u64 [43844519, 17878349, 46627976, 53214801, 42807735]) [] [], none⟩)])
    (cs := [Contract Try.prog 84 [(.aggi .u64 [19413284177428380, 3188593649695598, 8576667974007792, 4369508928971401, 2543184264277713])] [] 10049 (.aggi .u64 [43844519, 17878349, 46627976, 53214801, 42807735]) [] []])
    mixed Try.func60 (by kernel_rfl) (by kernel_rfl) (by kernel_rfl) rfl (by kernel_rfl) ⟨c1.use (by kernel_rfl) rfl rfl _ _, trivial⟩

theorem k45_10
    (c1 : PureF Try.prog 84 [(.aggi .u64 [43844519, 17878349, 46627976, 53214801, 42807735])] (.aggi .u64 [43844519, 17878349, 46627976, 53214801, 42807735]))
    (c3 : PureF Try.prog 84 [(.aggi .u64 [43844519, 17878349, 46627976, 53214801, 42807735])] (.aggi .u64 [43844519, 17878349, 46627976, 53214801, 42807735]))
    (c5 : PureF Try.prog 84 [(.aggi .u64 [43844519, 17878349, 46627976, 53214801, 42807735])] (.aggi .u64 [43844519, 17878349, 46627976, 53214801, 42807735]))   :
    PureF Try.prog 61 [(.aggi .u64 [43844519, 17878349, 46627976, 53214801, 42807735])] (.aggi .u64 [43844519, 17878349, 46627976, 53214801, 42807735]) :=
  Contract0.of_frun (fn := Try.f61) (c := bodyOf Try.f61) (fuel := 300) (k := kOf Try.prog Try.f61) (outs := []) (hs := [(3, ⟨.call [] (.aggi .u64 [43844519, 17878349, 46627976, 53214801, 42807735]) [] [], none⟩), (4, ⟨.call [] (.aggi .u64 [43844519, 17878349, 46627976, 53214801, 42807735]) [] [], none⟩), (5, ⟨.call [] (.aggi .u64 [43844519, 17878349, 46627976, 53214801, 42807735]) [] [], none⟩)])
    (cs := [Contract Try.prog 84 [(.aggi .u64 [43844519, 17878349, 46627976, 53214801, 42807735])] [] 81 (.aggi .u64 [43844519, 17878349, 46627976, 53214801, 42807735]) [] [],
      Contract Try.prog 84 [(.aggi .u64 [43844519, 17878349, 46627976, 53214801, 42807735])] [] 65 (.aggi .u64 [43844519, 17878349, 46627976, 53214801, 42807735]) [] [],
      Contract Try.prog 84 [(.aggi .u64 [43844519, 17878349, 46627976, 53214801, 42807735])] [] 49 (.aggi .u64 [43844519, 17878349, 46627976, 53214801, 42807735]) [] []])
    mixed Try.func61 (by kernel_rfl) (by kernel_rfl) (by kernel_rfl) rfl (by kernel_rfl) ⟨c5.use (by kernel_rfl) rfl rfl _ _, c3.use (by kernel_rfl) rfl rfl _ _, c1.use (by kernel_rfl) rfl rfl _ _, trivial⟩

theorem k46_11   :
    PureF Try.prog 62 [(.aggi .u64 [43844519, 17878349, 46627976, 53214801, 42807735])] (.aggi .u8 [167, 3, 157, 54, 53, 67, 132, 200, 119, 108, 148, 255, 202, 183, 49, 141]) :=
  Contract0.of_frun (fn := Try.f62) (c := bodyOf Try.f62) (fuel := 300) (k := kOf Try.prog Try.f62) (outs := []) (hs := [])
    (cs := [])
    mixed Try.func62 (by kernel_rfl) (by kernel_rfl) (by kernel_rfl) rfl (by kernel_rfl) trivial

theorem run18n
    (c1 : Contract0 Try.prog 58 [(.c (.int .u64 1152921487695413247))] [] 1 (.c (.sl 33 0 0 8 1)) [] [(33, (.one ⟨true, true, (.ints .u8 [255, 255, 255, 15, 252, 255, 255, 15])⟩))])
    (c3 : Contract0 Try.prog 58 [(.c (.int .u64 1152921487695413244))] [] 1 (.c (.sl 33 0 0 8 1)) [] [(33, (.one ⟨true, true, (.ints .u8 [252, 255, 255, 15, 252, 255, 255, 15])⟩))])
    (c5 : Contract0 Try.prog 57 [(.c (.sl 1 0 0 2 1))] [(1, (.one ⟨false, true, (.cells [(.sl 2 0 0 8 1), (.sl 3 0 0 8 1)])⟩)), (2, (.one ⟨false, true, (.ints .u8 [255, 255, 255, 15, 252, 255, 255, 15])⟩)), (3, (.one ⟨false, true, (.ints .u8 [252, 255, 255, 15, 252, 255, 255, 15])⟩))] 4 (.c (.sl 356 0 0 16 1)) [] [(356, (.one ⟨true, false, (.ints .u8 [255, 255, 255, 15, 252, 255, 255, 15, 252, 255, 255, 15, 252, 255, 255, 15])⟩))])
    (c7 : PureF Try.prog 59 [(.aggi .u8 [133, 214, 190, 8, 84, 85, 109, 3, 124, 68, 82, 14, 64, 213, 6, 8, 0])] (.aggi .u64 [12506757, 55923970, 4702262, 16791881, 526037]))
    (c9 : PureF Try.prog 61 [(.aggi .u64 [0, 0, 0, 0, 0])] (.aggi .u64 [0, 0, 0, 0, 0]))
    (c11 : PureF Try.prog 62 [(.aggi .u64 [0, 0, 0, 0, 0])] (.aggi .u8 [0, 0, 0, 0, 0, 0, 0, 0, 0, 0, 0, 0, 0, 0, 0, 0]))   :
    PureF Try.prog 18 [(.aggi .u8 [133, 214, 190, 120, 87, 85, 109, 51, 127, 68, 82, 254, 66, 213, 6, 168, 1, 3, 128, 138, 251, 13, 178, 253, 74, 191, 246, 175, 65, 73, 245, 27]), (.c .nils)] (.aggi .u8 [1, 3, 128, 138, 251, 13, 178, 253, 74, 191, 246, 175, 65, 73, 245, 27]) :=
  Contract0.of_frun (fn := Try.f18) (c := bodyOf Try.f18) (fuel := 3000) (k := kOf Try.prog Try.f18) (outs := []) (hs := [(2, ⟨.call [] (.c (.sl 33 0 0 8 1)) [] [(33, (.one ⟨true, true, (.ints .u8 [255, 255, 255, 15, 252, 255, 255, 15])⟩))], none⟩), (3, ⟨.call [] (.c (.sl 49 0 0 8 1)) [] [(49, (.one ⟨true, true, (.ints .u8 [252, 255, 255, 15, 252, 255, 255, 15])⟩))], none⟩), (5, ⟨.call [65, 33, 49] (.c (.sl 81 0 0 16 1)) [] [(81, (.one ⟨true, false, (.ints .u8 [255, 255, 255, 15, 252, 255, 255, 15, 252, 255, 255, 15, 252, 255, 255, 15])⟩))], none⟩), (284, ⟨.call [] (.aggi .u64 [12506757, 55923970, 4702262, 16791881, 526037]) [] [], none⟩), (293, ⟨.call [] (.aggi .u64 [0, 0, 0, 0, 0]) [] [], none⟩), (294, ⟨.call [] (.aggi .u8 [0, 0, 0, 0, 0, 0, 0, 0, 0, 0, 0, 0, 0, 0, 0, 0]) [] [], none⟩)])
    (cs := [Contract Try.prog 62 [(.aggi .u64 [0, 0, 0, 0, 0])] [] 4417 (.aggi .u8 [0, 0, 0, 0, 0, 0, 0, 0, 0, 0, 0, 0, 0, 0, 0, 0]) [] [],
      Contract Try.prog 61 [(.aggi .u64 [0, 0, 0, 0, 0])] [] 4401 (.aggi .u64 [0, 0, 0, 0, 0]) [] [],
      Contract Try.prog 59 [(.aggi .u8 [133, 214, 190, 8, 84, 85, 109, 3, 124, 68, 82, 14, 64, 213, 6, 8, 0])] [] 4273 (.aggi .u64 [12506757, 55923970, 4702262, 16791881, 526037]) [] [],
      Contract Try.prog 57 [(.c (.sl 65 0 0 2 1))] [(65, (.one ⟨true, true, (.cells [(.sl 33 0 0 8 1), (.sl 49 0 0 8 1)])⟩)), (33, (.one ⟨true, true, (.ints .u8 [255, 255, 255, 15, 252, 255, 255, 15])⟩)), (49, (.one ⟨true, true, (.ints .u8 [252, 255, 255, 15, 252, 255, 255, 15])⟩))] 81 (.c (.sl 81 0 0 16 1)) [] [(81, (.one ⟨true, false, (.ints .u8 [255, 255, 255, 15, 252, 255, 255, 15, 252, 255, 255, 15, 252, 255, 255, 15])⟩))],
      Contract Try.prog 58 [(.c (.int .u64 1152921487695413244))] [] 49 (.c (.sl 49 0 0 8 1)) [] [(49, (.one ⟨true, true, (.ints .u8 [252, 255, 255, 15, 252, 255, 255, 15])⟩))],
      Contract Try.prog 58 [(.c (.int .u64 1152921487695413247))] [] 33 (.c (.sl 33 0 0 8 1)) [] [(33, (.one ⟨true, true, (.ints .u8 [255, 255, 255, 15, 252, 255, 255, 15])⟩))]])
    mixed Try.func18 (by kernel_rfl) (by kernel_rfl) (by kernel_rfl) rfl (by kernel_rfl) ⟨c11.use (by kernel_rfl) rfl rfl _ _, c9.use (by kernel_rfl) rfl rfl _ _, c7.use (by kernel_rfl) rfl rfl _ _, c5.gen [(65, (1, true)), (33, (2, true)), (49, (3, true))] [(356, 81)] [] (by kernel_rfl) (by kernel_rfl) rfl (by kernel_rfl) rfl rfl (by kernel_rfl) rfl rfl (by kernel_rfl), c3.gen [] [(33, 49)] [] (by kernel_rfl) (by kernel_rfl) rfl (by kernel_rfl) rfl rfl (by kernel_rfl) rfl rfl (by kernel_rfl), c1.gen [] [(33, 33)] [] (by kernel_rfl) (by kernel_rfl) rfl (by kernel_rfl) rfl rfl (by kernel_rfl) rfl rfl (by kernel_rfl), trivial⟩

theorem run18x
    (c1 : Contract0 Try.prog 58 [(.c (.int .u64 1152921487695413247))] [] 1 (.c (.sl 33 0 0 8 1)) [] [(33, (.one ⟨true, true, (.ints .u8 [255, 255, 255, 15, 252, 255, 255, 15])⟩))])
    (c3 : Contract0 Try.prog 58 [(.c (.int .u64 1152921487695413244))] [] 1 (.c (.sl 33 0 0 8 1)) [] [(33, (.one ⟨true, true, (.ints .u8 [252, 255, 255, 15, 252, 255, 255, 15])⟩))])
    (c5 : Contract0 Try.prog 57 [(.c (.sl 1 0 0 2 1))] [(1, (.one ⟨false, true, (.cells [(.sl 2 0 0 8 1), (.sl 3 0 0 8 1)])⟩)), (2, (.one ⟨false, true, (.ints .u8 [255, 255, 255, 15, 252, 255, 255, 15])⟩)), (3, (.one ⟨false, true, (.ints .u8 [252, 255, 255, 15, 252, 255, 255, 15])⟩))] 4 (.c (.sl 356 0 0 16 1)) [] [(356, (.one ⟨true, false, (.ints .u8 [255, 255, 255, 15, 252, 255, 255, 15, 252, 255, 255, 15, 252, 255, 255, 15])⟩))])
    (c7 : PureF Try.prog 59 [(.aggi .u8 [133, 214, 190, 8, 84, 85, 109, 3, 124, 68, 82, 14, 64, 213, 6, 8, 0])] (.aggi .u64 [12506757, 55923970, 4702262, 16791881, 526037]))
    (c9 : PureF Try.prog 59 [(.aggi .u8 [67, 114, 121, 112, 116, 111, 103, 114, 97, 112, 104, 105, 99, 32, 70, 111, 1])] (.aggi .u64 [7959107, 31186204, 50730790, 26060193, 24069664]))
    (c11 : PureF Try.prog 60 [(.aggi .u64 [7959107, 31186204, 50730790, 26060193, 24069664]), (.aggi .u64 [12506757, 55923970, 4702262, 16791881, 526037])] (.aggi .u64 [43811836, 58384953, 48829565, 34764178, 46697591]))
    (c13 : PureF Try.prog 59 [(.aggi .u8 [114, 117, 109, 32, 82, 101, 115, 101, 97, 114, 99, 104, 32, 71, 114, 111, 1])] (.aggi .u64 [7173490, 14242952, 52827735, 8495501, 24080967]))
    (c15 : PureF Try.prog 60 [(.aggi .u64 [50985326, 72627905, 101657300, 43259679, 70778558]), (.aggi .u64 [12506757, 55923970, 4702262, 16791881, 526037])] (.aggi .u64 [4927710, 65878669, 66747596, 9355469, 47754671]))
    (c17 : PureF Try.prog 59 [(.aggi .u8 [117, 112, 1, 0, 0, 0, 0, 0, 0, 0, 0, 0, 0, 0, 0, 0, 0])] (.aggi .u64 [94325, 0, 0, 0, 0]))
    (c19 : PureF Try.prog 60 [(.aggi .u64 [5022035, 65878669, 66747596, 9355469, 47754671]), (.aggi .u64 [12506757, 55923970, 4702262, 16791881, 526037])] (.aggi .u64 [43844519, 17878349, 46627976, 53214801, 42807735]))
    (c21 : PureF Try.prog 61 [(.aggi .u64 [43844519, 17878349, 46627976, 53214801, 42807735])] (.aggi .u64 [43844519, 17878349, 46627976, 53214801, 42807735]))
    (c23 : PureF Try.prog 62 [(.aggi .u64 [43844519, 17878349, 46627976, 53214801, 42807735])] (.aggi .u8 [167, 3, 157, 54, 53, 67, 132, 200, 119, 108, 148, 255, 202, 183, 49, 141]))   :
    Contract0 Try.prog 18 [(.aggi .u8 [133, 214, 190, 120, 87, 85, 109, 51, 127, 68, 82, 254, 66, 213, 6, 168, 1, 3, 128, 138, 251, 13, 178, 253, 74, 191, 246, 175, 65, 73, 245, 27]), (.c (.sl 1 0 0 34 1))] [(1, (.one ⟨false, true, (.ints .u8 [67, 114, 121, 112, 116, 111, 103, 114, 97, 112, 104, 105, 99, 32, 70, 111, 114, 117, 109, 32, 82, 101, 115, 101, 97, 114, 99, 104, 32, 71, 114, 111, 117, 112])⟩))] 2 (.aggi .u8 [168, 6, 29, 193, 48, 81, 54, 198, 194, 43, 139, 175, 12, 1, 39, 169]) [] [] :=
  Contract0.of_frun (fn := Try.f18) (c := bodyOf Try.f18) (fuel := 3000) (k := kOf Try.prog Try.f18) (outs := []) (hs := [(2, ⟨.call [] (.c (.sl 34 0 0 8 1)) [] [(34, (.one ⟨true, true, (.ints .u8 [255, 255, 255, 15, 252, 255, 255, 15])⟩))], none⟩), (3, ⟨.call [] (.c (.sl 50 0 0 8 1)) [] [(50, (.one ⟨true, true, (.ints .u8 [252, 255, 255, 15, 252, 255, 255, 15])⟩))], none⟩), (5, ⟨.call [66, 34, 50] (.c (.sl 82 0 0 16 1)) [] [(82, (.one ⟨true, false, (.ints .u8 [255, 255, 255, 15, 252, 255, 255, 15, 252, 255, 255, 15, 252, 255, 255, 15])⟩))], none⟩), (284, ⟨.call [] (.aggi .u64 [12506757, 55923970, 4702262, 16791881, 526037]) [] [], none⟩), (310, ⟨.call [] (.aggi .u64 [7959107, 31186204, 50730790, 26060193, 24069664]) [] [], none⟩), (391, ⟨.call [] (.aggi .u64 [43811836, 58384953, 48829565, 34764178, 46697591]) [] [], none⟩), (415, ⟨.call [] (.aggi .u64 [7173490, 14242952, 52827735, 8495501, 24080967]) [] [], none⟩), (496, ⟨.call [] (.aggi .u64 [4927710, 65878669, 66747596, 9355469, 47754671]) [] [], none⟩), (520, ⟨.call [] (.aggi .u64 [94325, 0, 0, 0, 0]) [] [], none⟩), (601, ⟨.call [] (.aggi .u64 [43844519, 17878349, 46627976, 53214801, 42807735]) [] [], none⟩), (608, ⟨.call [] (.aggi .u64 [43844519, 17878349, 46627976, 53214801, 42807735]) [] [], none⟩), (609, ⟨.call [] (.aggi .u8 [167, 3, 157, 54, 53, 67, 132, 200, 119, 108, 148, 255, 202, 183, 49, 141]) [] [], none⟩)])
    (cs := [Contract Try.prog 62 [(.aggi .u64 [43844519, 17878349, 46627976, 53214801, 42807735])] [] 9122 (.aggi .u8 [167, 3, 157, 54, 53, 67, 132, 200, 119, 108, 148, 255, 202, 183, 49, 141]) [] [],
      Contract Try.prog 61 [(.aggi .u64 [43844519, 17878349, 46627976, 53214801, 42807735])] [] 9106 (.aggi .u64 [43844519, 17878349, 46627976, 53214801, 42807735]) [] [],
      Contract Try.prog 60 [(.aggi .u64 [5022035, 65878669, 66747596, 9355469, 47754671]), (.aggi .u64 [12506757, 55923970, 4702262, 16791881, 526037])] [] 9010 (.aggi .u64 [43844519, 17878349, 46627976, 53214801, 42807735]) [] [],
      Contract Try.prog 59 [(.aggi .u8 [117, 112, 1, 0, 0, 0, 0, 0, 0, 0, 0, 0, 0, 0, 0, 0, 0])] [] 7810 (.aggi .u64 [94325, 0, 0, 0, 0]) [] [],
      Contract Try.prog 60 [(.aggi .u64 [50985326, 72627905, 101657300, 43259679, 70778558]), (.aggi .u64 [12506757, 55923970, 4702262, 16791881, 526037])] [] 7442 (.aggi .u64 [4927710, 65878669, 66747596, 9355469, 47754671]) [] [],
      Contract Try.prog 59 [(.aggi .u8 [114, 117, 109, 32, 82, 101, 115, 101, 97, 114, 99, 104, 32, 71, 114, 111, 1])] [] 6242 (.aggi .u64 [7173490, 14242952, 52827735, 8495501, 24080967]) [] [],
      Contract Try.prog 60 [(.aggi .u64 [7959107, 31186204, 50730790, 26060193, 24069664]), (.aggi .u64 [12506757, 55923970, 4702262, 16791881, 526037])] [] 5874 (.aggi .u64 [43811836, 58384953, 48829565, 34764178, 46697591]) [] [],
      Contract Try.prog 59 [(.aggi .u8 [67, 114, 121, 112, 116, 111, 103, 114, 97, 112, 104, 105, 99, 32, 70, 111, 1])] [] 4674 (.aggi .u64 [7959107, 31186204, 50730790, 26060193, 24069664]) [] [],
      Contract Try.prog 59 [(.aggi .u8 [133, 214, 190, 8, 84, 85, 109, 3, 124, 68, 82, 14, 64, 213, 6, 8, 0])] [] 4274 (.aggi .u64 [12506757, 55923970, 4702262, 16791881, 526037]) [] [],
      Contract Try.prog 57 [(.c (.sl 66 0 0 2 1))] [(66, (.one ⟨true, true, (.cells [(.sl 34 0 0 8 1), (.sl 50 0 0 8 1)])⟩)), (34, (.one ⟨true, true, (.ints .u8 [255, 255, 255, 15, 252, 255, 255, 15])⟩)), (50, (.one ⟨true, true, (.ints .u8 [252, 255, 255, 15, 252, 255, 255, 15])⟩))] 82 (.c (.sl 82 0 0 16 1)) [] [(82, (.one ⟨true, false, (.ints .u8 [255, 255, 255, 15, 252, 255, 255, 15, 252, 255, 255, 15, 252, 255, 255, 15])⟩))],
      Contract Try.prog 58 [(.c (.int .u64 1152921487695413244))] [] 50 (.c (.sl 50 0 0 8 1)) [] [(50, (.one ⟨true, true, (.ints .u8 [252, 255, 255, 15, 252, 255, 255, 15])⟩))],
      Contract Try.prog 58 [(.c (.int .u64 1152921487695413247))] [] 34 (.c (.sl 34 0 0 8 1)) [] [(34, (.one ⟨true, true, (.ints .u8 [255, 255, 255, 15, 252, 255, 255, 15])⟩))]])
    mixed Try.func18 (by kernel_rfl) (by kernel_rfl) (by kernel_rfl) rfl (by kernel_rfl) ⟨c23.use (by kernel_rfl) rfl rfl _ _, c21.use (by kernel_rfl) rfl rfl _ _, c19.use (by kernel_rfl) rfl rfl _ _, c17.use (by kernel_rfl) rfl rfl _ _, c15.use (by kernel_rfl) rfl rfl _ _, c13.use (by kernel_rfl) rfl rfl _ _, c11.use (by kernel_rfl) rfl rfl _ _, c9.use (by kernel_rfl) rfl rfl _ _, c7.use (by kernel_rfl) rfl rfl _ _, c5.gen [(66, (1, true)), (34, (2, true)), (50, (3, true))] [(356, 82)] [] (by kernel_rfl) (by kernel_rfl) rfl (by kernel_rfl) rfl rfl (by kernel_rfl) rfl rfl (by kernel_rfl), c3.gen [] [(33, 50)] [] (by kernel_rfl) (by kernel_rfl) rfl (by kernel_rfl) rfl rfl (by kernel_rfl) rfl rfl (by kernel_rfl), c1.gen [] [(33, 34)] [] (by kernel_rfl) (by kernel_rfl) rfl (by kernel_rfl) rfl rfl (by kernel_rfl) rfl rfl (by kernel_rfl), trivial⟩

end Go.Proofs.Ytmfnldkiaodkpaa.Vm
