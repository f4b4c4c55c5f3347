/- What functions of the program come to: parts of the walk (Pe). -/
import Derived.Test.YtmfnldkiaodkpaaPc
import Derived.Test.YtmfnldkiaodkpaaPd
import Derived.KernelRfl
import Derived.Test.YtmfnldkiaodkpaaProg
import Derived.Test.YtmfnldkiaodkpaaPw
import Derived.Test.YtmfnldkiaodkpaaPb
import Derived.Test.YtmfnldkiaodkpaaVmb
set_option linter.unusedSimpArgs false
set_option linter.unusedVariables false
namespace Go.Proofs.Ytmfnldkiaodkpaa.Vm
open Go Go.Proofs Go.Proofs.Ytmfnldkiaodkpaa
theorem run38a_ok : Contract0 Try.prog 58 [(.c (.int .u64 1152921487695413247))] [] 1 (.c (.sl 33 0 0 8 1)) [] [(33, (.one ⟨true, true, (.ints .u8 [255, 255, 255, 15, 252, 255, 255, 15])⟩))] := run38a run63a
theorem run38b_ok : Contract0 Try.prog 58 [(.c (.int .u64 1152921487695413244))] [] 1 (.c (.sl 33 0 0 8 1)) [] [(33, (.one ⟨true, true, (.ints .u8 [252, 255, 255, 15, 252, 255, 255, 15])⟩))] := run38b run63b
theorem run47_ok : PureF Try.prog 55 [(.c (.str ({ data := { toList := [56, 53, 100, 54, 98, 101, 55, 56, 53, 55, 53, 53, 54, 100, 51, 51, 55, 102, 52, 52, 53, 50, 102, 101, 52, 50, 100, 53, 48, 54, 97, 56, 48, 49, 48, 51, 56, 48, 56, 97, 102, 98, 48, 100, 98, 50, 102, 100, 52, 97, 98, 102, 102, 54, 97, 102, 52, 49, 52, 57, 102, 53, 49, 98] } })))] (.aggi .u8 [133, 214, 190, 120, 87, 85, 109, 51, 127, 68, 82, 254, 66, 213, 6, 168, 1, 3, 128, 138, 251, 13, 178, 253, 74, 191, 246, 175, 65, 73, 245, 27]) := run47 run48b
theorem k45_2_ok : PureF Try.prog 61 [(.aggi .u64 [0, 0, 0, 0, 0])] (.aggi .u64 [0, 0, 0, 0, 0]) := k45_2 k64_12 k64_12 k64_12
theorem run18n_ok : PureF Try.prog 18 [(.aggi .u8 [133, 214, 190, 120, 87, 85, 109, 51, 127, 68, 82, 254, 66, 213, 6, 168, 1, 3, 128, 138, 251, 13, 178, 253, 74, 191, 246, 175, 65, 73, 245, 27]), (.c .nils)] (.aggi .u8 [1, 3, 128, 138, 251, 13, 178, 253, 74, 191, 246, 175, 65, 73, 245, 27]) := run18n run38a_ok run38b_ok run37 k43_1 k45_2_ok k46_3
theorem k44_5_ok : PureF Try.prog 60 [(.aggi .u64 [7959107, 31186204, 50730790, 26060193, 24069664]), (.aggi .u64 [12506757, 55923970, 4702262, 16791881, 526037])] (.aggi .u64 [43811836, 58384953, 48829565, 34764178, 46697591]) := k44_5 k64_13
theorem k44_7_ok : PureF Try.prog 60 [(.aggi .u64 [50985326, 72627905, 101657300, 43259679, 70778558]), (.aggi .u64 [12506757, 55923970, 4702262, 16791881, 526037])] (.aggi .u64 [4927710, 65878669, 66747596, 9355469, 47754671]) := k44_7 k64_14
theorem k44_9_ok : PureF Try.prog 60 [(.aggi .u64 [5022035, 65878669, 66747596, 9355469, 47754671]), (.aggi .u64 [12506757, 55923970, 4702262, 16791881, 526037])] (.aggi .u64 [43844519, 17878349, 46627976, 53214801, 42807735]) := k44_9 k64_15
theorem k45_10_ok : PureF Try.prog 61 [(.aggi .u64 [43844519, 17878349, 46627976, 53214801, 42807735])] (.aggi .u64 [43844519, 17878349, 46627976, 53214801, 42807735]) := k45_10 k64_16 k64_16 k64_16
theorem run18x_ok : Contract0 Try.prog 18 [(.aggi .u8 [133, 214, 190, 120, 87, 85, 109, 51, 127, 68, 82, 254, 66, 213, 6, 168, 1, 3, 128, 138, 251, 13, 178, 253, 74, 191, 246, 175, 65, 73, 245, 27]), (.c (.sl 1 0 0 34 1))] [(1, (.one ⟨false, true, (.ints .u8 [67, 114, 121, 112, 116, 111, 103, 114, 97, 112, 104, 105, 99, 32, 70, 111, 114, 117, 109, 32, 82, 101, 115, 101, 97, 114, 99, 104, 32, 71, 114, 111, 117, 112])⟩))] 2 (.aggi .u8 [168, 6, 29, 193, 48, 81, 54, 198, 194, 43, 139, 175, 12, 1, 39, 169]) [] [] := run18x run38a_ok run38b_ok run37 k43_1 k43_4 k44_5_ok k43_6 k44_7_ok k43_8 k44_9_ok k45_10_ok k46_11
theorem run19_ok : PureF Try.prog 17 [] (.c (.bool (true))) := run19 run47_ok run18n_ok run18x_ok run48a
end Go.Proofs.Ytmfnldkiaodkpaa.Vm

namespace Go.Proofs.Ytmfnldkiaodkpaa.Vm
open Go Go.Proofs Go.Proofs.Ytmfnldkiaodkpaa
set_option maxRecDepth 100000
theorem z43   :
    PureF Try.prog 59 [(.aggi .u8 [0, 0, 0, 0, 0, 0, 0, 0, 0, 0, 0, 0, 0, 0, 0, 0, 0])] (.aggi .u64 [0, 0, 0, 0, 0]) :=
  Contract0.of_frun (fn := Try.f59) (c := bodyOf Try.f59) (fuel := 300) (k := kOf Try.prog Try.f59) (outs := []) (hs := [])
    (cs := [])
    mixed Try.func59 (by kernel_rfl) (by kernel_rfl) (by kernel_rfl) rfl (by kernel_rfl) trivial

theorem z44 (a0 a1 a2 a3 a4 x1 x3 x5 x7 x9 x11 x13 x15 x17 x19 x21 x23 x25 x27 x29 x31 x33 x35 x37 x39 x41 x43 x45 x47 x49 x51 x53 x55 x57 x59 x61 x63 x65 x67 x69 x71 x73 x75 x77 x79 x81 x83 x85 x87 x89 x91 x93 x95 x97 x99 x101 x103 x105 x107 x109 x111 x113 x115 x117 x119 x121 x123 x125 x127 : Int)
    (h0 : (a0 * 0 % 18446744073709551616) = x1)
    (h2 : ((0 + x1) % 18446744073709551616) = x3)
    (h4 : (List.getD (splice [0, 0, 0, 0, 0] 0 [x3]) 1 0) = x5)
    (h6 : (a0 * 0 % 18446744073709551616) = x7)
    (h8 : ((x5 + x7) % 18446744073709551616) = x9)
    (h10 : (List.getD (splice (splice [0, 0, 0, 0, 0] 0 [x3]) 1 [x9]) 2 0) = x11)
    (h12 : (a0 * 0 % 18446744073709551616) = x13)
    (h14 : ((x11 + x13) % 18446744073709551616) = x15)
    (h16 : (List.getD (splice (splice (splice [0, 0, 0, 0, 0] 0 [x3]) 1 [x9]) 2 [x15]) 3 0) = x17)
    (h18 : (a0 * 0 % 18446744073709551616) = x19)
    (h20 : ((x17 + x19) % 18446744073709551616) = x21)
    (h22 : (List.getD (splice (splice (splice (splice [0, 0, 0, 0, 0] 0 [x3]) 1 [x9]) 2 [x15]) 3 [x21]) 4 0) = x23)
    (h24 : (a0 * 0 % 18446744073709551616) = x25)
    (h26 : ((x23 + x25) % 18446744073709551616) = x27)
    (h28 : (a1 * 0 % 18446744073709551616) = x29)
    (h30 : ((x9 + x29) % 18446744073709551616) = x31)
    (h32 : (a1 * 0 % 18446744073709551616) = x33)
    (h34 : ((x15 + x33) % 18446744073709551616) = x35)
    (h36 : (a1 * 0 % 18446744073709551616) = x37)
    (h38 : ((x21 + x37) % 18446744073709551616) = x39)
    (h40 : (a1 * 0 % 18446744073709551616) = x41)
    (h42 : ((x27 + x41) % 18446744073709551616) = x43)
    (h44 : (5 * a1 % 18446744073709551616) = x45)
    (h46 : (x45 * 0 % 18446744073709551616) = x47)
    (h48 : ((x3 + x47) % 18446744073709551616) = x49)
    (h50 : (a2 * 0 % 18446744073709551616) = x51)
    (h52 : ((x35 + x51) % 18446744073709551616) = x53)
    (h54 : (a2 * 0 % 18446744073709551616) = x55)
    (h56 : ((x39 + x55) % 18446744073709551616) = x57)
    (h58 : (a2 * 0 % 18446744073709551616) = x59)
    (h60 : ((x43 + x59) % 18446744073709551616) = x61)
    (h62 : (5 * a2 % 18446744073709551616) = x63)
    (h64 : (x63 * 0 % 18446744073709551616) = x65)
    (h66 : ((x49 + x65) % 18446744073709551616) = x67)
    (h68 : (5 * a2 % 18446744073709551616) = x69)
    (h70 : (x69 * 0 % 18446744073709551616) = x71)
    (h72 : ((x31 + x71) % 18446744073709551616) = x73)
    (h74 : (a3 * 0 % 18446744073709551616) = x75)
    (h76 : ((x57 + x75) % 18446744073709551616) = x77)
    (h78 : (a3 * 0 % 18446744073709551616) = x79)
    (h80 : ((x61 + x79) % 18446744073709551616) = x81)
    (h82 : (5 * a3 % 18446744073709551616) = x83)
    (h84 : (x83 * 0 % 18446744073709551616) = x85)
    (h86 : ((x67 + x85) % 18446744073709551616) = x87)
    (h88 : (5 * a3 % 18446744073709551616) = x89)
    (h90 : (x89 * 0 % 18446744073709551616) = x91)
    (h92 : ((x73 + x91) % 18446744073709551616) = x93)
    (h94 : (5 * a3 % 18446744073709551616) = x95)
    (h96 : (x95 * 0 % 18446744073709551616) = x97)
    (h98 : ((x53 + x97) % 18446744073709551616) = x99)
    (h100 : (a4 * 0 % 18446744073709551616) = x101)
    (h102 : ((x81 + x101) % 18446744073709551616) = x103)
    (h104 : (5 * a4 % 18446744073709551616) = x105)
    (h106 : (x105 * 0 % 18446744073709551616) = x107)
    (h108 : ((x87 + x107) % 18446744073709551616) = x109)
    (h110 : (5 * a4 % 18446744073709551616) = x111)
    (h112 : (x111 * 0 % 18446744073709551616) = x113)
    (h114 : ((x93 + x113) % 18446744073709551616) = x115)
    (h116 : (5 * a4 % 18446744073709551616) = x117)
    (h118 : (x117 * 0 % 18446744073709551616) = x119)
    (h120 : ((x99 + x119) % 18446744073709551616) = x121)
    (h122 : (5 * a4 % 18446744073709551616) = x123)
    (h124 : (x123 * 0 % 18446744073709551616) = x125)
    (h126 : ((x77 + x125) % 18446744073709551616) = x127)
    (c129 : PureF Try.prog 84 [(.aggi .u64 [x109, x115, x121, x127, x103])] (.aggi .u64 [0, 0, 0, 0, 0]))   :
    PureF Try.prog 60 [(.aggi .u64 [a0, a1, a2, a3, a4]), (.aggi .u64 [0, 0, 0, 0, 0])] (.aggi .u64 [0, 0, 0, 0, 0]) :=
  Contract0.of_frun (fn := Try.f60) (c := bodyOf Try.f60) (fuel := 300) (k := kOf Try.prog Try.f60) (outs := []) (hs := [(32, ⟨.auto, some (.c (.int .u64 x1))⟩), (33, ⟨.auto, some (.c (.int .u64 x3))⟩), (53, ⟨.auto, some (.c (.int .u64 x5))⟩), (56, ⟨.auto, some (.c (.int .u64 x7))⟩), (57, ⟨.auto, some (.c (.int .u64 x9))⟩), (77, ⟨.auto, some (.c (.int .u64 x11))⟩), (80, ⟨.auto, some (.c (.int .u64 x13))⟩), (81, ⟨.auto, some (.c (.int .u64 x15))⟩), (101, ⟨.auto, some (.c (.int .u64 x17))⟩), (104, ⟨.auto, some (.c (.int .u64 x19))⟩), (105, ⟨.auto, some (.c (.int .u64 x21))⟩), (125, ⟨.auto, some (.c (.int .u64 x23))⟩), (128, ⟨.auto, some (.c (.int .u64 x25))⟩), (129, ⟨.auto, some (.c (.int .u64 x27))⟩), (164, ⟨.auto, some (.c (.int .u64 x29))⟩), (165, ⟨.auto, some (.c (.int .u64 x31))⟩), (188, ⟨.auto, some (.c (.int .u64 x33))⟩), (189, ⟨.auto, some (.c (.int .u64 x35))⟩), (212, ⟨.auto, some (.c (.int .u64 x37))⟩), (213, ⟨.auto, some (.c (.int .u64 x39))⟩), (236, ⟨.auto, some (.c (.int .u64 x41))⟩), (237, ⟨.auto, some (.c (.int .u64 x43))⟩), (260, ⟨.auto, some (.c (.int .u64 x45))⟩), (262, ⟨.auto, some (.c (.int .u64 x47))⟩), (263, ⟨.auto, some (.c (.int .u64 x49))⟩), (298, ⟨.auto, some (.c (.int .u64 x51))⟩), (299, ⟨.auto, some (.c (.int .u64 x53))⟩), (322, ⟨.auto, some (.c (.int .u64 x55))⟩), (323, ⟨.auto, some (.c (.int .u64 x57))⟩), (346, ⟨.auto, some (.c (.int .u64 x59))⟩), (347, ⟨.auto, some (.c (.int .u64 x61))⟩), (370, ⟨.auto, some (.c (.int .u64 x63))⟩), (372, ⟨.auto, some (.c (.int .u64 x65))⟩), (373, ⟨.auto, some (.c (.int .u64 x67))⟩), (396, ⟨.auto, some (.c (.int .u64 x69))⟩), (398, ⟨.auto, some (.c (.int .u64 x71))⟩), (399, ⟨.auto, some (.c (.int .u64 x73))⟩), (434, ⟨.auto, some (.c (.int .u64 x75))⟩), (435, ⟨.auto, some (.c (.int .u64 x77))⟩), (458, ⟨.auto, some (.c (.int .u64 x79))⟩), (459, ⟨.auto, some (.c (.int .u64 x81))⟩), (482, ⟨.auto, some (.c (.int .u64 x83))⟩), (484, ⟨.auto, some (.c (.int .u64 x85))⟩), (485, ⟨.auto, some (.c (.int .u64 x87))⟩), (508, ⟨.auto, some (.c (.int .u64 x89))⟩), (510, ⟨.auto, some (.c (.int .u64 x91))⟩), (511, ⟨.auto, some (.c (.int .u64 x93))⟩), (534, ⟨.auto, some (.c (.int .u64 x95))⟩), (536, ⟨.auto, some (.c (.int .u64 x97))⟩), (537, ⟨.auto, some (.c (.int .u64 x99))⟩), (572, ⟨.auto, some (.c (.int .u64 x101))⟩), (573, ⟨.auto, some (.c (.int .u64 x103))⟩), (596, ⟨.auto, some (.c (.int .u64 x105))⟩), (598, ⟨.auto, some (.c (.int .u64 x107))⟩), (599, ⟨.auto, some (.c (.int .u64 x109))⟩), (622, ⟨.auto, some (.c (.int .u64 x111))⟩), (624, ⟨.auto, some (.c (.int .u64 x113))⟩), (625, ⟨.auto, some (.c (.int .u64 x115))⟩), (648, ⟨.auto, some (.c (.int .u64 x117))⟩), (650, ⟨.auto, some (.c (.int .u64 x119))⟩), (651, ⟨.auto, some (.c (.int .u64 x121))⟩), (674, ⟨.auto, some (.c (.int .u64 x123))⟩), (676, ⟨.auto, some (.c (.int .u64 x125))⟩), (677, ⟨.auto, some (.c (.int .u64 x127))⟩), (689, ⟨.call [] (.aggi .u64 [0, 0, 0, 0, 0]) [] [], none⟩)])
    (cs := [Contract Try.prog 84 [(.aggi .u64 [x109, x115, x121, x127, x103])] [] 10049 (.aggi .u64 [0, 0, 0, 0, 0]) [] [],
      EI .u64 ((x77 + x125) % 18446744073709551616) x127,
      EI .u64 (x123 * 0 % 18446744073709551616) x125,
      EI .u64 (5 * a4 % 18446744073709551616) x123,
      EI .u64 ((x99 + x119) % 18446744073709551616) x121,
      EI .u64 (x117 * 0 % 18446744073709551616) x119,
      EI .u64 (5 * a4 % 18446744073709551616) x117,
      EI .u64 ((x93 + x113) % 18446744073709551616) x115,
      EI .u64 (x111 * 0 % 18446744073709551616) x113,
      EI .u64 (5 * a4 % 18446744073709551616) x111,
      EI .u64 ((x87 + x107) % 18446744073709551616) x109,
      EI .u64 (x105 * 0 % 18446744073709551616) x107,
      EI .u64 (5 * a4 % 18446744073709551616) x105,
      EI .u64 ((x81 + x101) % 18446744073709551616) x103,
      EI .u64 (a4 * 0 % 18446744073709551616) x101,
      EI .u64 ((x53 + x97) % 18446744073709551616) x99,
      EI .u64 (x95 * 0 % 18446744073709551616) x97,
      EI .u64 (5 * a3 % 18446744073709551616) x95,
      EI .u64 ((x73 + x91) % 18446744073709551616) x93,
      EI .u64 (x89 * 0 % 18446744073709551616) x91,
      EI .u64 (5 * a3 % 18446744073709551616) x89,
      EI .u64 ((x67 + x85) % 18446744073709551616) x87,
      EI .u64 (x83 * 0 % 18446744073709551616) x85,
      EI .u64 (5 * a3 % 18446744073709551616) x83,
      EI .u64 ((x61 + x79) % 18446744073709551616) x81,
      EI .u64 (a3 * 0 % 18446744073709551616) x79,
      EI .u64 ((x57 + x75) % 18446744073709551616) x77,
      EI .u64 (a3 * 0 % 18446744073709551616) x75,
      EI .u64 ((x31 + x71) % 18446744073709551616) x73,
      EI .u64 (x69 * 0 % 18446744073709551616) x71,
      EI .u64 (5 * a2 % 18446744073709551616) x69,
      EI .u64 ((x49 + x65) % 18446744073709551616) x67,
      EI .u64 (x63 * 0 % 18446744073709551616) x65,
      EI .u64 (5 * a2 % 18446744073709551616) x63,
      EI .u64 ((x43 + x59) % 18446744073709551616) x61,
      EI .u64 (a2 * 0 % 18446744073709551616) x59,
      EI .u64 ((x39 + x55) % 18446744073709551616) x57,
      EI .u64 (a2 * 0 % 18446744073709551616) x55,
      EI .u64 ((x35 + x51) % 18446744073709551616) x53,
      EI .u64 (a2 * 0 % 18446744073709551616) x51,
      EI .u64 ((x3 + x47) % 18446744073709551616) x49,
      EI .u64 (x45 * 0 % 18446744073709551616) x47,
      EI .u64 (5 * a1 % 18446744073709551616) x45,
      EI .u64 ((x27 + x41) % 18446744073709551616) x43,
      EI .u64 (a1 * 0 % 18446744073709551616) x41,
      EI .u64 ((x21 + x37) % 18446744073709551616) x39,
      EI .u64 (a1 * 0 % 18446744073709551616) x37,
      EI .u64 ((x15 + x33) % 18446744073709551616) x35,
      EI .u64 (a1 * 0 % 18446744073709551616) x33,
      EI .u64 ((x9 + x29) % 18446744073709551616) x31,
      EI .u64 (a1 * 0 % 18446744073709551616) x29,
      EI .u64 ((x23 + x25) % 18446744073709551616) x27,
      EI .u64 (a0 * 0 % 18446744073709551616) x25,
      EI .u64 (List.getD (splice (splice (splice (splice [0, 0, 0, 0, 0] 0 [x3]) 1 [x9]) 2 [x15]) 3 [x21]) 4 0) x23,
      EI .u64 ((x17 + x19) % 18446744073709551616) x21,
      EI .u64 (a0 * 0 % 18446744073709551616) x19,
      EI .u64 (List.getD (splice (splice (splice [0, 0, 0, 0, 0] 0 [x3]) 1 [x9]) 2 [x15]) 3 0) x17,
      EI .u64 ((x11 + x13) % 18446744073709551616) x15,
      EI .u64 (a0 * 0 % 18446744073709551616) x13,
      EI .u64 (List.getD (splice (splice [0, 0, 0, 0, 0] 0 [x3]) 1 [x9]) 2 0) x11,
      EI .u64 ((x5 + x7) % 18446744073709551616) x9,
      EI .u64 (a0 * 0 % 18446744073709551616) x7,
      EI .u64 (List.getD (splice [0, 0, 0, 0, 0] 0 [x3]) 1 0) x5,
      EI .u64 ((0 + x1) % 18446744073709551616) x3,
      EI .u64 (a0 * 0 % 18446744073709551616) x1])
    mixed Try.func60 (by kernel_rfl) (by kernel_rfl) (by kernel_rfl) rfl (by kernel_rfl) ⟨c129.use (by kernel_rfl) rfl rfl _ _, .mk h126, .mk h124, .mk h122, .mk h120, .mk h118, .mk h116, .mk h114, .mk h112, .mk h110, .mk h108, .mk h106, .mk h104, .mk h102, .mk h100, .mk h98, .mk h96, .mk h94, .mk h92, .mk h90, .mk h88, .mk h86, .mk h84, .mk h82, .mk h80, .mk h78, .mk h76, .mk h74, .mk h72, .mk h70, .mk h68, .mk h66, .mk h64, .mk h62, .mk h60, .mk h58, .mk h56, .mk h54, .mk h52, .mk h50, .mk h48, .mk h46, .mk h44, .mk h42, .mk h40, .mk h38, .mk h36, .mk h34, .mk h32, .mk h30, .mk h28, .mk h26, .mk h24, .mk h22, .mk h20, .mk h18, .mk h16, .mk h14, .mk h12, .mk h10, .mk h8, .mk h6, .mk h4, .mk h2, .mk h0, trivial⟩

end Go.Proofs.Ytmfnldkiaodkpaa.Vm

namespace Go.Proofs.Ytmfnldkiaodkpaa.Vm
open Go Go.Proofs Go.Proofs.Ytmfnldkiaodkpaa
theorem mz (a : Int) : a * 0 % 18446744073709551616 = 0 := by rw [Int.mul_zero]; rfl
theorem times_zero (a0 a1 a2 a3 a4 : Int) : PureF Try.prog 60 [(.aggi .u64 [a0, a1, a2, a3, a4]), (.aggi .u64 [0, 0, 0, 0, 0])] (.aggi .u64 [0, 0, 0, 0, 0]) :=
  z44 a0 a1 a2 a3 a4 0 0 0 0 0 0 0 0 0 0 0 0 0 0 0 0 0 0 0 0 0 0 _ 0 0 0 0 0 0 0 0 _ 0 0 _ 0 0 0 0 0 0 _ 0 0 _ 0 0 _ 0 0 0 0 _ 0 0 _ 0 0 _ 0 0 _ 0 0 (mz _) rfl rfl (mz _) rfl rfl (mz _) rfl rfl (mz _) rfl rfl (mz _) rfl (mz _) rfl (mz _) rfl (mz _) rfl (mz _) rfl rfl (mz _) rfl (mz _) rfl (mz _) rfl (mz _) rfl rfl (mz _) rfl rfl (mz _) rfl (mz _) rfl (mz _) rfl rfl (mz _) rfl rfl (mz _) rfl rfl (mz _) rfl (mz _) rfl rfl (mz _) rfl rfl (mz _) rfl rfl (mz _) rfl rfl (mz _) rfl k64_12
theorem split_any (l : List Int) (h : 17 ≤ l.length) : ∃ e : W.El, PureF Try.prog 59 [(.aggi .u8 l)] (.aggi .u64 (W.el e)) := by
  obtain ⟨x1, h0⟩ : ∃ z : Int, List.getD l 0 0 = z := ⟨_, rfl⟩
  have c2 : ((1 : Nat) ≤ List.length l) := by omega
  obtain ⟨x4, h3⟩ : ∃ z : Int, x1 % 18446744073709551616 = z := ⟨_, rfl⟩
  obtain ⟨x6, h5⟩ : ∃ z : Int, x4 * 1 % 18446744073709551616 = z := ⟨_, rfl⟩
  obtain ⟨x8, h7⟩ : ∃ z : Int, bOr IntKind.u64 0 x6 = z := ⟨_, rfl⟩
  obtain ⟨x10, h9⟩ : ∃ z : Int, List.getD l 1 0 = z := ⟨_, rfl⟩
  have c11 : ((2 : Nat) ≤ List.length l) := by omega
  obtain ⟨x13, h12⟩ : ∃ z : Int, x10 % 18446744073709551616 = z := ⟨_, rfl⟩
  obtain ⟨x15, h14⟩ : ∃ z : Int, x13 * 256 % 18446744073709551616 = z := ⟨_, rfl⟩
  obtain ⟨x17, h16⟩ : ∃ z : Int, bOr IntKind.u64 x8 x15 = z := ⟨_, rfl⟩
  obtain ⟨x19, h18⟩ : ∃ z : Int, List.getD l 2 0 = z := ⟨_, rfl⟩
  have c20 : ((3 : Nat) ≤ List.length l) := by omega
  obtain ⟨x22, h21⟩ : ∃ z : Int, x19 % 18446744073709551616 = z := ⟨_, rfl⟩
  obtain ⟨x24, h23⟩ : ∃ z : Int, x22 * 65536 % 18446744073709551616 = z := ⟨_, rfl⟩
  obtain ⟨x26, h25⟩ : ∃ z : Int, bOr IntKind.u64 x17 x24 = z := ⟨_, rfl⟩
  obtain ⟨x28, h27⟩ : ∃ z : Int, List.getD l 3 0 = z := ⟨_, rfl⟩
  have c29 : ((4 : Nat) ≤ List.length l) := by omega
  obtain ⟨x31, h30⟩ : ∃ z : Int, x28 % 18446744073709551616 = z := ⟨_, rfl⟩
  obtain ⟨x33, h32⟩ : ∃ z : Int, x31 * 16777216 % 18446744073709551616 = z := ⟨_, rfl⟩
  obtain ⟨x35, h34⟩ : ∃ z : Int, bOr IntKind.u64 x26 x33 = z := ⟨_, rfl⟩
  obtain ⟨x37, h36⟩ : ∃ z : Int, List.getD l 4 0 = z := ⟨_, rfl⟩
  have c38 : ((5 : Nat) ≤ List.length l) := by omega
  obtain ⟨x40, h39⟩ : ∃ z : Int, x37 % 18446744073709551616 = z := ⟨_, rfl⟩
  obtain ⟨x42, h41⟩ : ∃ z : Int, x40 * 4294967296 % 18446744073709551616 = z := ⟨_, rfl⟩
  obtain ⟨x44, h43⟩ : ∃ z : Int, bOr IntKind.u64 x35 x42 = z := ⟨_, rfl⟩
  obtain ⟨x46, h45⟩ : ∃ z : Int, x44 / 1 = z := ⟨_, rfl⟩
  obtain ⟨x48, h47⟩ : ∃ z : Int, bAnd IntKind.u64 x46 67108863 = z := ⟨_, rfl⟩
  obtain ⟨x50, h49⟩ : ∃ z : Int, List.getD (splice (splice (splice (splice (splice (splice [0, 0, 0, 0, 0] 0 [x8]) 0 [x17]) 0 [x26]) 0 [x35]) 0 [x44]) 0 [x48]) 1 0 = z := ⟨_, rfl⟩
  obtain ⟨x52, h51⟩ : ∃ z : Int, List.getD l 3 0 = z := ⟨_, rfl⟩
  have c53 : ((4 : Nat) ≤ List.length l) := by omega
  obtain ⟨x55, h54⟩ : ∃ z : Int, x52 % 18446744073709551616 = z := ⟨_, rfl⟩
  obtain ⟨x57, h56⟩ : ∃ z : Int, x55 * 1 % 18446744073709551616 = z := ⟨_, rfl⟩
  obtain ⟨x59, h58⟩ : ∃ z : Int, bOr IntKind.u64 x50 x57 = z := ⟨_, rfl⟩
  obtain ⟨x61, h60⟩ : ∃ z : Int, List.getD l 4 0 = z := ⟨_, rfl⟩
  have c62 : ((5 : Nat) ≤ List.length l) := by omega
  obtain ⟨x64, h63⟩ : ∃ z : Int, x61 % 18446744073709551616 = z := ⟨_, rfl⟩
  obtain ⟨x66, h65⟩ : ∃ z : Int, x64 * 256 % 18446744073709551616 = z := ⟨_, rfl⟩
  obtain ⟨x68, h67⟩ : ∃ z : Int, bOr IntKind.u64 x59 x66 = z := ⟨_, rfl⟩
  obtain ⟨x70, h69⟩ : ∃ z : Int, List.getD l 5 0 = z := ⟨_, rfl⟩
  have c71 : ((6 : Nat) ≤ List.length l) := by omega
  obtain ⟨x73, h72⟩ : ∃ z : Int, x70 % 18446744073709551616 = z := ⟨_, rfl⟩
  obtain ⟨x75, h74⟩ : ∃ z : Int, x73 * 65536 % 18446744073709551616 = z := ⟨_, rfl⟩
  obtain ⟨x77, h76⟩ : ∃ z : Int, bOr IntKind.u64 x68 x75 = z := ⟨_, rfl⟩
  obtain ⟨x79, h78⟩ : ∃ z : Int, List.getD l 6 0 = z := ⟨_, rfl⟩
  have c80 : ((7 : Nat) ≤ List.length l) := by omega
  obtain ⟨x82, h81⟩ : ∃ z : Int, x79 % 18446744073709551616 = z := ⟨_, rfl⟩
  obtain ⟨x84, h83⟩ : ∃ z : Int, x82 * 16777216 % 18446744073709551616 = z := ⟨_, rfl⟩
  obtain ⟨x86, h85⟩ : ∃ z : Int, bOr IntKind.u64 x77 x84 = z := ⟨_, rfl⟩
  obtain ⟨x88, h87⟩ : ∃ z : Int, List.getD l 7 0 = z := ⟨_, rfl⟩
  have c89 : ((8 : Nat) ≤ List.length l) := by omega
  obtain ⟨x91, h90⟩ : ∃ z : Int, x88 % 18446744073709551616 = z := ⟨_, rfl⟩
  obtain ⟨x93, h92⟩ : ∃ z : Int, x91 * 4294967296 % 18446744073709551616 = z := ⟨_, rfl⟩
  obtain ⟨x95, h94⟩ : ∃ z : Int, bOr IntKind.u64 x86 x93 = z := ⟨_, rfl⟩
  obtain ⟨x97, h96⟩ : ∃ z : Int, x95 / 4 = z := ⟨_, rfl⟩
  obtain ⟨x99, h98⟩ : ∃ z : Int, bAnd IntKind.u64 x97 67108863 = z := ⟨_, rfl⟩
  obtain ⟨x101, h100⟩ : ∃ z : Int, List.getD (splice (splice (splice (splice (splice (splice (splice (splice (splice (splice (splice (splice [0, 0, 0, 0, 0] 0 [x8]) 0 [x17]) 0 [x26]) 0 [x35]) 0 [x44]) 0 [x48]) 1 [x59]) 1 [x68]) 1 [x77]) 1 [x86]) 1 [x95]) 1 [x99]) 2 0 = z := ⟨_, rfl⟩
  obtain ⟨x103, h102⟩ : ∃ z : Int, List.getD l 6 0 = z := ⟨_, rfl⟩
  have c104 : ((7 : Nat) ≤ List.length l) := by omega
  obtain ⟨x106, h105⟩ : ∃ z : Int, x103 % 18446744073709551616 = z := ⟨_, rfl⟩
  obtain ⟨x108, h107⟩ : ∃ z : Int, x106 * 1 % 18446744073709551616 = z := ⟨_, rfl⟩
  obtain ⟨x110, h109⟩ : ∃ z : Int, bOr IntKind.u64 x101 x108 = z := ⟨_, rfl⟩
  obtain ⟨x112, h111⟩ : ∃ z : Int, List.getD l 7 0 = z := ⟨_, rfl⟩
  have c113 : ((8 : Nat) ≤ List.length l) := by omega
  obtain ⟨x115, h114⟩ : ∃ z : Int, x112 % 18446744073709551616 = z := ⟨_, rfl⟩
  obtain ⟨x117, h116⟩ : ∃ z : Int, x115 * 256 % 18446744073709551616 = z := ⟨_, rfl⟩
  obtain ⟨x119, h118⟩ : ∃ z : Int, bOr IntKind.u64 x110 x117 = z := ⟨_, rfl⟩
  obtain ⟨x121, h120⟩ : ∃ z : Int, List.getD l 8 0 = z := ⟨_, rfl⟩
  have c122 : ((9 : Nat) ≤ List.length l) := by omega
  obtain ⟨x124, h123⟩ : ∃ z : Int, x121 % 18446744073709551616 = z := ⟨_, rfl⟩
  obtain ⟨x126, h125⟩ : ∃ z : Int, x124 * 65536 % 18446744073709551616 = z := ⟨_, rfl⟩
  obtain ⟨x128, h127⟩ : ∃ z : Int, bOr IntKind.u64 x119 x126 = z := ⟨_, rfl⟩
  obtain ⟨x130, h129⟩ : ∃ z : Int, List.getD l 9 0 = z := ⟨_, rfl⟩
  have c131 : ((10 : Nat) ≤ List.length l) := by omega
  obtain ⟨x133, h132⟩ : ∃ z : Int, x130 % 18446744073709551616 = z := ⟨_, rfl⟩
  obtain ⟨x135, h134⟩ : ∃ z : Int, x133 * 16777216 % 18446744073709551616 = z := ⟨_, rfl⟩
  obtain ⟨x137, h136⟩ : ∃ z : Int, bOr IntKind.u64 x128 x135 = z := ⟨_, rfl⟩
  obtain ⟨x139, h138⟩ : ∃ z : Int, List.getD l 10 0 = z := ⟨_, rfl⟩
  have c140 : ((11 : Nat) ≤ List.length l) := by omega
  obtain ⟨x142, h141⟩ : ∃ z : Int, x139 % 18446744073709551616 = z := ⟨_, rfl⟩
  obtain ⟨x144, h143⟩ : ∃ z : Int, x142 * 4294967296 % 18446744073709551616 = z := ⟨_, rfl⟩
  obtain ⟨x146, h145⟩ : ∃ z : Int, bOr IntKind.u64 x137 x144 = z := ⟨_, rfl⟩
  obtain ⟨x148, h147⟩ : ∃ z : Int, x146 / 16 = z := ⟨_, rfl⟩
  obtain ⟨x150, h149⟩ : ∃ z : Int, bAnd IntKind.u64 x148 67108863 = z := ⟨_, rfl⟩
  obtain ⟨x152, h151⟩ : ∃ z : Int, List.getD (splice (splice (splice (splice (splice (splice (splice (splice (splice (splice (splice (splice (splice (splice (splice (splice (splice (splice [0, 0, 0, 0, 0] 0 [x8]) 0 [x17]) 0 [x26]) 0 [x35]) 0 [x44]) 0 [x48]) 1 [x59]) 1 [x68]) 1 [x77]) 1 [x86]) 1 [x95]) 1 [x99]) 2 [x110]) 2 [x119]) 2 [x128]) 2 [x137]) 2 [x146]) 2 [x150]) 3 0 = z := ⟨_, rfl⟩
  obtain ⟨x154, h153⟩ : ∃ z : Int, List.getD l 9 0 = z := ⟨_, rfl⟩
  have c155 : ((10 : Nat) ≤ List.length l) := by omega
  obtain ⟨x157, h156⟩ : ∃ z : Int, x154 % 18446744073709551616 = z := ⟨_, rfl⟩
  obtain ⟨x159, h158⟩ : ∃ z : Int, x157 * 1 % 18446744073709551616 = z := ⟨_, rfl⟩
  obtain ⟨x161, h160⟩ : ∃ z : Int, bOr IntKind.u64 x152 x159 = z := ⟨_, rfl⟩
  obtain ⟨x163, h162⟩ : ∃ z : Int, List.getD l 10 0 = z := ⟨_, rfl⟩
  have c164 : ((11 : Nat) ≤ List.length l) := by omega
  obtain ⟨x166, h165⟩ : ∃ z : Int, x163 % 18446744073709551616 = z := ⟨_, rfl⟩
  obtain ⟨x168, h167⟩ : ∃ z : Int, x166 * 256 % 18446744073709551616 = z := ⟨_, rfl⟩
  obtain ⟨x170, h169⟩ : ∃ z : Int, bOr IntKind.u64 x161 x168 = z := ⟨_, rfl⟩
  obtain ⟨x172, h171⟩ : ∃ z : Int, List.getD l 11 0 = z := ⟨_, rfl⟩
  have c173 : ((12 : Nat) ≤ List.length l) := by omega
  obtain ⟨x175, h174⟩ : ∃ z : Int, x172 % 18446744073709551616 = z := ⟨_, rfl⟩
  obtain ⟨x177, h176⟩ : ∃ z : Int, x175 * 65536 % 18446744073709551616 = z := ⟨_, rfl⟩
  obtain ⟨x179, h178⟩ : ∃ z : Int, bOr IntKind.u64 x170 x177 = z := ⟨_, rfl⟩
  obtain ⟨x181, h180⟩ : ∃ z : Int, List.getD l 12 0 = z := ⟨_, rfl⟩
  have c182 : ((13 : Nat) ≤ List.length l) := by omega
  obtain ⟨x184, h183⟩ : ∃ z : Int, x181 % 18446744073709551616 = z := ⟨_, rfl⟩
  obtain ⟨x186, h185⟩ : ∃ z : Int, x184 * 16777216 % 18446744073709551616 = z := ⟨_, rfl⟩
  obtain ⟨x188, h187⟩ : ∃ z : Int, bOr IntKind.u64 x179 x186 = z := ⟨_, rfl⟩
  obtain ⟨x190, h189⟩ : ∃ z : Int, List.getD l 13 0 = z := ⟨_, rfl⟩
  have c191 : ((14 : Nat) ≤ List.length l) := by omega
  obtain ⟨x193, h192⟩ : ∃ z : Int, x190 % 18446744073709551616 = z := ⟨_, rfl⟩
  obtain ⟨x195, h194⟩ : ∃ z : Int, x193 * 4294967296 % 18446744073709551616 = z := ⟨_, rfl⟩
  obtain ⟨x197, h196⟩ : ∃ z : Int, bOr IntKind.u64 x188 x195 = z := ⟨_, rfl⟩
  obtain ⟨x199, h198⟩ : ∃ z : Int, x197 / 64 = z := ⟨_, rfl⟩
  obtain ⟨x201, h200⟩ : ∃ z : Int, bAnd IntKind.u64 x199 67108863 = z := ⟨_, rfl⟩
  obtain ⟨x203, h202⟩ : ∃ z : Int, List.getD (splice (splice (splice (splice (splice (splice (splice (splice (splice (splice (splice (splice (splice (splice (splice (splice (splice (splice (splice (splice (splice (splice (splice (splice [0, 0, 0, 0, 0] 0 [x8]) 0 [x17]) 0 [x26]) 0 [x35]) 0 [x44]) 0 [x48]) 1 [x59]) 1 [x68]) 1 [x77]) 1 [x86]) 1 [x95]) 1 [x99]) 2 [x110]) 2 [x119]) 2 [x128]) 2 [x137]) 2 [x146]) 2 [x150]) 3 [x161]) 3 [x170]) 3 [x179]) 3 [x188]) 3 [x197]) 3 [x201]) 4 0 = z := ⟨_, rfl⟩
  obtain ⟨x205, h204⟩ : ∃ z : Int, List.getD l 13 0 = z := ⟨_, rfl⟩
  have c206 : ((14 : Nat) ≤ List.length l) := by omega
  obtain ⟨x208, h207⟩ : ∃ z : Int, x205 % 18446744073709551616 = z := ⟨_, rfl⟩
  obtain ⟨x210, h209⟩ : ∃ z : Int, x208 * 1 % 18446744073709551616 = z := ⟨_, rfl⟩
  obtain ⟨x212, h211⟩ : ∃ z : Int, bOr IntKind.u64 x203 x210 = z := ⟨_, rfl⟩
  obtain ⟨x214, h213⟩ : ∃ z : Int, List.getD l 14 0 = z := ⟨_, rfl⟩
  have c215 : ((15 : Nat) ≤ List.length l) := by omega
  obtain ⟨x217, h216⟩ : ∃ z : Int, x214 % 18446744073709551616 = z := ⟨_, rfl⟩
  obtain ⟨x219, h218⟩ : ∃ z : Int, x217 * 256 % 18446744073709551616 = z := ⟨_, rfl⟩
  obtain ⟨x221, h220⟩ : ∃ z : Int, bOr IntKind.u64 x212 x219 = z := ⟨_, rfl⟩
  obtain ⟨x223, h222⟩ : ∃ z : Int, List.getD l 15 0 = z := ⟨_, rfl⟩
  have c224 : ((16 : Nat) ≤ List.length l) := by omega
  obtain ⟨x226, h225⟩ : ∃ z : Int, x223 % 18446744073709551616 = z := ⟨_, rfl⟩
  obtain ⟨x228, h227⟩ : ∃ z : Int, x226 * 65536 % 18446744073709551616 = z := ⟨_, rfl⟩
  obtain ⟨x230, h229⟩ : ∃ z : Int, bOr IntKind.u64 x221 x228 = z := ⟨_, rfl⟩
  obtain ⟨x232, h231⟩ : ∃ z : Int, List.getD l 16 0 = z := ⟨_, rfl⟩
  have c233 : ((17 : Nat) ≤ List.length l) := by omega
  obtain ⟨x235, h234⟩ : ∃ z : Int, x232 % 18446744073709551616 = z := ⟨_, rfl⟩
  obtain ⟨x237, h236⟩ : ∃ z : Int, x235 * 16777216 % 18446744073709551616 = z := ⟨_, rfl⟩
  obtain ⟨x239, h238⟩ : ∃ z : Int, bOr IntKind.u64 x230 x237 = z := ⟨_, rfl⟩
  obtain ⟨x241, h240⟩ : ∃ z : Int, x239 / 1 = z := ⟨_, rfl⟩
  obtain ⟨x243, h242⟩ : ∃ z : Int, bAnd IntKind.u64 x241 67108863 = z := ⟨_, rfl⟩
  have run := run43 l x1 x4 x6 x8 x10 x13 x15 x17 x19 x22 x24 x26 x28 x31 x33 x35 x37 x40 x42 x44 x46 x48 x50 x52 x55 x57 x59 x61 x64 x66 x68 x70 x73 x75 x77 x79 x82 x84 x86 x88 x91 x93 x95 x97 x99 x101 x103 x106 x108 x110 x112 x115 x117 x119 x121 x124 x126 x128 x130 x133 x135 x137 x139 x142 x144 x146 x148 x150 x152 x154 x157 x159 x161 x163 x166 x168 x170 x172 x175 x177 x179 x181 x184 x186 x188 x190 x193 x195 x197 x199 x201 x203 x205 x208 x210 x212 x214 x217 x219 x221 x223 x226 x228 x230 x232 x235 x237 x239 x241 x243 h0 c2 h3 h5 h7 h9 c11 h12 h14 h16 h18 c20 h21 h23 h25 h27 c29 h30 h32 h34 h36 c38 h39 h41 h43 h45 h47 h49 h51 c53 h54 h56 h58 h60 c62 h63 h65 h67 h69 c71 h72 h74 h76 h78 c80 h81 h83 h85 h87 c89 h90 h92 h94 h96 h98 h100 h102 c104 h105 h107 h109 h111 c113 h114 h116 h118 h120 c122 h123 h125 h127 h129 c131 h132 h134 h136 h138 c140 h141 h143 h145 h147 h149 h151 h153 c155 h156 h158 h160 h162 c164 h165 h167 h169 h171 c173 h174 h176 h178 h180 c182 h183 h185 h187 h189 c191 h192 h194 h196 h198 h200 h202 h204 c206 h207 h209 h211 h213 c215 h216 h218 h220 h222 c224 h225 h227 h229 h231 c233 h234 h236 h238 h240 h242
  exact ⟨⟨_, _, _, _, _⟩, run⟩
def I64p (a : Int) : Prop := -9223372036854775808 ≤ a ∧ a < 9223372036854775808
theorem wrapP {a : Int} (h : I64p a) : IntKind.i64.wrap a = a := by
  rw [IntKind.wrap_i64]; unfold I64p at h; omega
theorem off_eqP (i : Nat) : addO 0 (mulE i 1) = i := by
  rw [addO_eq]; simp [mulE]
theorem mulE1 (i : Nat) : mulE i 1 = i := by simp [mulE]
theorem loop18z (k l : List Int) {o n : Nat} (hl : o + n ≤ l.length) :
    ∃ p m, CodeOk Try.prog 95 4338 (kAt (kOf Try.prog Try.f18) [true, true, true, true, true, true, false, false]) (L18I k l ⟨0, 0, 0, 0, 0⟩ o n 0 0 0 0 0) (.exit 2) (L18J k l ⟨0, 0, 0, 0, 0⟩ p m 0 0 0 0 0) := by
  refine ⟨o + n, 0, ?_⟩
  have key := CodeOk.loop (P := Try.prog) (nt := 95) (n0 := 4338) (k := kAt (kOf Try.prog Try.f18) [true, true, true, true, true, true, false, false, false]) (ex := .exit 2) (s' := L18J k l ⟨0, 0, 0, 0, 0⟩ (o + n) 0 0 0 0 0 0)
    (fun m : Nat => L18I k l ⟨0, 0, 0, 0, 0⟩ (o + n - m) m 0 0 0 0 0) (fun m => m ≤ n) (fun m => m) (by simp) ?_ n (Nat.le_refl _)
  · have e : o + n - n = o := by omega
    rw [e] at key
    have hk : kAt (kOf Try.prog Try.f18) [true, true, true, true, true, true, false, false] = .loop (kAt (kOf Try.prog Try.f18) [true, true, true, true, true, true, false, false, false]) := by kernel_rfl
    rw [hk]
    exact key
  · intro m hm
    by_cases h0 : m = 0
    · right
      subst h0
      exact run18_out k l ⟨0, 0, 0, 0, 0⟩ (o + n) 0 0 0 0 0 0 _ rfl (by decide)
    · left
      obtain ⟨t, ht⟩ : ∃ t : Nat, t = min m 16 := ⟨_, rfl⟩
      have hx : (bif decide (((m : Nat) : Int) < 16) then ((m : Nat) : Int) else 16) = (t : Int) := by
        by_cases h : m < 16
        · rw [decide_eq_true (by omega), cond_true]; omega
        · rw [decide_eq_false (by omega), cond_false]; omega
      have b : 1 ≤ t ∧ t ≤ 16 ∧ t ≤ m := by omega
      have e1 : (((t : Nat) : Int) - 0).toNat = t := by omega
      have hlen : (splice [(0 : Int), (0 : Int), (0 : Int), (0 : Int), (0 : Int), (0 : Int), (0 : Int), (0 : Int), (0 : Int), (0 : Int), (0 : Int), (0 : Int), (0 : Int), (0 : Int), (0 : Int), (0 : Int), (0 : Int)] (0 : Nat) (List.take (mulE (min (Int.toNat ((t : Int) - (0 : Int))) (17 : Nat)) (1 : Nat)) (List.drop (0 : Nat) (List.take (mulE (Int.toNat ((t : Int) - (0 : Int))) (1 : Nat)) (List.drop (addO (o + n - m) (0 : Nat)) l))))).length = 17 := by
        rw [splice_len]
        · rfl
        · rw [e1, mulE1]
          simp only [List.length_take, List.length_drop, List.length_cons, List.length_nil]
          omega
      have hlen2 : (splice (splice [(0 : Int), (0 : Int), (0 : Int), (0 : Int), (0 : Int), (0 : Int), (0 : Int), (0 : Int), (0 : Int), (0 : Int), (0 : Int), (0 : Int), (0 : Int), (0 : Int), (0 : Int), (0 : Int), (0 : Int)] (0 : Nat) (List.take (mulE (min (Int.toNat ((t : Int) - (0 : Int))) (17 : Nat)) (1 : Nat)) (List.drop (0 : Nat) (List.take (mulE (Int.toNat ((t : Int) - (0 : Int))) (1 : Nat)) (List.drop (addO (o + n - m) (0 : Nat)) l))))) (addO (0 : Nat) (mulE (Int.toNat (t : Int)) (1 : Nat))) [(1 : Int)]).length = 17 := by
        rw [splice_len, hlen]
        rw [hlen, Int.toNat_natCast, off_eqP]
        simp only [List.length_cons, List.length_nil]
        omega
      obtain ⟨e, c104⟩ := split_any (List.take 17 (List.drop 0 (splice (splice [(0 : Int), (0 : Int), (0 : Int), (0 : Int), (0 : Int), (0 : Int), (0 : Int), (0 : Int), (0 : Int), (0 : Int), (0 : Int), (0 : Int), (0 : Int), (0 : Int), (0 : Int), (0 : Int), (0 : Int)] (0 : Nat) (List.take (mulE (min (Int.toNat ((t : Int) - (0 : Int))) (17 : Nat)) (1 : Nat)) (List.drop (0 : Nat) (List.take (mulE (Int.toNat ((t : Int) - (0 : Int))) (1 : Nat)) (List.drop (addO (o + n - m) (0 : Nat)) l))))) (addO (0 : Nat) (mulE (Int.toNat (t : Int)) (1 : Nat))) [(1 : Int)]))) (by
        rw [List.length_take, List.drop_zero, hlen2]
        omega)
      have run := run18_go k l ⟨0, 0, 0, 0, 0⟩ (o + n - m) m 0 0 0 0 0 _ _ _ _ e _ _ _ _ _ _ _ _ _ _ ⟨0, 0, 0, 0, 0⟩ rfl (decide_eq_true (by omega)) rfl hx ⟨by omega, by omega, by omega⟩ rfl ⟨by rw [e1, addO_eq]; omega, by omega⟩ ⟨by omega, by omega⟩ ⟨by rw [hlen, Int.toNat_natCast, off_eqP]; omega, rfl⟩ ⟨by omega, by omega, by omega⟩ (by rw [hlen2]; omega) c104 rfl rfl rfl rfl rfl rfl rfl rfl rfl rfl (times_zero _ _ _ _ _)
      refine ⟨m - t, by omega, by omega, ?_⟩
      have e2 : addO (o + n - m) (mulE (Int.toNat (t : Int)) 1) = o + n - (m - t) := by rw [addO_eq, mulE1, Int.toNat_natCast]; omega
      have e3 : Int.toNat (((m : Nat) : Int) - (t : Int)) = m - t := by omega
      rw [e2, e3] at run
      exact run
theorem w1 {s : Int} (h : 0 ≤ s ∧ s < 256) : IntKind.wrap IntKind.i64 s = s := wrapP (by unfold I64p; omega)
theorem w2 {s : Int} (h : 0 ≤ s ∧ s < 256) : IntKind.wrap IntKind.i64 (0 + s) = s := by rw [Int.zero_add]; exact w1 h
theorem r_ {s : Int} (h : 0 ≤ s ∧ s < 256) : s % 256 = s := by omega
theorem q_ {s : Int} (h : 0 ≤ s ∧ s < 256) : s / 256 = 0 := by omega
/-- Where r is 0 the tag is s. -/
theorem tag_zero {s0 s1 s2 s3 s4 s5 s6 s7 s8 s9 s10 s11 s12 s13 s14 s15 : Int} (bs0 : 0 ≤ s0 ∧ s0 < 256) (bs1 : 0 ≤ s1 ∧ s1 < 256) (bs2 : 0 ≤ s2 ∧ s2 < 256) (bs3 : 0 ≤ s3 ∧ s3 < 256) (bs4 : 0 ≤ s4 ∧ s4 < 256) (bs5 : 0 ≤ s5 ∧ s5 < 256) (bs6 : 0 ≤ s6 ∧ s6 < 256) (bs7 : 0 ≤ s7 ∧ s7 < 256) (bs8 : 0 ≤ s8 ∧ s8 < 256) (bs9 : 0 ≤ s9 ∧ s9 < 256) (bs10 : 0 ≤ s10 ∧ s10 < 256) (bs11 : 0 ≤ s11 ∧ s11 < 256) (bs12 : 0 ≤ s12 ∧ s12 < 256) (bs13 : 0 ≤ s13 ∧ s13 < 256) (bs14 : 0 ≤ s14 ∧ s14 < 256) (bs15 : 0 ≤ s15 ∧ s15 < 256) (l : List Int) {o n : Nat} (hl : o + n ≤ l.length) :
    Contract0 Try.prog 18 [(.aggi .u8 [0, 0, 0, 0, 0, 0, 0, 0, 0, 0, 0, 0, 0, 0, 0, 0, s0, s1, s2, s3, s4, s5, s6, s7, s8, s9, s10, s11, s12, s13, s14, s15]), (.c (.sl 1 0 o n 1))] [(1, .one ⟨false, false, .ints .u8 l⟩)] 2 (.aggi .u8 [s0, s1, s2, s3, s4, s5, s6, s7, s8, s9, s10, s11, s12, s13, s14, s15]) [] [] := by
  obtain ⟨p, m, hL⟩ := loop18z [0, 0, 0, 0, 0, 0, 0, 0, 0, 0, 0, 0, 0, 0, 0, 0, s0, s1, s2, s3, s4, s5, s6, s7, s8, s9, s10, s11, s12, s13, s14, s15] l hl
  exact run18 [0, 0, 0, 0, 0, 0, 0, 0, 0, 0, 0, 0, 0, 0, 0, 0, s0, s1, s2, s3, s4, s5, s6, s7, s8, s9, s10, s11, s12, s13, s14, s15] l o n (0) (0) (0) (0) (0) (0) (0) (0) (0) (0) (0) (0) (0) (0) (0) (0) (0) (0) (0) (0) (0) (0) (0) (0) (0) (0) (0) (0) (0) (0) (0) (0) ⟨0, 0, 0, 0, 0⟩ p m 0 0 0 0 0 ⟨0, 0, 0, 0, 0⟩ 0 0 0 0 0 0 0 0 0 0 0 0 0 0 0 0 (0) (s0) (s0) (s0) (s0) (s0) (0) (0) (s1) (s1) (s1) (s1) (s1) (0) (0) (s2) (s2) (s2) (s2) (s2) (0) (0) (s3) (s3) (s3) (s3) (s3) (0) (0) (s4) (s4) (s4) (s4) (s4) (0) (0) (s5) (s5) (s5) (s5) (s5) (0) (0) (s6) (s6) (s6) (s6) (s6) (0) (0) (s7) (s7) (s7) (s7) (s7) (0) (0) (s8) (s8) (s8) (s8) (s8) (0) (0) (s9) (s9) (s9) (s9) (s9) (0) (0) (s10) (s10) (s10) (s10) (s10) (0) (0) (s11) (s11) (s11) (s11) (s11) (0) (0) (s12) (s12) (s12) (s12) (s12) (0) (0) (s13) (s13) (s13) (s13) (s13) (0) (0) (s14) (s14) (s14) (s14) (s14) (0) (0) (s15) (s15) (s15) (s15) (s15) (0) run38a_ok run38b_ok run37 rfl (Nat.le_of_ble_eq_true rfl) rfl rfl (Nat.le_of_ble_eq_true rfl) rfl rfl (Nat.le_of_ble_eq_true rfl) rfl rfl (Nat.le_of_ble_eq_true rfl) rfl rfl (Nat.le_of_ble_eq_true rfl) rfl rfl (Nat.le_of_ble_eq_true rfl) rfl rfl (Nat.le_of_ble_eq_true rfl) rfl rfl (Nat.le_of_ble_eq_true rfl) rfl rfl (Nat.le_of_ble_eq_true rfl) rfl rfl (Nat.le_of_ble_eq_true rfl) rfl rfl (Nat.le_of_ble_eq_true rfl) rfl rfl (Nat.le_of_ble_eq_true rfl) rfl rfl (Nat.le_of_ble_eq_true rfl) rfl rfl (Nat.le_of_ble_eq_true rfl) rfl rfl (Nat.le_of_ble_eq_true rfl) rfl rfl (Nat.le_of_ble_eq_true rfl) rfl z43 hL k45_2_ok k46_3 rfl rfl (Nat.le_of_ble_eq_true rfl) (w1 bs0) (w2 bs0) (w2 bs0) (r_ bs0) (q_ bs0) rfl rfl (Nat.le_of_ble_eq_true rfl) (w1 bs1) (w2 bs1) (w2 bs1) (r_ bs1) (q_ bs1) rfl rfl (Nat.le_of_ble_eq_true rfl) (w1 bs2) (w2 bs2) (w2 bs2) (r_ bs2) (q_ bs2) rfl rfl (Nat.le_of_ble_eq_true rfl) (w1 bs3) (w2 bs3) (w2 bs3) (r_ bs3) (q_ bs3) rfl rfl (Nat.le_of_ble_eq_true rfl) (w1 bs4) (w2 bs4) (w2 bs4) (r_ bs4) (q_ bs4) rfl rfl (Nat.le_of_ble_eq_true rfl) (w1 bs5) (w2 bs5) (w2 bs5) (r_ bs5) (q_ bs5) rfl rfl (Nat.le_of_ble_eq_true rfl) (w1 bs6) (w2 bs6) (w2 bs6) (r_ bs6) (q_ bs6) rfl rfl (Nat.le_of_ble_eq_true rfl) (w1 bs7) (w2 bs7) (w2 bs7) (r_ bs7) (q_ bs7) rfl rfl (Nat.le_of_ble_eq_true rfl) (w1 bs8) (w2 bs8) (w2 bs8) (r_ bs8) (q_ bs8) rfl rfl (Nat.le_of_ble_eq_true rfl) (w1 bs9) (w2 bs9) (w2 bs9) (r_ bs9) (q_ bs9) rfl rfl (Nat.le_of_ble_eq_true rfl) (w1 bs10) (w2 bs10) (w2 bs10) (r_ bs10) (q_ bs10) rfl rfl (Nat.le_of_ble_eq_true rfl) (w1 bs11) (w2 bs11) (w2 bs11) (r_ bs11) (q_ bs11) rfl rfl (Nat.le_of_ble_eq_true rfl) (w1 bs12) (w2 bs12) (w2 bs12) (r_ bs12) (q_ bs12) rfl rfl (Nat.le_of_ble_eq_true rfl) (w1 bs13) (w2 bs13) (w2 bs13) (r_ bs13) (q_ bs13) rfl rfl (Nat.le_of_ble_eq_true rfl) (w1 bs14) (w2 bs14) (w2 bs14) (r_ bs14) (q_ bs14) rfl rfl (Nat.le_of_ble_eq_true rfl) (w1 bs15) (w2 bs15) (w2 bs15) (r_ bs15) (q_ bs15)
end Go.Proofs.Ytmfnldkiaodkpaa.Vm

namespace Go.Proofs.Ytmfnldkiaodkpaa.Vm
open Go Go.Proofs Go.Proofs.Ytmfnldkiaodkpaa
theorem row_getD (l : List Int) (n : Nat) (h : l.length = n) : l = (List.range n).map fun i => l.getD i 0 := by
  apply List.ext_getElem
  · simp [h]
  · intro i h1 h2
    simp [List.getD_eq_getElem?_getD, h1]
theorem row16 {l0 : List Int} (h : l0.length = 16) : l0 = [(l0.getD 0 0), (l0.getD 1 0), (l0.getD 2 0), (l0.getD 3 0), (l0.getD 4 0), (l0.getD 5 0), (l0.getD 6 0), (l0.getD 7 0), (l0.getD 8 0), (l0.getD 9 0), (l0.getD 10 0), (l0.getD 11 0), (l0.getD 12 0), (l0.getD 13 0), (l0.getD 14 0), (l0.getD 15 0)] := row_getD l0 16 h
end Go.Proofs.Ytmfnldkiaodkpaa.Vm
