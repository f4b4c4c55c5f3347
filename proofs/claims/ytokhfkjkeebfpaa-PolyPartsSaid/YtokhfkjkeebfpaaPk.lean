/- What functions of the program come to: parts of the walk (Pk). -/
import Derived.Test.YtokhfkjkeebfpaaPw
import Derived.Test.YtokhfkjkeebfpaaPe
import Derived.KernelRfl
import Derived.Test.YtokhfkjkeebfpaaProg
namespace Go.Proofs.Ytokhfkjkeebfpaa.Vm
open Go Go.Proofs Go.Proofs.Ytokhfkjkeebfpaa
set_option maxRecDepth 100000
theorem run7_10 (s0 s1 s2 s3 s4 s5 s6 s7 s8 s9 s10 s11 s12 s13 s14 s15 n x2 x4 x6 x8 x10 x12 x14 x16 x18 x20 x22 x24 x26 x28 x30 x32 x34 x36 x38 x40 x42 x44 x46 x48 x50 x52 x54 x56 x58 x60 x62 x64 x66 x68 x70 x72 x74 x76 x78 x80 x82 x84 x86 x88 x90 x92 x94 x96 x98 x100 x102 x104 x106 x108 x110 x112 x114 x116 x118 x120 x122 x124 x126 x128 r18_130 r18_131 r18_132 r18_133 r18_134 r18_135 r18_136 r18_137 r18_138 r18_139 r18_140 r18_141 r18_142 r18_143 r18_144 r18_145 : Int)
    (c0 : PureF Try.prog 21 [(.c (.int .i64 n)), (.c (.int .i64 20))] (.c (.int .i64 10)))
    (h1 : (IntKind.wrap IntKind.i64 s0) = x2)
    (h3 : (IntKind.wrap IntKind.i64 (65 + x2)) = x4)
    (h5 : (x4 % 256) = x6)
    (h7 : (IntKind.wrap IntKind.i64 (Int.tdiv x4 256)) = x8)
    (h9 : (IntKind.wrap IntKind.i64 s1) = x10)
    (h11 : (IntKind.wrap IntKind.i64 (x8 + x10)) = x12)
    (h13 : (x12 % 256) = x14)
    (h15 : (IntKind.wrap IntKind.i64 (Int.tdiv x12 256)) = x16)
    (h17 : (IntKind.wrap IntKind.i64 s2) = x18)
    (h19 : (IntKind.wrap IntKind.i64 (x16 + x18)) = x20)
    (h21 : (x20 % 256) = x22)
    (h23 : (IntKind.wrap IntKind.i64 (Int.tdiv x20 256)) = x24)
    (h25 : (IntKind.wrap IntKind.i64 s3) = x26)
    (h27 : (IntKind.wrap IntKind.i64 (x24 + x26)) = x28)
    (h29 : (x28 % 256) = x30)
    (h31 : (IntKind.wrap IntKind.i64 (Int.tdiv x28 256)) = x32)
    (h33 : (IntKind.wrap IntKind.i64 s4) = x34)
    (h35 : (IntKind.wrap IntKind.i64 (x32 + x34)) = x36)
    (h37 : (x36 % 256) = x38)
    (h39 : (IntKind.wrap IntKind.i64 (Int.tdiv x36 256)) = x40)
    (h41 : (IntKind.wrap IntKind.i64 s5) = x42)
    (h43 : (IntKind.wrap IntKind.i64 (x40 + x42)) = x44)
    (h45 : (x44 % 256) = x46)
    (h47 : (IntKind.wrap IntKind.i64 (Int.tdiv x44 256)) = x48)
    (h49 : (IntKind.wrap IntKind.i64 s6) = x50)
    (h51 : (IntKind.wrap IntKind.i64 (x48 + x50)) = x52)
    (h53 : (x52 % 256) = x54)
    (h55 : (IntKind.wrap IntKind.i64 (Int.tdiv x52 256)) = x56)
    (h57 : (IntKind.wrap IntKind.i64 s7) = x58)
    (h59 : (IntKind.wrap IntKind.i64 (x56 + x58)) = x60)
    (h61 : (x60 % 256) = x62)
    (h63 : (IntKind.wrap IntKind.i64 (Int.tdiv x60 256)) = x64)
    (h65 : (IntKind.wrap IntKind.i64 s8) = x66)
    (h67 : (IntKind.wrap IntKind.i64 (x64 + x66)) = x68)
    (h69 : (x68 % 256) = x70)
    (h71 : (IntKind.wrap IntKind.i64 (Int.tdiv x68 256)) = x72)
    (h73 : (IntKind.wrap IntKind.i64 s9) = x74)
    (h75 : (IntKind.wrap IntKind.i64 (x72 + x74)) = x76)
    (h77 : (x76 % 256) = x78)
    (h79 : (IntKind.wrap IntKind.i64 (Int.tdiv x76 256)) = x80)
    (h81 : (IntKind.wrap IntKind.i64 s10) = x82)
    (h83 : (IntKind.wrap IntKind.i64 (x80 + x82)) = x84)
    (h85 : (x84 % 256) = x86)
    (h87 : (IntKind.wrap IntKind.i64 (Int.tdiv x84 256)) = x88)
    (h89 : (IntKind.wrap IntKind.i64 s11) = x90)
    (h91 : (IntKind.wrap IntKind.i64 (x88 + x90)) = x92)
    (h93 : (x92 % 256) = x94)
    (h95 : (IntKind.wrap IntKind.i64 (Int.tdiv x92 256)) = x96)
    (h97 : (IntKind.wrap IntKind.i64 s12) = x98)
    (h99 : (IntKind.wrap IntKind.i64 (x96 + x98)) = x100)
    (h101 : (x100 % 256) = x102)
    (h103 : (IntKind.wrap IntKind.i64 (Int.tdiv x100 256)) = x104)
    (h105 : (IntKind.wrap IntKind.i64 s13) = x106)
    (h107 : (IntKind.wrap IntKind.i64 (x104 + x106)) = x108)
    (h109 : (x108 % 256) = x110)
    (h111 : (IntKind.wrap IntKind.i64 (Int.tdiv x108 256)) = x112)
    (h113 : (IntKind.wrap IntKind.i64 s14) = x114)
    (h115 : (IntKind.wrap IntKind.i64 (x112 + x114)) = x116)
    (h117 : (x116 % 256) = x118)
    (h119 : (IntKind.wrap IntKind.i64 (Int.tdiv x116 256)) = x120)
    (h121 : (IntKind.wrap IntKind.i64 s15) = x122)
    (h123 : (IntKind.wrap IntKind.i64 (x120 + x122)) = x124)
    (h125 : (x124 % 256) = x126)
    (h127 : (IntKind.wrap IntKind.i64 (Int.tdiv x124 256)) = x128)
    (c129 : PureF Try.prog 19 [] (.c (.bool (true))))
    (c146 : Contract0 Try.prog 18 [(.aggi .u8 [1, 0, 0, 0, 0, 0, 0, 0, 0, 0, 0, 0, 0, 0, 0, 0, s0, s1, s2, s3, s4, s5, s6, s7, s8, s9, s10, s11, s12, s13, s14, s15]), (.c (.sl 1 0 0 160 1))] [(1, (.one ⟨false, true, (.ints .u8 [1, 0, 0, 0, 0, 0, 0, 0, 0, 0, 0, 0, 0, 0, 0, 0, 2, 0, 0, 0, 0, 0, 0, 0, 0, 0, 0, 0, 0, 0, 0, 0, 3, 0, 0, 0, 0, 0, 0, 0, 0, 0, 0, 0, 0, 0, 0, 0, 4, 0, 0, 0, 0, 0, 0, 0, 0, 0, 0, 0, 0, 0, 0, 0, 5, 0, 0, 0, 0, 0, 0, 0, 0, 0, 0, 0, 0, 0, 0, 0, 6, 0, 0, 0, 0, 0, 0, 0, 0, 0, 0, 0, 0, 0, 0, 0, 7, 0, 0, 0, 0, 0, 0, 0, 0, 0, 0, 0, 0, 0, 0, 0, 8, 0, 0, 0, 0, 0, 0, 0, 0, 0, 0, 0, 0, 0, 0, 0, 9, 0, 0, 0, 0, 0, 0, 0, 0, 0, 0, 0, 0, 0, 0, 0, 10, 0, 0, 0, 0, 0, 0, 0, 0, 0, 0, 0, 0, 0, 0, 0])⟩))] 2 (.aggi .u8 [r18_130, r18_131, r18_132, r18_133, r18_134, r18_135, r18_136, r18_137, r18_138, r18_139, r18_140, r18_141, r18_142, r18_143, r18_144, r18_145]) [] [])
    (h147 : ([r18_130, r18_131, r18_132, r18_133, r18_134, r18_135, r18_136, r18_137, r18_138, r18_139, r18_140, r18_141, r18_142, r18_143, r18_144, r18_145] == List.take 16 (List.drop 0 (splice (splice (splice (splice (splice (splice (splice (splice (splice (splice (splice (splice (splice (splice (splice (splice (splice [0, 0, 0, 0, 0, 0, 0, 0, 0, 0, 0, 0, 0, 0, 0, 0] 0 (List.take 16 (List.drop 0 [s0, s1, s2, s3, s4, s5, s6, s7, s8, s9, s10, s11, s12, s13, s14, s15]))) 0 [x6]) 1 [x14]) 2 [x22]) 3 [x30]) 4 [x38]) 5 [x46]) 6 [x54]) 7 [x62]) 8 [x70]) 9 [x78]) 10 [x86]) 11 [x94]) 12 [x102]) 13 [x110]) 14 [x118]) 15 [x126]))) = true)   :
    PureF Try.prog 7 [(.aggi .u8 [s0, s1, s2, s3, s4, s5, s6, s7, s8, s9, s10, s11, s12, s13, s14, s15]), (.c (.int .i64 n))] (.c (.bool (true))) :=
  Contract0.of_frun (fn := Try.f7) (c := bodyOf Try.f7) (fuel := 5000) (k := kOf Try.prog Try.f7) (outs := []) (hs := [(3, ⟨.call [] (.c (.int .i64 10)) [] [], none⟩), (243, ⟨.auto, some (.c (.int .i64 x2))⟩), (244, ⟨.auto, some (.c (.int .i64 x4))⟩), (248, ⟨.auto, some (.c (.int .u8 x6))⟩), (252, ⟨.auto, some (.c (.int .i64 x8))⟩), (264, ⟨.auto, some (.c (.int .i64 x10))⟩), (265, ⟨.auto, some (.c (.int .i64 x12))⟩), (269, ⟨.auto, some (.c (.int .u8 x14))⟩), (273, ⟨.auto, some (.c (.int .i64 x16))⟩), (285, ⟨.auto, some (.c (.int .i64 x18))⟩), (286, ⟨.auto, some (.c (.int .i64 x20))⟩), (290, ⟨.auto, some (.c (.int .u8 x22))⟩), (294, ⟨.auto, some (.c (.int .i64 x24))⟩), (306, ⟨.auto, some (.c (.int .i64 x26))⟩), (307, ⟨.auto, some (.c (.int .i64 x28))⟩), (311, ⟨.auto, some (.c (.int .u8 x30))⟩), (315, ⟨.auto, some (.c (.int .i64 x32))⟩), (327, ⟨.auto, some (.c (.int .i64 x34))⟩), (328, ⟨.auto, some (.c (.int .i64 x36))⟩), (332, ⟨.auto, some (.c (.int .u8 x38))⟩), (336, ⟨.auto, some (.c (.int .i64 x40))⟩), (348, ⟨.auto, some (.c (.int .i64 x42))⟩), (349, ⟨.auto, some (.c (.int .i64 x44))⟩), (353, ⟨.auto, some (.c (.int .u8 x46))⟩), (357, ⟨.auto, some (.c (.int .i64 x48))⟩), (369, ⟨.auto, some (.c (.int .i64 x50))⟩), (370, ⟨.auto, some (.c (.int .i64 x52))⟩), (374, ⟨.auto, some (.c (.int .u8 x54))⟩), (378, ⟨.auto, some (.c (.int .i64 x56))⟩), (390, ⟨.auto, some (.c (.int .i64 x58))⟩), (391, ⟨.auto, some (.c (.int .i64 x60))⟩), (395, ⟨.auto, some (.c (.int .u8 x62))⟩), (399, ⟨.auto, some (.c (.int .i64 x64))⟩), (411, ⟨.auto, some (.c (.int .i64 x66))⟩), (412, ⟨.auto, some (.c (.int .i64 x68))⟩), (416, ⟨.auto, some (.c (.int .u8 x70))⟩), (420, ⟨.auto, some (.c (.int .i64 x72))⟩), (432, ⟨.auto, some (.c (.int .i64 x74))⟩), (433, ⟨.auto, some (.c (.int .i64 x76))⟩), (437, ⟨.auto, some (.c (.int .u8 x78))⟩), (441, ⟨.auto, some (.c (.int .i64 x80))⟩), (453, ⟨.auto, some (.c (.int .i64 x82))⟩), (454, ⟨.auto, some (.c (.int .i64 x84))⟩), (458, ⟨.auto, some (.c (.int .u8 x86))⟩), (462, ⟨.auto, some (.c (.int .i64 x88))⟩), (474, ⟨.auto, some (.c (.int .i64 x90))⟩), (475, ⟨.auto, some (.c (.int .i64 x92))⟩), (479, ⟨.auto, some (.c (.int .u8 x94))⟩), (483, ⟨.auto, some (.c (.int .i64 x96))⟩), (495, ⟨.auto, some (.c (.int .i64 x98))⟩), (496, ⟨.auto, some (.c (.int .i64 x100))⟩), (500, ⟨.auto, some (.c (.int .u8 x102))⟩), (504, ⟨.auto, some (.c (.int .i64 x104))⟩), (516, ⟨.auto, some (.c (.int .i64 x106))⟩), (517, ⟨.auto, some (.c (.int .i64 x108))⟩), (521, ⟨.auto, some (.c (.int .u8 x110))⟩), (525, ⟨.auto, some (.c (.int .i64 x112))⟩), (537, ⟨.auto, some (.c (.int .i64 x114))⟩), (538, ⟨.auto, some (.c (.int .i64 x116))⟩), (542, ⟨.auto, some (.c (.int .u8 x118))⟩), (546, ⟨.auto, some (.c (.int .i64 x120))⟩), (558, ⟨.auto, some (.c (.int .i64 x122))⟩), (559, ⟨.auto, some (.c (.int .i64 x124))⟩), (563, ⟨.auto, some (.c (.int .u8 x126))⟩), (567, ⟨.auto, some (.c (.int .i64 x128))⟩), (575, ⟨.call [] (.c (.bool (true))) [] [], none⟩), (579, ⟨.call [209] (.aggi .u8 [r18_130, r18_131, r18_132, r18_133, r18_134, r18_135, r18_136, r18_137, r18_138, r18_139, r18_140, r18_141, r18_142, r18_143, r18_144, r18_145]) [] [], none⟩), (581, ⟨.auto, some (.c (.bool (true)))⟩)])
    (cs := [EB ([r18_130, r18_131, r18_132, r18_133, r18_134, r18_135, r18_136, r18_137, r18_138, r18_139, r18_140, r18_141, r18_142, r18_143, r18_144, r18_145] == List.take 16 (List.drop 0 (splice (splice (splice (splice (splice (splice (splice (splice (splice (splice (splice (splice (splice (splice (splice (splice (splice [0, 0, 0, 0, 0, 0, 0, 0, 0, 0, 0, 0, 0, 0, 0, 0] 0 (List.take 16 (List.drop 0 [s0, s1, s2, s3, s4, s5, s6, s7, s8, s9, s10, s11, s12, s13, s14, s15]))) 0 [x6]) 1 [x14]) 2 [x22]) 3 [x30]) 4 [x38]) 5 [x46]) 6 [x54]) 7 [x62]) 8 [x70]) 9 [x78]) 10 [x86]) 11 [x94]) 12 [x102]) 13 [x110]) 14 [x118]) 15 [x126]))) true,
      Contract Try.prog 18 [(.aggi .u8 [1, 0, 0, 0, 0, 0, 0, 0, 0, 0, 0, 0, 0, 0, 0, 0, s0, s1, s2, s3, s4, s5, s6, s7, s8, s9, s10, s11, s12, s13, s14, s15]), (.c (.sl 209 0 0 160 1))] [(209, (.one ⟨true, true, (.ints .u8 [1, 0, 0, 0, 0, 0, 0, 0, 0, 0, 0, 0, 0, 0, 0, 0, 2, 0, 0, 0, 0, 0, 0, 0, 0, 0, 0, 0, 0, 0, 0, 0, 3, 0, 0, 0, 0, 0, 0, 0, 0, 0, 0, 0, 0, 0, 0, 0, 4, 0, 0, 0, 0, 0, 0, 0, 0, 0, 0, 0, 0, 0, 0, 0, 5, 0, 0, 0, 0, 0, 0, 0, 0, 0, 0, 0, 0, 0, 0, 0, 6, 0, 0, 0, 0, 0, 0, 0, 0, 0, 0, 0, 0, 0, 0, 0, 7, 0, 0, 0, 0, 0, 0, 0, 0, 0, 0, 0, 0, 0, 0, 0, 8, 0, 0, 0, 0, 0, 0, 0, 0, 0, 0, 0, 0, 0, 0, 0, 9, 0, 0, 0, 0, 0, 0, 0, 0, 0, 0, 0, 0, 0, 0, 0, 10, 0, 0, 0, 0, 0, 0, 0, 0, 0, 0, 0, 0, 0, 0, 0])⟩))] 8817 (.aggi .u8 [r18_130, r18_131, r18_132, r18_133, r18_134, r18_135, r18_136, r18_137, r18_138, r18_139, r18_140, r18_141, r18_142, r18_143, r18_144, r18_145]) [] [],
      Contract Try.prog 19 [] [] 8753 (.c (.bool (true))) [] [],
      EI .i64 (IntKind.wrap IntKind.i64 (Int.tdiv x124 256)) x128,
      EI .u8 (x124 % 256) x126,
      EI .i64 (IntKind.wrap IntKind.i64 (x120 + x122)) x124,
      EI .i64 (IntKind.wrap IntKind.i64 s15) x122,
      EI .i64 (IntKind.wrap IntKind.i64 (Int.tdiv x116 256)) x120,
      EI .u8 (x116 % 256) x118,
      EI .i64 (IntKind.wrap IntKind.i64 (x112 + x114)) x116,
      EI .i64 (IntKind.wrap IntKind.i64 s14) x114,
      EI .i64 (IntKind.wrap IntKind.i64 (Int.tdiv x108 256)) x112,
      EI .u8 (x108 % 256) x110,
      EI .i64 (IntKind.wrap IntKind.i64 (x104 + x106)) x108,
      EI .i64 (IntKind.wrap IntKind.i64 s13) x106,
      EI .i64 (IntKind.wrap IntKind.i64 (Int.tdiv x100 256)) x104,
      EI .u8 (x100 % 256) x102,
      EI .i64 (IntKind.wrap IntKind.i64 (x96 + x98)) x100,
      EI .i64 (IntKind.wrap IntKind.i64 s12) x98,
      EI .i64 (IntKind.wrap IntKind.i64 (Int.tdiv x92 256)) x96,
      EI .u8 (x92 % 256) x94,
      EI .i64 (IntKind.wrap IntKind.i64 (x88 + x90)) x92,
      EI .i64 (IntKind.wrap IntKind.i64 s11) x90,
      EI .i64 (IntKind.wrap IntKind.i64 (Int.tdiv x84 256)) x88,
      EI .u8 (x84 % 256) x86,
      EI .i64 (IntKind.wrap IntKind.i64 (x80 + x82)) x84,
      EI .i64 (IntKind.wrap IntKind.i64 s10) x82,
      EI .i64 (IntKind.wrap IntKind.i64 (Int.tdiv x76 256)) x80,
      EI .u8 (x76 % 256) x78,
      EI .i64 (IntKind.wrap IntKind.i64 (x72 + x74)) x76,
      EI .i64 (IntKind.wrap IntKind.i64 s9) x74,
      EI .i64 (IntKind.wrap IntKind.i64 (Int.tdiv x68 256)) x72,
      EI .u8 (x68 % 256) x70,
      EI .i64 (IntKind.wrap IntKind.i64 (x64 + x66)) x68,
      EI .i64 (IntKind.wrap IntKind.i64 s8) x66,
      EI .i64 (IntKind.wrap IntKind.i64 (Int.tdiv x60 256)) x64,
      EI .u8 (x60 % 256) x62,
      EI .i64 (IntKind.wrap IntKind.i64 (x56 + x58)) x60,
      EI .i64 (IntKind.wrap IntKind.i64 s7) x58,
      EI .i64 (IntKind.wrap IntKind.i64 (Int.tdiv x52 256)) x56,
      EI .u8 (x52 % 256) x54,
      EI .i64 (IntKind.wrap IntKind.i64 (x48 + x50)) x52,
      EI .i64 (IntKind.wrap IntKind.i64 s6) x50,
      EI .i64 (IntKind.wrap IntKind.i64 (Int.tdiv x44 256)) x48,
      EI .u8 (x44 % 256) x46,
      EI .i64 (IntKind.wrap IntKind.i64 (x40 + x42)) x44,
      EI .i64 (IntKind.wrap IntKind.i64 s5) x42,
      EI .i64 (IntKind.wrap IntKind.i64 (Int.tdiv x36 256)) x40,
      EI .u8 (x36 % 256) x38,
      EI .i64 (IntKind.wrap IntKind.i64 (x32 + x34)) x36,
      EI .i64 (IntKind.wrap IntKind.i64 s4) x34,
      EI .i64 (IntKind.wrap IntKind.i64 (Int.tdiv x28 256)) x32,
      EI .u8 (x28 % 256) x30,
      EI .i64 (IntKind.wrap IntKind.i64 (x24 + x26)) x28,
      EI .i64 (IntKind.wrap IntKind.i64 s3) x26,
      EI .i64 (IntKind.wrap IntKind.i64 (Int.tdiv x20 256)) x24,
      EI .u8 (x20 % 256) x22,
      EI .i64 (IntKind.wrap IntKind.i64 (x16 + x18)) x20,
      EI .i64 (IntKind.wrap IntKind.i64 s2) x18,
      EI .i64 (IntKind.wrap IntKind.i64 (Int.tdiv x12 256)) x16,
      EI .u8 (x12 % 256) x14,
      EI .i64 (IntKind.wrap IntKind.i64 (x8 + x10)) x12,
      EI .i64 (IntKind.wrap IntKind.i64 s1) x10,
      EI .i64 (IntKind.wrap IntKind.i64 (Int.tdiv x4 256)) x8,
      EI .u8 (x4 % 256) x6,
      EI .i64 (IntKind.wrap IntKind.i64 (65 + x2)) x4,
      EI .i64 (IntKind.wrap IntKind.i64 s0) x2,
      Contract Try.prog 21 [(.c (.int .i64 n)), (.c (.int .i64 20))] [] 49 (.c (.int .i64 10)) [] []])
    mixed Try.func7 (by kernel_rfl) (by kernel_rfl) (by kernel_rfl) rfl (by kernel_rfl) ⟨.mk h147, c146.ro [(209, (1, true))] rfl (by kernel_rfl) rfl (by kernel_rfl) rfl rfl _, c129.use (by kernel_rfl) rfl rfl _ _, .mk h127, .mk h125, .mk h123, .mk h121, .mk h119, .mk h117, .mk h115, .mk h113, .mk h111, .mk h109, .mk h107, .mk h105, .mk h103, .mk h101, .mk h99, .mk h97, .mk h95, .mk h93, .mk h91, .mk h89, .mk h87, .mk h85, .mk h83, .mk h81, .mk h79, .mk h77, .mk h75, .mk h73, .mk h71, .mk h69, .mk h67, .mk h65, .mk h63, .mk h61, .mk h59, .mk h57, .mk h55, .mk h53, .mk h51, .mk h49, .mk h47, .mk h45, .mk h43, .mk h41, .mk h39, .mk h37, .mk h35, .mk h33, .mk h31, .mk h29, .mk h27, .mk h25, .mk h23, .mk h21, .mk h19, .mk h17, .mk h15, .mk h13, .mk h11, .mk h9, .mk h7, .mk h5, .mk h3, .mk h1, c0.use (by kernel_rfl) rfl rfl _ _, trivial⟩

theorem run7_11 (s0 s1 s2 s3 s4 s5 s6 s7 s8 s9 s10 s11 s12 s13 s14 s15 n x2 x4 x6 x8 x10 x12 x14 x16 x18 x20 x22 x24 x26 x28 x30 x32 x34 x36 x38 x40 x42 x44 x46 x48 x50 x52 x54 x56 x58 x60 x62 x64 x66 x68 x70 x72 x74 x76 x78 x80 x82 x84 x86 x88 x90 x92 x94 x96 x98 x100 x102 x104 x106 x108 x110 x112 x114 x116 x118 x120 x122 x124 x126 x128 r18_130 r18_131 r18_132 r18_133 r18_134 r18_135 r18_136 r18_137 r18_138 r18_139 r18_140 r18_141 r18_142 r18_143 r18_144 r18_145 : Int)
    (c0 : PureF Try.prog 21 [(.c (.int .i64 n)), (.c (.int .i64 20))] (.c (.int .i64 11)))
    (h1 : (IntKind.wrap IntKind.i64 s0) = x2)
    (h3 : (IntKind.wrap IntKind.i64 (76 + x2)) = x4)
    (h5 : (x4 % 256) = x6)
    (h7 : (IntKind.wrap IntKind.i64 (Int.tdiv x4 256)) = x8)
    (h9 : (IntKind.wrap IntKind.i64 s1) = x10)
    (h11 : (IntKind.wrap IntKind.i64 (x8 + x10)) = x12)
    (h13 : (x12 % 256) = x14)
    (h15 : (IntKind.wrap IntKind.i64 (Int.tdiv x12 256)) = x16)
    (h17 : (IntKind.wrap IntKind.i64 s2) = x18)
    (h19 : (IntKind.wrap IntKind.i64 (x16 + x18)) = x20)
    (h21 : (x20 % 256) = x22)
    (h23 : (IntKind.wrap IntKind.i64 (Int.tdiv x20 256)) = x24)
    (h25 : (IntKind.wrap IntKind.i64 s3) = x26)
    (h27 : (IntKind.wrap IntKind.i64 (x24 + x26)) = x28)
    (h29 : (x28 % 256) = x30)
    (h31 : (IntKind.wrap IntKind.i64 (Int.tdiv x28 256)) = x32)
    (h33 : (IntKind.wrap IntKind.i64 s4) = x34)
    (h35 : (IntKind.wrap IntKind.i64 (x32 + x34)) = x36)
    (h37 : (x36 % 256) = x38)
    (h39 : (IntKind.wrap IntKind.i64 (Int.tdiv x36 256)) = x40)
    (h41 : (IntKind.wrap IntKind.i64 s5) = x42)
    (h43 : (IntKind.wrap IntKind.i64 (x40 + x42)) = x44)
    (h45 : (x44 % 256) = x46)
    (h47 : (IntKind.wrap IntKind.i64 (Int.tdiv x44 256)) = x48)
    (h49 : (IntKind.wrap IntKind.i64 s6) = x50)
    (h51 : (IntKind.wrap IntKind.i64 (x48 + x50)) = x52)
    (h53 : (x52 % 256) = x54)
    (h55 : (IntKind.wrap IntKind.i64 (Int.tdiv x52 256)) = x56)
    (h57 : (IntKind.wrap IntKind.i64 s7) = x58)
    (h59 : (IntKind.wrap IntKind.i64 (x56 + x58)) = x60)
    (h61 : (x60 % 256) = x62)
    (h63 : (IntKind.wrap IntKind.i64 (Int.tdiv x60 256)) = x64)
    (h65 : (IntKind.wrap IntKind.i64 s8) = x66)
    (h67 : (IntKind.wrap IntKind.i64 (x64 + x66)) = x68)
    (h69 : (x68 % 256) = x70)
    (h71 : (IntKind.wrap IntKind.i64 (Int.tdiv x68 256)) = x72)
    (h73 : (IntKind.wrap IntKind.i64 s9) = x74)
    (h75 : (IntKind.wrap IntKind.i64 (x72 + x74)) = x76)
    (h77 : (x76 % 256) = x78)
    (h79 : (IntKind.wrap IntKind.i64 (Int.tdiv x76 256)) = x80)
    (h81 : (IntKind.wrap IntKind.i64 s10) = x82)
    (h83 : (IntKind.wrap IntKind.i64 (x80 + x82)) = x84)
    (h85 : (x84 % 256) = x86)
    (h87 : (IntKind.wrap IntKind.i64 (Int.tdiv x84 256)) = x88)
    (h89 : (IntKind.wrap IntKind.i64 s11) = x90)
    (h91 : (IntKind.wrap IntKind.i64 (x88 + x90)) = x92)
    (h93 : (x92 % 256) = x94)
    (h95 : (IntKind.wrap IntKind.i64 (Int.tdiv x92 256)) = x96)
    (h97 : (IntKind.wrap IntKind.i64 s12) = x98)
    (h99 : (IntKind.wrap IntKind.i64 (x96 + x98)) = x100)
    (h101 : (x100 % 256) = x102)
    (h103 : (IntKind.wrap IntKind.i64 (Int.tdiv x100 256)) = x104)
    (h105 : (IntKind.wrap IntKind.i64 s13) = x106)
    (h107 : (IntKind.wrap IntKind.i64 (x104 + x106)) = x108)
    (h109 : (x108 % 256) = x110)
    (h111 : (IntKind.wrap IntKind.i64 (Int.tdiv x108 256)) = x112)
    (h113 : (IntKind.wrap IntKind.i64 s14) = x114)
    (h115 : (IntKind.wrap IntKind.i64 (x112 + x114)) = x116)
    (h117 : (x116 % 256) = x118)
    (h119 : (IntKind.wrap IntKind.i64 (Int.tdiv x116 256)) = x120)
    (h121 : (IntKind.wrap IntKind.i64 s15) = x122)
    (h123 : (IntKind.wrap IntKind.i64 (x120 + x122)) = x124)
    (h125 : (x124 % 256) = x126)
    (h127 : (IntKind.wrap IntKind.i64 (Int.tdiv x124 256)) = x128)
    (c129 : PureF Try.prog 19 [] (.c (.bool (true))))
    (c146 : Contract0 Try.prog 18 [(.aggi .u8 [1, 0, 0, 0, 0, 0, 0, 0, 0, 0, 0, 0, 0, 0, 0, 0, s0, s1, s2, s3, s4, s5, s6, s7, s8, s9, s10, s11, s12, s13, s14, s15]), (.c (.sl 1 0 0 176 1))] [(1, (.one ⟨false, true, (.ints .u8 [1, 0, 0, 0, 0, 0, 0, 0, 0, 0, 0, 0, 0, 0, 0, 0, 2, 0, 0, 0, 0, 0, 0, 0, 0, 0, 0, 0, 0, 0, 0, 0, 3, 0, 0, 0, 0, 0, 0, 0, 0, 0, 0, 0, 0, 0, 0, 0, 4, 0, 0, 0, 0, 0, 0, 0, 0, 0, 0, 0, 0, 0, 0, 0, 5, 0, 0, 0, 0, 0, 0, 0, 0, 0, 0, 0, 0, 0, 0, 0, 6, 0, 0, 0, 0, 0, 0, 0, 0, 0, 0, 0, 0, 0, 0, 0, 7, 0, 0, 0, 0, 0, 0, 0, 0, 0, 0, 0, 0, 0, 0, 0, 8, 0, 0, 0, 0, 0, 0, 0, 0, 0, 0, 0, 0, 0, 0, 0, 9, 0, 0, 0, 0, 0, 0, 0, 0, 0, 0, 0, 0, 0, 0, 0, 10, 0, 0, 0, 0, 0, 0, 0, 0, 0, 0, 0, 0, 0, 0, 0, 11, 0, 0, 0, 0, 0, 0, 0, 0, 0, 0, 0, 0, 0, 0, 0])⟩))] 2 (.aggi .u8 [r18_130, r18_131, r18_132, r18_133, r18_134, r18_135, r18_136, r18_137, r18_138, r18_139, r18_140, r18_141, r18_142, r18_143, r18_144, r18_145]) [] [])
    (h147 : ([r18_130, r18_131, r18_132, r18_133, r18_134, r18_135, r18_136, r18_137, r18_138, r18_139, r18_140, r18_141, r18_142, r18_143, r18_144, r18_145] == List.take 16 (List.drop 0 (splice (splice (splice (splice (splice (splice (splice (splice (splice (splice (splice (splice (splice (splice (splice (splice (splice [0, 0, 0, 0, 0, 0, 0, 0, 0, 0, 0, 0, 0, 0, 0, 0] 0 (List.take 16 (List.drop 0 [s0, s1, s2, s3, s4, s5, s6, s7, s8, s9, s10, s11, s12, s13, s14, s15]))) 0 [x6]) 1 [x14]) 2 [x22]) 3 [x30]) 4 [x38]) 5 [x46]) 6 [x54]) 7 [x62]) 8 [x70]) 9 [x78]) 10 [x86]) 11 [x94]) 12 [x102]) 13 [x110]) 14 [x118]) 15 [x126]))) = true)   :
    PureF Try.prog 7 [(.aggi .u8 [s0, s1, s2, s3, s4, s5, s6, s7, s8, s9, s10, s11, s12, s13, s14, s15]), (.c (.int .i64 n))] (.c (.bool (true))) :=
  Contract0.of_frun (fn := Try.f7) (c := bodyOf Try.f7) (fuel := 5000) (k := kOf Try.prog Try.f7) (outs := []) (hs := [(3, ⟨.call [] (.c (.int .i64 11)) [] [], none⟩), (263, ⟨.auto, some (.c (.int .i64 x2))⟩), (264, ⟨.auto, some (.c (.int .i64 x4))⟩), (268, ⟨.auto, some (.c (.int .u8 x6))⟩), (272, ⟨.auto, some (.c (.int .i64 x8))⟩), (284, ⟨.auto, some (.c (.int .i64 x10))⟩), (285, ⟨.auto, some (.c (.int .i64 x12))⟩), (289, ⟨.auto, some (.c (.int .u8 x14))⟩), (293, ⟨.auto, some (.c (.int .i64 x16))⟩), (305, ⟨.auto, some (.c (.int .i64 x18))⟩), (306, ⟨.auto, some (.c (.int .i64 x20))⟩), (310, ⟨.auto, some (.c (.int .u8 x22))⟩), (314, ⟨.auto, some (.c (.int .i64 x24))⟩), (326, ⟨.auto, some (.c (.int .i64 x26))⟩), (327, ⟨.auto, some (.c (.int .i64 x28))⟩), (331, ⟨.auto, some (.c (.int .u8 x30))⟩), (335, ⟨.auto, some (.c (.int .i64 x32))⟩), (347, ⟨.auto, some (.c (.int .i64 x34))⟩), (348, ⟨.auto, some (.c (.int .i64 x36))⟩), (352, ⟨.auto, some (.c (.int .u8 x38))⟩), (356, ⟨.auto, some (.c (.int .i64 x40))⟩), (368, ⟨.auto, some (.c (.int .i64 x42))⟩), (369, ⟨.auto, some (.c (.int .i64 x44))⟩), (373, ⟨.auto, some (.c (.int .u8 x46))⟩), (377, ⟨.auto, some (.c (.int .i64 x48))⟩), (389, ⟨.auto, some (.c (.int .i64 x50))⟩), (390, ⟨.auto, some (.c (.int .i64 x52))⟩), (394, ⟨.auto, some (.c (.int .u8 x54))⟩), (398, ⟨.auto, some (.c (.int .i64 x56))⟩), (410, ⟨.auto, some (.c (.int .i64 x58))⟩), (411, ⟨.auto, some (.c (.int .i64 x60))⟩), (415, ⟨.auto, some (.c (.int .u8 x62))⟩), (419, ⟨.auto, some (.c (.int .i64 x64))⟩), (431, ⟨.auto, some (.c (.int .i64 x66))⟩), (432, ⟨.auto, some (.c (.int .i64 x68))⟩), (436, ⟨.auto, some (.c (.int .u8 x70))⟩), (440, ⟨.auto, some (.c (.int .i64 x72))⟩), (452, ⟨.auto, some (.c (.int .i64 x74))⟩), (453, ⟨.auto, some (.c (.int .i64 x76))⟩), (457, ⟨.auto, some (.c (.int .u8 x78))⟩), (461, ⟨.auto, some (.c (.int .i64 x80))⟩), (473, ⟨.auto, some (.c (.int .i64 x82))⟩), (474, ⟨.auto, some (.c (.int .i64 x84))⟩), (478, ⟨.auto, some (.c (.int .u8 x86))⟩), (482, ⟨.auto, some (.c (.int .i64 x88))⟩), (494, ⟨.auto, some (.c (.int .i64 x90))⟩), (495, ⟨.auto, some (.c (.int .i64 x92))⟩), (499, ⟨.auto, some (.c (.int .u8 x94))⟩), (503, ⟨.auto, some (.c (.int .i64 x96))⟩), (515, ⟨.auto, some (.c (.int .i64 x98))⟩), (516, ⟨.auto, some (.c (.int .i64 x100))⟩), (520, ⟨.auto, some (.c (.int .u8 x102))⟩), (524, ⟨.auto, some (.c (.int .i64 x104))⟩), (536, ⟨.auto, some (.c (.int .i64 x106))⟩), (537, ⟨.auto, some (.c (.int .i64 x108))⟩), (541, ⟨.auto, some (.c (.int .u8 x110))⟩), (545, ⟨.auto, some (.c (.int .i64 x112))⟩), (557, ⟨.auto, some (.c (.int .i64 x114))⟩), (558, ⟨.auto, some (.c (.int .i64 x116))⟩), (562, ⟨.auto, some (.c (.int .u8 x118))⟩), (566, ⟨.auto, some (.c (.int .i64 x120))⟩), (578, ⟨.auto, some (.c (.int .i64 x122))⟩), (579, ⟨.auto, some (.c (.int .i64 x124))⟩), (583, ⟨.auto, some (.c (.int .u8 x126))⟩), (587, ⟨.auto, some (.c (.int .i64 x128))⟩), (595, ⟨.call [] (.c (.bool (true))) [] [], none⟩), (599, ⟨.call [209] (.aggi .u8 [r18_130, r18_131, r18_132, r18_133, r18_134, r18_135, r18_136, r18_137, r18_138, r18_139, r18_140, r18_141, r18_142, r18_143, r18_144, r18_145]) [] [], none⟩), (601, ⟨.auto, some (.c (.bool (true)))⟩)])
    (cs := [EB ([r18_130, r18_131, r18_132, r18_133, r18_134, r18_135, r18_136, r18_137, r18_138, r18_139, r18_140, r18_141, r18_142, r18_143, r18_144, r18_145] == List.take 16 (List.drop 0 (splice (splice (splice (splice (splice (splice (splice (splice (splice (splice (splice (splice (splice (splice (splice (splice (splice [0, 0, 0, 0, 0, 0, 0, 0, 0, 0, 0, 0, 0, 0, 0, 0] 0 (List.take 16 (List.drop 0 [s0, s1, s2, s3, s4, s5, s6, s7, s8, s9, s10, s11, s12, s13, s14, s15]))) 0 [x6]) 1 [x14]) 2 [x22]) 3 [x30]) 4 [x38]) 5 [x46]) 6 [x54]) 7 [x62]) 8 [x70]) 9 [x78]) 10 [x86]) 11 [x94]) 12 [x102]) 13 [x110]) 14 [x118]) 15 [x126]))) true,
      Contract Try.prog 18 [(.aggi .u8 [1, 0, 0, 0, 0, 0, 0, 0, 0, 0, 0, 0, 0, 0, 0, 0, s0, s1, s2, s3, s4, s5, s6, s7, s8, s9, s10, s11, s12, s13, s14, s15]), (.c (.sl 209 0 0 176 1))] [(209, (.one ⟨true, true, (.ints .u8 [1, 0, 0, 0, 0, 0, 0, 0, 0, 0, 0, 0, 0, 0, 0, 0, 2, 0, 0, 0, 0, 0, 0, 0, 0, 0, 0, 0, 0, 0, 0, 0, 3, 0, 0, 0, 0, 0, 0, 0, 0, 0, 0, 0, 0, 0, 0, 0, 4, 0, 0, 0, 0, 0, 0, 0, 0, 0, 0, 0, 0, 0, 0, 0, 5, 0, 0, 0, 0, 0, 0, 0, 0, 0, 0, 0, 0, 0, 0, 0, 6, 0, 0, 0, 0, 0, 0, 0, 0, 0, 0, 0, 0, 0, 0, 0, 7, 0, 0, 0, 0, 0, 0, 0, 0, 0, 0, 0, 0, 0, 0, 0, 8, 0, 0, 0, 0, 0, 0, 0, 0, 0, 0, 0, 0, 0, 0, 0, 9, 0, 0, 0, 0, 0, 0, 0, 0, 0, 0, 0, 0, 0, 0, 0, 10, 0, 0, 0, 0, 0, 0, 0, 0, 0, 0, 0, 0, 0, 0, 0, 11, 0, 0, 0, 0, 0, 0, 0, 0, 0, 0, 0, 0, 0, 0, 0])⟩))] 9121 (.aggi .u8 [r18_130, r18_131, r18_132, r18_133, r18_134, r18_135, r18_136, r18_137, r18_138, r18_139, r18_140, r18_141, r18_142, r18_143, r18_144, r18_145]) [] [],
      Contract Try.prog 19 [] [] 9057 (.c (.bool (true))) [] [],
      EI .i64 (IntKind.wrap IntKind.i64 (Int.tdiv x124 256)) x128,
      EI .u8 (x124 % 256) x126,
      EI .i64 (IntKind.wrap IntKind.i64 (x120 + x122)) x124,
      EI .i64 (IntKind.wrap IntKind.i64 s15) x122,
      EI .i64 (IntKind.wrap IntKind.i64 (Int.tdiv x116 256)) x120,
      EI .u8 (x116 % 256) x118,
      EI .i64 (IntKind.wrap IntKind.i64 (x112 + x114)) x116,
      EI .i64 (IntKind.wrap IntKind.i64 s14) x114,
      EI .i64 (IntKind.wrap IntKind.i64 (Int.tdiv x108 256)) x112,
      EI .u8 (x108 % 256) x110,
      EI .i64 (IntKind.wrap IntKind.i64 (x104 + x106)) x108,
      EI .i64 (IntKind.wrap IntKind.i64 s13) x106,
      EI .i64 (IntKind.wrap IntKind.i64 (Int.tdiv x100 256)) x104,
      EI .u8 (x100 % 256) x102,
      EI .i64 (IntKind.wrap IntKind.i64 (x96 + x98)) x100,
      EI .i64 (IntKind.wrap IntKind.i64 s12) x98,
      EI .i64 (IntKind.wrap IntKind.i64 (Int.tdiv x92 256)) x96,
      EI .u8 (x92 % 256) x94,
      EI .i64 (IntKind.wrap IntKind.i64 (x88 + x90)) x92,
      EI .i64 (IntKind.wrap IntKind.i64 s11) x90,
      EI .i64 (IntKind.wrap IntKind.i64 (Int.tdiv x84 256)) x88,
      EI .u8 (x84 % 256) x86,
      EI .i64 (IntKind.wrap IntKind.i64 (x80 + x82)) x84,
      EI .i64 (IntKind.wrap IntKind.i64 s10) x82,
      EI .i64 (IntKind.wrap IntKind.i64 (Int.tdiv x76 256)) x80,
      EI .u8 (x76 % 256) x78,
      EI .i64 (IntKind.wrap IntKind.i64 (x72 + x74)) x76,
      EI .i64 (IntKind.wrap IntKind.i64 s9) x74,
      EI .i64 (IntKind.wrap IntKind.i64 (Int.tdiv x68 256)) x72,
      EI .u8 (x68 % 256) x70,
      EI .i64 (IntKind.wrap IntKind.i64 (x64 + x66)) x68,
      EI .i64 (IntKind.wrap IntKind.i64 s8) x66,
      EI .i64 (IntKind.wrap IntKind.i64 (Int.tdiv x60 256)) x64,
      EI .u8 (x60 % 256) x62,
      EI .i64 (IntKind.wrap IntKind.i64 (x56 + x58)) x60,
      EI .i64 (IntKind.wrap IntKind.i64 s7) x58,
      EI .i64 (IntKind.wrap IntKind.i64 (Int.tdiv x52 256)) x56,
      EI .u8 (x52 % 256) x54,
      EI .i64 (IntKind.wrap IntKind.i64 (x48 + x50)) x52,
      EI .i64 (IntKind.wrap IntKind.i64 s6) x50,
      EI .i64 (IntKind.wrap IntKind.i64 (Int.tdiv x44 256)) x48,
      EI .u8 (x44 % 256) x46,
      EI .i64 (IntKind.wrap IntKind.i64 (x40 + x42)) x44,
      EI .i64 (IntKind.wrap IntKind.i64 s5) x42,
      EI .i64 (IntKind.wrap IntKind.i64 (Int.tdiv x36 256)) x40,
      EI .u8 (x36 % 256) x38,
      EI .i64 (IntKind.wrap IntKind.i64 (x32 + x34)) x36,
      EI .i64 (IntKind.wrap IntKind.i64 s4) x34,
      EI .i64 (IntKind.wrap IntKind.i64 (Int.tdiv x28 256)) x32,
      EI .u8 (x28 % 256) x30,
      EI .i64 (IntKind.wrap IntKind.i64 (x24 + x26)) x28,
      EI .i64 (IntKind.wrap IntKind.i64 s3) x26,
      EI .i64 (IntKind.wrap IntKind.i64 (Int.tdiv x20 256)) x24,
      EI .u8 (x20 % 256) x22,
      EI .i64 (IntKind.wrap IntKind.i64 (x16 + x18)) x20,
      EI .i64 (IntKind.wrap IntKind.i64 s2) x18,
      EI .i64 (IntKind.wrap IntKind.i64 (Int.tdiv x12 256)) x16,
      EI .u8 (x12 % 256) x14,
      EI .i64 (IntKind.wrap IntKind.i64 (x8 + x10)) x12,
      EI .i64 (IntKind.wrap IntKind.i64 s1) x10,
      EI .i64 (IntKind.wrap IntKind.i64 (Int.tdiv x4 256)) x8,
      EI .u8 (x4 % 256) x6,
      EI .i64 (IntKind.wrap IntKind.i64 (76 + x2)) x4,
      EI .i64 (IntKind.wrap IntKind.i64 s0) x2,
      Contract Try.prog 21 [(.c (.int .i64 n)), (.c (.int .i64 20))] [] 49 (.c (.int .i64 11)) [] []])
    mixed Try.func7 (by kernel_rfl) (by kernel_rfl) (by kernel_rfl) rfl (by kernel_rfl) ⟨.mk h147, c146.ro [(209, (1, true))] rfl (by kernel_rfl) rfl (by kernel_rfl) rfl rfl _, c129.use (by kernel_rfl) rfl rfl _ _, .mk h127, .mk h125, .mk h123, .mk h121, .mk h119, .mk h117, .mk h115, .mk h113, .mk h111, .mk h109, .mk h107, .mk h105, .mk h103, .mk h101, .mk h99, .mk h97, .mk h95, .mk h93, .mk h91, .mk h89, .mk h87, .mk h85, .mk h83, .mk h81, .mk h79, .mk h77, .mk h75, .mk h73, .mk h71, .mk h69, .mk h67, .mk h65, .mk h63, .mk h61, .mk h59, .mk h57, .mk h55, .mk h53, .mk h51, .mk h49, .mk h47, .mk h45, .mk h43, .mk h41, .mk h39, .mk h37, .mk h35, .mk h33, .mk h31, .mk h29, .mk h27, .mk h25, .mk h23, .mk h21, .mk h19, .mk h17, .mk h15, .mk h13, .mk h11, .mk h9, .mk h7, .mk h5, .mk h3, .mk h1, c0.use (by kernel_rfl) rfl rfl _ _, trivial⟩

theorem run7_12 (s0 s1 s2 s3 s4 s5 s6 s7 s8 s9 s10 s11 s12 s13 s14 s15 n x2 x4 x6 x8 x10 x12 x14 x16 x18 x20 x22 x24 x26 x28 x30 x32 x34 x36 x38 x40 x42 x44 x46 x48 x50 x52 x54 x56 x58 x60 x62 x64 x66 x68 x70 x72 x74 x76 x78 x80 x82 x84 x86 x88 x90 x92 x94 x96 x98 x100 x102 x104 x106 x108 x110 x112 x114 x116 x118 x120 x122 x124 x126 x128 r18_130 r18_131 r18_132 r18_133 r18_134 r18_135 r18_136 r18_137 r18_138 r18_139 r18_140 r18_141 r18_142 r18_143 r18_144 r18_145 : Int)
    (c0 : PureF Try.prog 21 [(.c (.int .i64 n)), (.c (.int .i64 20))] (.c (.int .i64 12)))
    (h1 : (IntKind.wrap IntKind.i64 s0) = x2)
    (h3 : (IntKind.wrap IntKind.i64 (93 + x2)) = x4)
    (h5 : (x4 % 256) = x6)
    (h7 : (IntKind.wrap IntKind.i64 (Int.tdiv x4 256)) = x8)
    (h9 : (IntKind.wrap IntKind.i64 s1) = x10)
    (h11 : (IntKind.wrap IntKind.i64 (x8 + x10)) = x12)
    (h13 : (x12 % 256) = x14)
    (h15 : (IntKind.wrap IntKind.i64 (Int.tdiv x12 256)) = x16)
    (h17 : (IntKind.wrap IntKind.i64 s2) = x18)
    (h19 : (IntKind.wrap IntKind.i64 (x16 + x18)) = x20)
    (h21 : (x20 % 256) = x22)
    (h23 : (IntKind.wrap IntKind.i64 (Int.tdiv x20 256)) = x24)
    (h25 : (IntKind.wrap IntKind.i64 s3) = x26)
    (h27 : (IntKind.wrap IntKind.i64 (x24 + x26)) = x28)
    (h29 : (x28 % 256) = x30)
    (h31 : (IntKind.wrap IntKind.i64 (Int.tdiv x28 256)) = x32)
    (h33 : (IntKind.wrap IntKind.i64 s4) = x34)
    (h35 : (IntKind.wrap IntKind.i64 (x32 + x34)) = x36)
    (h37 : (x36 % 256) = x38)
    (h39 : (IntKind.wrap IntKind.i64 (Int.tdiv x36 256)) = x40)
    (h41 : (IntKind.wrap IntKind.i64 s5) = x42)
    (h43 : (IntKind.wrap IntKind.i64 (x40 + x42)) = x44)
    (h45 : (x44 % 256) = x46)
    (h47 : (IntKind.wrap IntKind.i64 (Int.tdiv x44 256)) = x48)
    (h49 : (IntKind.wrap IntKind.i64 s6) = x50)
    (h51 : (IntKind.wrap IntKind.i64 (x48 + x50)) = x52)
    (h53 : (x52 % 256) = x54)
    (h55 : (IntKind.wrap IntKind.i64 (Int.tdiv x52 256)) = x56)
    (h57 : (IntKind.wrap IntKind.i64 s7) = x58)
    (h59 : (IntKind.wrap IntKind.i64 (x56 + x58)) = x60)
    (h61 : (x60 % 256) = x62)
    (h63 : (IntKind.wrap IntKind.i64 (Int.tdiv x60 256)) = x64)
    (h65 : (IntKind.wrap IntKind.i64 s8) = x66)
    (h67 : (IntKind.wrap IntKind.i64 (x64 + x66)) = x68)
    (h69 : (x68 % 256) = x70)
    (h71 : (IntKind.wrap IntKind.i64 (Int.tdiv x68 256)) = x72)
    (h73 : (IntKind.wrap IntKind.i64 s9) = x74)
    (h75 : (IntKind.wrap IntKind.i64 (x72 + x74)) = x76)
    (h77 : (x76 % 256) = x78)
    (h79 : (IntKind.wrap IntKind.i64 (Int.tdiv x76 256)) = x80)
    (h81 : (IntKind.wrap IntKind.i64 s10) = x82)
    (h83 : (IntKind.wrap IntKind.i64 (x80 + x82)) = x84)
    (h85 : (x84 % 256) = x86)
    (h87 : (IntKind.wrap IntKind.i64 (Int.tdiv x84 256)) = x88)
    (h89 : (IntKind.wrap IntKind.i64 s11) = x90)
    (h91 : (IntKind.wrap IntKind.i64 (x88 + x90)) = x92)
    (h93 : (x92 % 256) = x94)
    (h95 : (IntKind.wrap IntKind.i64 (Int.tdiv x92 256)) = x96)
    (h97 : (IntKind.wrap IntKind.i64 s12) = x98)
    (h99 : (IntKind.wrap IntKind.i64 (x96 + x98)) = x100)
    (h101 : (x100 % 256) = x102)
    (h103 : (IntKind.wrap IntKind.i64 (Int.tdiv x100 256)) = x104)
    (h105 : (IntKind.wrap IntKind.i64 s13) = x106)
    (h107 : (IntKind.wrap IntKind.i64 (x104 + x106)) = x108)
    (h109 : (x108 % 256) = x110)
    (h111 : (IntKind.wrap IntKind.i64 (Int.tdiv x108 256)) = x112)
    (h113 : (IntKind.wrap IntKind.i64 s14) = x114)
    (h115 : (IntKind.wrap IntKind.i64 (x112 + x114)) = x116)
    (h117 : (x116 % 256) = x118)
    (h119 : (IntKind.wrap IntKind.i64 (Int.tdiv x116 256)) = x120)
    (h121 : (IntKind.wrap IntKind.i64 s15) = x122)
    (h123 : (IntKind.wrap IntKind.i64 (x120 + x122)) = x124)
    (h125 : (x124 % 256) = x126)
    (h127 : (IntKind.wrap IntKind.i64 (Int.tdiv x124 256)) = x128)
    (c129 : PureF Try.prog 19 [] (.c (.bool (true))))
    (c146 : Contract0 Try.prog 18 [(.aggi .u8 [1, 0, 0, 0, 0, 0, 0, 0, 0, 0, 0, 0, 0, 0, 0, 0, s0, s1, s2, s3, s4, s5, s6, s7, s8, s9, s10, s11, s12, s13, s14, s15]), (.c (.sl 1 0 0 192 1))] [(1, (.one ⟨false, true, (.ints .u8 [1, 0, 0, 0, 0, 0, 0, 0, 0, 0, 0, 0, 0, 0, 0, 0, 2, 0, 0, 0, 0, 0, 0, 0, 0, 0, 0, 0, 0, 0, 0, 0, 3, 0, 0, 0, 0, 0, 0, 0, 0, 0, 0, 0, 0, 0, 0, 0, 4, 0, 0, 0, 0, 0, 0, 0, 0, 0, 0, 0, 0, 0, 0, 0, 5, 0, 0, 0, 0, 0, 0, 0, 0, 0, 0, 0, 0, 0, 0, 0, 6, 0, 0, 0, 0, 0, 0, 0, 0, 0, 0, 0, 0, 0, 0, 0, 7, 0, 0, 0, 0, 0, 0, 0, 0, 0, 0, 0, 0, 0, 0, 0, 8, 0, 0, 0, 0, 0, 0, 0, 0, 0, 0, 0, 0, 0, 0, 0, 9, 0, 0, 0, 0, 0, 0, 0, 0, 0, 0, 0, 0, 0, 0, 0, 10, 0, 0, 0, 0, 0, 0, 0, 0, 0, 0, 0, 0, 0, 0, 0, 11, 0, 0, 0, 0, 0, 0, 0, 0, 0, 0, 0, 0, 0, 0, 0, 12, 0, 0, 0, 0, 0, 0, 0, 0, 0, 0, 0, 0, 0, 0, 0])⟩))] 2 (.aggi .u8 [r18_130, r18_131, r18_132, r18_133, r18_134, r18_135, r18_136, r18_137, r18_138, r18_139, r18_140, r18_141, r18_142, r18_143, r18_144, r18_145]) [] [])
    (h147 : ([r18_130, r18_131, r18_132, r18_133, r18_134, r18_135, r18_136, r18_137, r18_138, r18_139, r18_140, r18_141, r18_142, r18_143, r18_144, r18_145] == List.take 16 (List.drop 0 (splice (splice (splice (splice (splice (splice (splice (splice (splice (splice (splice (splice (splice (splice (splice (splice (splice [0, 0, 0, 0, 0, 0, 0, 0, 0, 0, 0, 0, 0, 0, 0, 0] 0 (List.take 16 (List.drop 0 [s0, s1, s2, s3, s4, s5, s6, s7, s8, s9, s10, s11, s12, s13, s14, s15]))) 0 [x6]) 1 [x14]) 2 [x22]) 3 [x30]) 4 [x38]) 5 [x46]) 6 [x54]) 7 [x62]) 8 [x70]) 9 [x78]) 10 [x86]) 11 [x94]) 12 [x102]) 13 [x110]) 14 [x118]) 15 [x126]))) = true)   :
    PureF Try.prog 7 [(.aggi .u8 [s0, s1, s2, s3, s4, s5, s6, s7, s8, s9, s10, s11, s12, s13, s14, s15]), (.c (.int .i64 n))] (.c (.bool (true))) :=
  Contract0.of_frun (fn := Try.f7) (c := bodyOf Try.f7) (fuel := 5000) (k := kOf Try.prog Try.f7) (outs := []) (hs := [(3, ⟨.call [] (.c (.int .i64 12)) [] [], none⟩), (283, ⟨.auto, some (.c (.int .i64 x2))⟩), (284, ⟨.auto, some (.c (.int .i64 x4))⟩), (288, ⟨.auto, some (.c (.int .u8 x6))⟩), (292, ⟨.auto, some (.c (.int .i64 x8))⟩), (304, ⟨.auto, some (.c (.int .i64 x10))⟩), (305, ⟨.auto, some (.c (.int .i64 x12))⟩), (309, ⟨.auto, some (.c (.int .u8 x14))⟩), (313, ⟨.auto, some (.c (.int .i64 x16))⟩), (325, ⟨.auto, some (.c (.int .i64 x18))⟩), (326, ⟨.auto, some (.c (.int .i64 x20))⟩), (330, ⟨.auto, some (.c (.int .u8 x22))⟩), (334, ⟨.auto, some (.c (.int .i64 x24))⟩), (346, ⟨.auto, some (.c (.int .i64 x26))⟩), (347, ⟨.auto, some (.c (.int .i64 x28))⟩), (351, ⟨.auto, some (.c (.int .u8 x30))⟩), (355, ⟨.auto, some (.c (.int .i64 x32))⟩), (367, ⟨.auto, some (.c (.int .i64 x34))⟩), (368, ⟨.auto, some (.c (.int .i64 x36))⟩), (372, ⟨.auto, some (.c (.int .u8 x38))⟩), (376, ⟨.auto, some (.c (.int .i64 x40))⟩), (388, ⟨.auto, some (.c (.int .i64 x42))⟩), (389, ⟨.auto, some (.c (.int .i64 x44))⟩), (393, ⟨.auto, some (.c (.int .u8 x46))⟩), (397, ⟨.auto, some (.c (.int .i64 x48))⟩), (409, ⟨.auto, some (.c (.int .i64 x50))⟩), (410, ⟨.auto, some (.c (.int .i64 x52))⟩), (414, ⟨.auto, some (.c (.int .u8 x54))⟩), (418, ⟨.auto, some (.c (.int .i64 x56))⟩), (430, ⟨.auto, some (.c (.int .i64 x58))⟩), (431, ⟨.auto, some (.c (.int .i64 x60))⟩), (435, ⟨.auto, some (.c (.int .u8 x62))⟩), (439, ⟨.auto, some (.c (.int .i64 x64))⟩), (451, ⟨.auto, some (.c (.int .i64 x66))⟩), (452, ⟨.auto, some (.c (.int .i64 x68))⟩), (456, ⟨.auto, some (.c (.int .u8 x70))⟩), (460, ⟨.auto, some (.c (.int .i64 x72))⟩), (472, ⟨.auto, some (.c (.int .i64 x74))⟩), (473, ⟨.auto, some (.c (.int .i64 x76))⟩), (477, ⟨.auto, some (.c (.int .u8 x78))⟩), (481, ⟨.auto, some (.c (.int .i64 x80))⟩), (493, ⟨.auto, some (.c (.int .i64 x82))⟩), (494, ⟨.auto, some (.c (.int .i64 x84))⟩), (498, ⟨.auto, some (.c (.int .u8 x86))⟩), (502, ⟨.auto, some (.c (.int .i64 x88))⟩), (514, ⟨.auto, some (.c (.int .i64 x90))⟩), (515, ⟨.auto, some (.c (.int .i64 x92))⟩), (519, ⟨.auto, some (.c (.int .u8 x94))⟩), (523, ⟨.auto, some (.c (.int .i64 x96))⟩), (535, ⟨.auto, some (.c (.int .i64 x98))⟩), (536, ⟨.auto, some (.c (.int .i64 x100))⟩), (540, ⟨.auto, some (.c (.int .u8 x102))⟩), (544, ⟨.auto, some (.c (.int .i64 x104))⟩), (556, ⟨.auto, some (.c (.int .i64 x106))⟩), (557, ⟨.auto, some (.c (.int .i64 x108))⟩), (561, ⟨.auto, some (.c (.int .u8 x110))⟩), (565, ⟨.auto, some (.c (.int .i64 x112))⟩), (577, ⟨.auto, some (.c (.int .i64 x114))⟩), (578, ⟨.auto, some (.c (.int .i64 x116))⟩), (582, ⟨.auto, some (.c (.int .u8 x118))⟩), (586, ⟨.auto, some (.c (.int .i64 x120))⟩), (598, ⟨.auto, some (.c (.int .i64 x122))⟩), (599, ⟨.auto, some (.c (.int .i64 x124))⟩), (603, ⟨.auto, some (.c (.int .u8 x126))⟩), (607, ⟨.auto, some (.c (.int .i64 x128))⟩), (615, ⟨.call [] (.c (.bool (true))) [] [], none⟩), (619, ⟨.call [209] (.aggi .u8 [r18_130, r18_131, r18_132, r18_133, r18_134, r18_135, r18_136, r18_137, r18_138, r18_139, r18_140, r18_141, r18_142, r18_143, r18_144, r18_145]) [] [], none⟩), (621, ⟨.auto, some (.c (.bool (true)))⟩)])
    (cs := [EB ([r18_130, r18_131, r18_132, r18_133, r18_134, r18_135, r18_136, r18_137, r18_138, r18_139, r18_140, r18_141, r18_142, r18_143, r18_144, r18_145] == List.take 16 (List.drop 0 (splice (splice (splice (splice (splice (splice (splice (splice (splice (splice (splice (splice (splice (splice (splice (splice (splice [0, 0, 0, 0, 0, 0, 0, 0, 0, 0, 0, 0, 0, 0, 0, 0] 0 (List.take 16 (List.drop 0 [s0, s1, s2, s3, s4, s5, s6, s7, s8, s9, s10, s11, s12, s13, s14, s15]))) 0 [x6]) 1 [x14]) 2 [x22]) 3 [x30]) 4 [x38]) 5 [x46]) 6 [x54]) 7 [x62]) 8 [x70]) 9 [x78]) 10 [x86]) 11 [x94]) 12 [x102]) 13 [x110]) 14 [x118]) 15 [x126]))) true,
      Contract Try.prog 18 [(.aggi .u8 [1, 0, 0, 0, 0, 0, 0, 0, 0, 0, 0, 0, 0, 0, 0, 0, s0, s1, s2, s3, s4, s5, s6, s7, s8, s9, s10, s11, s12, s13, s14, s15]), (.c (.sl 209 0 0 192 1))] [(209, (.one ⟨true, true, (.ints .u8 [1, 0, 0, 0, 0, 0, 0, 0, 0, 0, 0, 0, 0, 0, 0, 0, 2, 0, 0, 0, 0, 0, 0, 0, 0, 0, 0, 0, 0, 0, 0, 0, 3, 0, 0, 0, 0, 0, 0, 0, 0, 0, 0, 0, 0, 0, 0, 0, 4, 0, 0, 0, 0, 0, 0, 0, 0, 0, 0, 0, 0, 0, 0, 0, 5, 0, 0, 0, 0, 0, 0, 0, 0, 0, 0, 0, 0, 0, 0, 0, 6, 0, 0, 0, 0, 0, 0, 0, 0, 0, 0, 0, 0, 0, 0, 0, 7, 0, 0, 0, 0, 0, 0, 0, 0, 0, 0, 0, 0, 0, 0, 0, 8, 0, 0, 0, 0, 0, 0, 0, 0, 0, 0, 0, 0, 0, 0, 0, 9, 0, 0, 0, 0, 0, 0, 0, 0, 0, 0, 0, 0, 0, 0, 0, 10, 0, 0, 0, 0, 0, 0, 0, 0, 0, 0, 0, 0, 0, 0, 0, 11, 0, 0, 0, 0, 0, 0, 0, 0, 0, 0, 0, 0, 0, 0, 0, 12, 0, 0, 0, 0, 0, 0, 0, 0, 0, 0, 0, 0, 0, 0, 0])⟩))] 9425 (.aggi .u8 [r18_130, r18_131, r18_132, r18_133, r18_134, r18_135, r18_136, r18_137, r18_138, r18_139, r18_140, r18_141, r18_142, r18_143, r18_144, r18_145]) [] [],
      Contract Try.prog 19 [] [] 9361 (.c (.bool (true))) [] [],
      EI .i64 (IntKind.wrap IntKind.i64 (Int.tdiv x124 256)) x128,
      EI .u8 (x124 % 256) x126,
      EI .i64 (IntKind.wrap IntKind.i64 (x120 + x122)) x124,
      EI .i64 (IntKind.wrap IntKind.i64 s15) x122,
      EI .i64 (IntKind.wrap IntKind.i64 (Int.tdiv x116 256)) x120,
      EI .u8 (x116 % 256) x118,
      EI .i64 (IntKind.wrap IntKind.i64 (x112 + x114)) x116,
      EI .i64 (IntKind.wrap IntKind.i64 s14) x114,
      EI .i64 (IntKind.wrap IntKind.i64 (Int.tdiv x108 256)) x112,
      EI .u8 (x108 % 256) x110,
      EI .i64 (IntKind.wrap IntKind.i64 (x104 + x106)) x108,
      EI .i64 (IntKind.wrap IntKind.i64 s13) x106,
      EI .i64 (IntKind.wrap IntKind.i64 (Int.tdiv x100 256)) x104,
      EI .u8 (x100 % 256) x102,
      EI .i64 (IntKind.wrap IntKind.i64 (x96 + x98)) x100,
      EI .i64 (IntKind.wrap IntKind.i64 s12) x98,
      EI .i64 (IntKind.wrap IntKind.i64 (Int.tdiv x92 256)) x96,
      EI .u8 (x92 % 256) x94,
      EI .i64 (IntKind.wrap IntKind.i64 (x88 + x90)) x92,
      EI .i64 (IntKind.wrap IntKind.i64 s11) x90,
      EI .i64 (IntKind.wrap IntKind.i64 (Int.tdiv x84 256)) x88,
      EI .u8 (x84 % 256) x86,
      EI .i64 (IntKind.wrap IntKind.i64 (x80 + x82)) x84,
      EI .i64 (IntKind.wrap IntKind.i64 s10) x82,
      EI .i64 (IntKind.wrap IntKind.i64 (Int.tdiv x76 256)) x80,
      EI .u8 (x76 % 256) x78,
      EI .i64 (IntKind.wrap IntKind.i64 (x72 + x74)) x76,
      EI .i64 (IntKind.wrap IntKind.i64 s9) x74,
      EI .i64 (IntKind.wrap IntKind.i64 (Int.tdiv x68 256)) x72,
      EI .u8 (x68 % 256) x70,
      EI .i64 (IntKind.wrap IntKind.i64 (x64 + x66)) x68,
      EI .i64 (IntKind.wrap IntKind.i64 s8) x66,
      EI .i64 (IntKind.wrap IntKind.i64 (Int.tdiv x60 256)) x64,
      EI .u8 (x60 % 256) x62,
      EI .i64 (IntKind.wrap IntKind.i64 (x56 + x58)) x60,
      EI .i64 (IntKind.wrap IntKind.i64 s7) x58,
      EI .i64 (IntKind.wrap IntKind.i64 (Int.tdiv x52 256)) x56,
      EI .u8 (x52 % 256) x54,
      EI .i64 (IntKind.wrap IntKind.i64 (x48 + x50)) x52,
      EI .i64 (IntKind.wrap IntKind.i64 s6) x50,
      EI .i64 (IntKind.wrap IntKind.i64 (Int.tdiv x44 256)) x48,
      EI .u8 (x44 % 256) x46,
      EI .i64 (IntKind.wrap IntKind.i64 (x40 + x42)) x44,
      EI .i64 (IntKind.wrap IntKind.i64 s5) x42,
      EI .i64 (IntKind.wrap IntKind.i64 (Int.tdiv x36 256)) x40,
      EI .u8 (x36 % 256) x38,
      EI .i64 (IntKind.wrap IntKind.i64 (x32 + x34)) x36,
      EI .i64 (IntKind.wrap IntKind.i64 s4) x34,
      EI .i64 (IntKind.wrap IntKind.i64 (Int.tdiv x28 256)) x32,
      EI .u8 (x28 % 256) x30,
      EI .i64 (IntKind.wrap IntKind.i64 (x24 + x26)) x28,
      EI .i64 (IntKind.wrap IntKind.i64 s3) x26,
      EI .i64 (IntKind.wrap IntKind.i64 (Int.tdiv x20 256)) x24,
      EI .u8 (x20 % 256) x22,
      EI .i64 (IntKind.wrap IntKind.i64 (x16 + x18)) x20,
      EI .i64 (IntKind.wrap IntKind.i64 s2) x18,
      EI .i64 (IntKind.wrap IntKind.i64 (Int.tdiv x12 256)) x16,
      EI .u8 (x12 % 256) x14,
      EI .i64 (IntKind.wrap IntKind.i64 (x8 + x10)) x12,
      EI .i64 (IntKind.wrap IntKind.i64 s1) x10,
      EI .i64 (IntKind.wrap IntKind.i64 (Int.tdiv x4 256)) x8,
      EI .u8 (x4 % 256) x6,
      EI .i64 (IntKind.wrap IntKind.i64 (93 + x2)) x4,
      EI .i64 (IntKind.wrap IntKind.i64 s0) x2,
      Contract Try.prog 21 [(.c (.int .i64 n)), (.c (.int .i64 20))] [] 49 (.c (.int .i64 12)) [] []])
    mixed Try.func7 (by kernel_rfl) (by kernel_rfl) (by kernel_rfl) rfl (by kernel_rfl) ⟨.mk h147, c146.ro [(209, (1, true))] rfl (by kernel_rfl) rfl (by kernel_rfl) rfl rfl _, c129.use (by kernel_rfl) rfl rfl _ _, .mk h127, .mk h125, .mk h123, .mk h121, .mk h119, .mk h117, .mk h115, .mk h113, .mk h111, .mk h109, .mk h107, .mk h105, .mk h103, .mk h101, .mk h99, .mk h97, .mk h95, .mk h93, .mk h91, .mk h89, .mk h87, .mk h85, .mk h83, .mk h81, .mk h79, .mk h77, .mk h75, .mk h73, .mk h71, .mk h69, .mk h67, .mk h65, .mk h63, .mk h61, .mk h59, .mk h57, .mk h55, .mk h53, .mk h51, .mk h49, .mk h47, .mk h45, .mk h43, .mk h41, .mk h39, .mk h37, .mk h35, .mk h33, .mk h31, .mk h29, .mk h27, .mk h25, .mk h23, .mk h21, .mk h19, .mk h17, .mk h15, .mk h13, .mk h11, .mk h9, .mk h7, .mk h5, .mk h3, .mk h1, c0.use (by kernel_rfl) rfl rfl _ _, trivial⟩

theorem run7_13 (s0 s1 s2 s3 s4 s5 s6 s7 s8 s9 s10 s11 s12 s13 s14 s15 n x2 x4 x6 x8 x10 x12 x14 x16 x18 x20 x22 x24 x26 x28 x30 x32 x34 x36 x38 x40 x42 x44 x46 x48 x50 x52 x54 x56 x58 x60 x62 x64 x66 x68 x70 x72 x74 x76 x78 x80 x82 x84 x86 x88 x90 x92 x94 x96 x98 x100 x102 x104 x106 x108 x110 x112 x114 x116 x118 x120 x122 x124 x126 x128 r18_130 r18_131 r18_132 r18_133 r18_134 r18_135 r18_136 r18_137 r18_138 r18_139 r18_140 r18_141 r18_142 r18_143 r18_144 r18_145 : Int)
    (c0 : PureF Try.prog 21 [(.c (.int .i64 n)), (.c (.int .i64 20))] (.c (.int .i64 13)))
    (h1 : (IntKind.wrap IntKind.i64 s0) = x2)
    (h3 : (IntKind.wrap IntKind.i64 (106 + x2)) = x4)
    (h5 : (x4 % 256) = x6)
    (h7 : (IntKind.wrap IntKind.i64 (Int.tdiv x4 256)) = x8)
    (h9 : (IntKind.wrap IntKind.i64 s1) = x10)
    (h11 : (IntKind.wrap IntKind.i64 (x8 + x10)) = x12)
    (h13 : (x12 % 256) = x14)
    (h15 : (IntKind.wrap IntKind.i64 (Int.tdiv x12 256)) = x16)
    (h17 : (IntKind.wrap IntKind.i64 s2) = x18)
    (h19 : (IntKind.wrap IntKind.i64 (x16 + x18)) = x20)
    (h21 : (x20 % 256) = x22)
    (h23 : (IntKind.wrap IntKind.i64 (Int.tdiv x20 256)) = x24)
    (h25 : (IntKind.wrap IntKind.i64 s3) = x26)
    (h27 : (IntKind.wrap IntKind.i64 (x24 + x26)) = x28)
    (h29 : (x28 % 256) = x30)
    (h31 : (IntKind.wrap IntKind.i64 (Int.tdiv x28 256)) = x32)
    (h33 : (IntKind.wrap IntKind.i64 s4) = x34)
    (h35 : (IntKind.wrap IntKind.i64 (x32 + x34)) = x36)
    (h37 : (x36 % 256) = x38)
    (h39 : (IntKind.wrap IntKind.i64 (Int.tdiv x36 256)) = x40)
    (h41 : (IntKind.wrap IntKind.i64 s5) = x42)
    (h43 : (IntKind.wrap IntKind.i64 (x40 + x42)) = x44)
    (h45 : (x44 % 256) = x46)
    (h47 : (IntKind.wrap IntKind.i64 (Int.tdiv x44 256)) = x48)
    (h49 : (IntKind.wrap IntKind.i64 s6) = x50)
    (h51 : (IntKind.wrap IntKind.i64 (x48 + x50)) = x52)
    (h53 : (x52 % 256) = x54)
    (h55 : (IntKind.wrap IntKind.i64 (Int.tdiv x52 256)) = x56)
    (h57 : (IntKind.wrap IntKind.i64 s7) = x58)
    (h59 : (IntKind.wrap IntKind.i64 (x56 + x58)) = x60)
    (h61 : (x60 % 256) = x62)
    (h63 : (IntKind.wrap IntKind.i64 (Int.tdiv x60 256)) = x64)
    (h65 : (IntKind.wrap IntKind.i64 s8) = x66)
    (h67 : (IntKind.wrap IntKind.i64 (x64 + x66)) = x68)
    (h69 : (x68 % 256) = x70)
    (h71 : (IntKind.wrap IntKind.i64 (Int.tdiv x68 256)) = x72)
    (h73 : (IntKind.wrap IntKind.i64 s9) = x74)
    (h75 : (IntKind.wrap IntKind.i64 (x72 + x74)) = x76)
    (h77 : (x76 % 256) = x78)
    (h79 : (IntKind.wrap IntKind.i64 (Int.tdiv x76 256)) = x80)
    (h81 : (IntKind.wrap IntKind.i64 s10) = x82)
    (h83 : (IntKind.wrap IntKind.i64 (x80 + x82)) = x84)
    (h85 : (x84 % 256) = x86)
    (h87 : (IntKind.wrap IntKind.i64 (Int.tdiv x84 256)) = x88)
    (h89 : (IntKind.wrap IntKind.i64 s11) = x90)
    (h91 : (IntKind.wrap IntKind.i64 (x88 + x90)) = x92)
    (h93 : (x92 % 256) = x94)
    (h95 : (IntKind.wrap IntKind.i64 (Int.tdiv x92 256)) = x96)
    (h97 : (IntKind.wrap IntKind.i64 s12) = x98)
    (h99 : (IntKind.wrap IntKind.i64 (x96 + x98)) = x100)
    (h101 : (x100 % 256) = x102)
    (h103 : (IntKind.wrap IntKind.i64 (Int.tdiv x100 256)) = x104)
    (h105 : (IntKind.wrap IntKind.i64 s13) = x106)
    (h107 : (IntKind.wrap IntKind.i64 (x104 + x106)) = x108)
    (h109 : (x108 % 256) = x110)
    (h111 : (IntKind.wrap IntKind.i64 (Int.tdiv x108 256)) = x112)
    (h113 : (IntKind.wrap IntKind.i64 s14) = x114)
    (h115 : (IntKind.wrap IntKind.i64 (x112 + x114)) = x116)
    (h117 : (x116 % 256) = x118)
    (h119 : (IntKind.wrap IntKind.i64 (Int.tdiv x116 256)) = x120)
    (h121 : (IntKind.wrap IntKind.i64 s15) = x122)
    (h123 : (IntKind.wrap IntKind.i64 (x120 + x122)) = x124)
    (h125 : (x124 % 256) = x126)
    (h127 : (IntKind.wrap IntKind.i64 (Int.tdiv x124 256)) = x128)
    (c129 : PureF Try.prog 19 [] (.c (.bool (true))))
    (c146 : Contract0 Try.prog 18 [(.aggi .u8 [1, 0, 0, 0, 0, 0, 0, 0, 0, 0, 0, 0, 0, 0, 0, 0, s0, s1, s2, s3, s4, s5, s6, s7, s8, s9, s10, s11, s12, s13, s14, s15]), (.c (.sl 1 0 0 208 1))] [(1, (.one ⟨false, true, (.ints .u8 [1, 0, 0, 0, 0, 0, 0, 0, 0, 0, 0, 0, 0, 0, 0, 0, 2, 0, 0, 0, 0, 0, 0, 0, 0, 0, 0, 0, 0, 0, 0, 0, 3, 0, 0, 0, 0, 0, 0, 0, 0, 0, 0, 0, 0, 0, 0, 0, 4, 0, 0, 0, 0, 0, 0, 0, 0, 0, 0, 0, 0, 0, 0, 0, 5, 0, 0, 0, 0, 0, 0, 0, 0, 0, 0, 0, 0, 0, 0, 0, 6, 0, 0, 0, 0, 0, 0, 0, 0, 0, 0, 0, 0, 0, 0, 0, 7, 0, 0, 0, 0, 0, 0, 0, 0, 0, 0, 0, 0, 0, 0, 0, 8, 0, 0, 0, 0, 0, 0, 0, 0, 0, 0, 0, 0, 0, 0, 0, 9, 0, 0, 0, 0, 0, 0, 0, 0, 0, 0, 0, 0, 0, 0, 0, 10, 0, 0, 0, 0, 0, 0, 0, 0, 0, 0, 0, 0, 0, 0, 0, 11, 0, 0, 0, 0, 0, 0, 0, 0, 0, 0, 0, 0, 0, 0, 0, 12, 0, 0, 0, 0, 0, 0, 0, 0, 0, 0, 0, 0, 0, 0, 0, 13, 0, 0, 0, 0, 0, 0, 0, 0, 0, 0, 0, 0, 0, 0, 0])⟩))] 2 (.aggi .u8 [r18_130, r18_131, r18_132, r18_133, r18_134, r18_135, r18_136, r18_137, r18_138, r18_139, r18_140, r18_141, r18_142, r18_143, r18_144, r18_145]) [] [])
    (h147 : ([r18_130, r18_131, r18_132, r18_133, r18_134, r18_135, r18_136, r18_137, r18_138, r18_139, r18_140, r18_141, r18_142, r18_143, r18_144, r18_145] == List.take 16 (List.drop 0 (splice (splice (splice (splice (splice (splice (splice (splice (splice (splice (splice (splice (splice (splice (splice (splice (splice [0, 0, 0, 0, 0, 0, 0, 0, 0, 0, 0, 0, 0, 0, 0, 0] 0 (List.take 16 (List.drop 0 [s0, s1, s2, s3, s4, s5, s6, s7, s8, s9, s10, s11, s12, s13, s14, s15]))) 0 [x6]) 1 [x14]) 2 [x22]) 3 [x30]) 4 [x38]) 5 [x46]) 6 [x54]) 7 [x62]) 8 [x70]) 9 [x78]) 10 [x86]) 11 [x94]) 12 [x102]) 13 [x110]) 14 [x118]) 15 [x126]))) = true)   :
    PureF Try.prog 7 [(.aggi .u8 [s0, s1, s2, s3, s4, s5, s6, s7, s8, s9, s10, s11, s12, s13, s14, s15]), (.c (.int .i64 n))] (.c (.bool (true))) :=
  Contract0.of_frun (fn := Try.f7) (c := bodyOf Try.f7) (fuel := 5000) (k := kOf Try.prog Try.f7) (outs := []) (hs := [(3, ⟨.call [] (.c (.int .i64 13)) [] [], none⟩), (303, ⟨.auto, some (.c (.int .i64 x2))⟩), (304, ⟨.auto, some (.c (.int .i64 x4))⟩), (308, ⟨.auto, some (.c (.int .u8 x6))⟩), (312, ⟨.auto, some (.c (.int .i64 x8))⟩), (324, ⟨.auto, some (.c (.int .i64 x10))⟩), (325, ⟨.auto, some (.c (.int .i64 x12))⟩), (329, ⟨.auto, some (.c (.int .u8 x14))⟩), (333, ⟨.auto, some (.c (.int .i64 x16))⟩), (345, ⟨.auto, some (.c (.int .i64 x18))⟩), (346, ⟨.auto, some (.c (.int .i64 x20))⟩), (350, ⟨.auto, some (.c (.int .u8 x22))⟩), (354, ⟨.auto, some (.c (.int .i64 x24))⟩), (366, ⟨.auto, some (.c (.int .i64 x26))⟩), (367, ⟨.auto, some (.c (.int .i64 x28))⟩), (371, ⟨.auto, some (.c (.int .u8 x30))⟩), (375, ⟨.auto, some (.c (.int .i64 x32))⟩), (387, ⟨.auto, some (.c (.int .i64 x34))⟩), (388, ⟨.auto, some (.c (.int .i64 x36))⟩), (392, ⟨.auto, some (.c (.int .u8 x38))⟩), (396, ⟨.auto, some (.c (.int .i64 x40))⟩), (408, ⟨.auto, some (.c (.int .i64 x42))⟩), (409, ⟨.auto, some (.c (.int .i64 x44))⟩), (413, ⟨.auto, some (.c (.int .u8 x46))⟩), (417, ⟨.auto, some (.c (.int .i64 x48))⟩), (429, ⟨.auto, some (.c (.int .i64 x50))⟩), (430, ⟨.auto, some (.c (.int .i64 x52))⟩), (434, ⟨.auto, some (.c (.int .u8 x54))⟩), (438, ⟨.auto, some (.c (.int .i64 x56))⟩), (450, ⟨.auto, some (.c (.int .i64 x58))⟩), (451, ⟨.auto, some (.c (.int .i64 x60))⟩), (455, ⟨.auto, some (.c (.int .u8 x62))⟩), (459, ⟨.auto, some (.c (.int .i64 x64))⟩), (471, ⟨.auto, some (.c (.int .i64 x66))⟩), (472, ⟨.auto, some (.c (.int .i64 x68))⟩), (476, ⟨.auto, some (.c (.int .u8 x70))⟩), (480, ⟨.auto, some (.c (.int .i64 x72))⟩), (492, ⟨.auto, some (.c (.int .i64 x74))⟩), (493, ⟨.auto, some (.c (.int .i64 x76))⟩), (497, ⟨.auto, some (.c (.int .u8 x78))⟩), (501, ⟨.auto, some (.c (.int .i64 x80))⟩), (513, ⟨.auto, some (.c (.int .i64 x82))⟩), (514, ⟨.auto, some (.c (.int .i64 x84))⟩), (518, ⟨.auto, some (.c (.int .u8 x86))⟩), (522, ⟨.auto, some (.c (.int .i64 x88))⟩), (534, ⟨.auto, some (.c (.int .i64 x90))⟩), (535, ⟨.auto, some (.c (.int .i64 x92))⟩), (539, ⟨.auto, some (.c (.int .u8 x94))⟩), (543, ⟨.auto, some (.c (.int .i64 x96))⟩), (555, ⟨.auto, some (.c (.int .i64 x98))⟩), (556, ⟨.auto, some (.c (.int .i64 x100))⟩), (560, ⟨.auto, some (.c (.int .u8 x102))⟩), (564, ⟨.auto, some (.c (.int .i64 x104))⟩), (576, ⟨.auto, some (.c (.int .i64 x106))⟩), (577, ⟨.auto, some (.c (.int .i64 x108))⟩), (581, ⟨.auto, some (.c (.int .u8 x110))⟩), (585, ⟨.auto, some (.c (.int .i64 x112))⟩), (597, ⟨.auto, some (.c (.int .i64 x114))⟩), (598, ⟨.auto, some (.c (.int .i64 x116))⟩), (602, ⟨.auto, some (.c (.int .u8 x118))⟩), (606, ⟨.auto, some (.c (.int .i64 x120))⟩), (618, ⟨.auto, some (.c (.int .i64 x122))⟩), (619, ⟨.auto, some (.c (.int .i64 x124))⟩), (623, ⟨.auto, some (.c (.int .u8 x126))⟩), (627, ⟨.auto, some (.c (.int .i64 x128))⟩), (635, ⟨.call [] (.c (.bool (true))) [] [], none⟩), (639, ⟨.call [209] (.aggi .u8 [r18_130, r18_131, r18_132, r18_133, r18_134, r18_135, r18_136, r18_137, r18_138, r18_139, r18_140, r18_141, r18_142, r18_143, r18_144, r18_145]) [] [], none⟩), (641, ⟨.auto, some (.c (.bool (true)))⟩)])
    (cs := [EB ([r18_130, r18_131, r18_132, r18_133, r18_134, r18_135, r18_136, r18_137, r18_138, r18_139, r18_140, r18_141, r18_142, r18_143, r18_144, r18_145] == List.take 16 (List.drop 0 (splice (splice (splice (splice (splice (splice (splice (splice (splice (splice (splice (splice (splice (splice (splice (splice (splice [0, 0, 0, 0, 0, 0, 0, 0, 0, 0, 0, 0, 0, 0, 0, 0] 0 (List.take 16 (List.drop 0 [s0, s1, s2, s3, s4, s5, s6, s7, s8, s9, s10, s11, s12, s13, s14, s15]))) 0 [x6]) 1 [x14]) 2 [x22]) 3 [x30]) 4 [x38]) 5 [x46]) 6 [x54]) 7 [x62]) 8 [x70]) 9 [x78]) 10 [x86]) 11 [x94]) 12 [x102]) 13 [x110]) 14 [x118]) 15 [x126]))) true,
      Contract Try.prog 18 [(.aggi .u8 [1, 0, 0, 0, 0, 0, 0, 0, 0, 0, 0, 0, 0, 0, 0, 0, s0, s1, s2, s3, s4, s5, s6, s7, s8, s9, s10, s11, s12, s13, s14, s15]), (.c (.sl 209 0 0 208 1))] [(209, (.one ⟨true, true, (.ints .u8 [1, 0, 0, 0, 0, 0, 0, 0, 0, 0, 0, 0, 0, 0, 0, 0, 2, 0, 0, 0, 0, 0, 0, 0, 0, 0, 0, 0, 0, 0, 0, 0, 3, 0, 0, 0, 0, 0, 0, 0, 0, 0, 0, 0, 0, 0, 0, 0, 4, 0, 0, 0, 0, 0, 0, 0, 0, 0, 0, 0, 0, 0, 0, 0, 5, 0, 0, 0, 0, 0, 0, 0, 0, 0, 0, 0, 0, 0, 0, 0, 6, 0, 0, 0, 0, 0, 0, 0, 0, 0, 0, 0, 0, 0, 0, 0, 7, 0, 0, 0, 0, 0, 0, 0, 0, 0, 0, 0, 0, 0, 0, 0, 8, 0, 0, 0, 0, 0, 0, 0, 0, 0, 0, 0, 0, 0, 0, 0, 9, 0, 0, 0, 0, 0, 0, 0, 0, 0, 0, 0, 0, 0, 0, 0, 10, 0, 0, 0, 0, 0, 0, 0, 0, 0, 0, 0, 0, 0, 0, 0, 11, 0, 0, 0, 0, 0, 0, 0, 0, 0, 0, 0, 0, 0, 0, 0, 12, 0, 0, 0, 0, 0, 0, 0, 0, 0, 0, 0, 0, 0, 0, 0, 13, 0, 0, 0, 0, 0, 0, 0, 0, 0, 0, 0, 0, 0, 0, 0])⟩))] 9729 (.aggi .u8 [r18_130, r18_131, r18_132, r18_133, r18_134, r18_135, r18_136, r18_137, r18_138, r18_139, r18_140, r18_141, r18_142, r18_143, r18_144, r18_145]) [] [],
      Contract Try.prog 19 [] [] 9665 (.c (.bool (true))) [] [],
      EI .i64 (IntKind.wrap IntKind.i64 (Int.tdiv x124 256)) x128,
      EI .u8 (x124 % 256) x126,
      EI .i64 (IntKind.wrap IntKind.i64 (x120 + x122)) x124,
      EI .i64 (IntKind.wrap IntKind.i64 s15) x122,
      EI .i64 (IntKind.wrap IntKind.i64 (Int.tdiv x116 256)) x120,
      EI .u8 (x116 % 256) x118,
      EI .i64 (IntKind.wrap IntKind.i64 (x112 + x114)) x116,
      EI .i64 (IntKind.wrap IntKind.i64 s14) x114,
      EI .i64 (IntKind.wrap IntKind.i64 (Int.tdiv x108 256)) x112,
      EI .u8 (x108 % 256) x110,
      EI .i64 (IntKind.wrap IntKind.i64 (x104 + x106)) x108,
      EI .i64 (IntKind.wrap IntKind.i64 s13) x106,
      EI .i64 (IntKind.wrap IntKind.i64 (Int.tdiv x100 256)) x104,
      EI .u8 (x100 % 256) x102,
      EI .i64 (IntKind.wrap IntKind.i64 (x96 + x98)) x100,
      EI .i64 (IntKind.wrap IntKind.i64 s12) x98,
      EI .i64 (IntKind.wrap IntKind.i64 (Int.tdiv x92 256)) x96,
      EI .u8 (x92 % 256) x94,
      EI .i64 (IntKind.wrap IntKind.i64 (x88 + x90)) x92,
      EI .i64 (IntKind.wrap IntKind.i64 s11) x90,
      EI .i64 (IntKind.wrap IntKind.i64 (Int.tdiv x84 256)) x88,
      EI .u8 (x84 % 256) x86,
      EI .i64 (IntKind.wrap IntKind.i64 (x80 + x82)) x84,
      EI .i64 (IntKind.wrap IntKind.i64 s10) x82,
      EI .i64 (IntKind.wrap IntKind.i64 (Int.tdiv x76 256)) x80,
      EI .u8 (x76 % 256) x78,
      EI .i64 (IntKind.wrap IntKind.i64 (x72 + x74)) x76,
      EI .i64 (IntKind.wrap IntKind.i64 s9) x74,
      EI .i64 (IntKind.wrap IntKind.i64 (Int.tdiv x68 256)) x72,
      EI .u8 (x68 % 256) x70,
      EI .i64 (IntKind.wrap IntKind.i64 (x64 + x66)) x68,
      EI .i64 (IntKind.wrap IntKind.i64 s8) x66,
      EI .i64 (IntKind.wrap IntKind.i64 (Int.tdiv x60 256)) x64,
      EI .u8 (x60 % 256) x62,
      EI .i64 (IntKind.wrap IntKind.i64 (x56 + x58)) x60,
      EI .i64 (IntKind.wrap IntKind.i64 s7) x58,
      EI .i64 (IntKind.wrap IntKind.i64 (Int.tdiv x52 256)) x56,
      EI .u8 (x52 % 256) x54,
      EI .i64 (IntKind.wrap IntKind.i64 (x48 + x50)) x52,
      EI .i64 (IntKind.wrap IntKind.i64 s6) x50,
      EI .i64 (IntKind.wrap IntKind.i64 (Int.tdiv x44 256)) x48,
      EI .u8 (x44 % 256) x46,
      EI .i64 (IntKind.wrap IntKind.i64 (x40 + x42)) x44,
      EI .i64 (IntKind.wrap IntKind.i64 s5) x42,
      EI .i64 (IntKind.wrap IntKind.i64 (Int.tdiv x36 256)) x40,
      EI .u8 (x36 % 256) x38,
      EI .i64 (IntKind.wrap IntKind.i64 (x32 + x34)) x36,
      EI .i64 (IntKind.wrap IntKind.i64 s4) x34,
      EI .i64 (IntKind.wrap IntKind.i64 (Int.tdiv x28 256)) x32,
      EI .u8 (x28 % 256) x30,
      EI .i64 (IntKind.wrap IntKind.i64 (x24 + x26)) x28,
      EI .i64 (IntKind.wrap IntKind.i64 s3) x26,
      EI .i64 (IntKind.wrap IntKind.i64 (Int.tdiv x20 256)) x24,
      EI .u8 (x20 % 256) x22,
      EI .i64 (IntKind.wrap IntKind.i64 (x16 + x18)) x20,
      EI .i64 (IntKind.wrap IntKind.i64 s2) x18,
      EI .i64 (IntKind.wrap IntKind.i64 (Int.tdiv x12 256)) x16,
      EI .u8 (x12 % 256) x14,
      EI .i64 (IntKind.wrap IntKind.i64 (x8 + x10)) x12,
      EI .i64 (IntKind.wrap IntKind.i64 s1) x10,
      EI .i64 (IntKind.wrap IntKind.i64 (Int.tdiv x4 256)) x8,
      EI .u8 (x4 % 256) x6,
      EI .i64 (IntKind.wrap IntKind.i64 (106 + x2)) x4,
      EI .i64 (IntKind.wrap IntKind.i64 s0) x2,
      Contract Try.prog 21 [(.c (.int .i64 n)), (.c (.int .i64 20))] [] 49 (.c (.int .i64 13)) [] []])
    mixed Try.func7 (by kernel_rfl) (by kernel_rfl) (by kernel_rfl) rfl (by kernel_rfl) ⟨.mk h147, c146.ro [(209, (1, true))] rfl (by kernel_rfl) rfl (by kernel_rfl) rfl rfl _, c129.use (by kernel_rfl) rfl rfl _ _, .mk h127, .mk h125, .mk h123, .mk h121, .mk h119, .mk h117, .mk h115, .mk h113, .mk h111, .mk h109, .mk h107, .mk h105, .mk h103, .mk h101, .mk h99, .mk h97, .mk h95, .mk h93, .mk h91, .mk h89, .mk h87, .mk h85, .mk h83, .mk h81, .mk h79, .mk h77, .mk h75, .mk h73, .mk h71, .mk h69, .mk h67, .mk h65, .mk h63, .mk h61, .mk h59, .mk h57, .mk h55, .mk h53, .mk h51, .mk h49, .mk h47, .mk h45, .mk h43, .mk h41, .mk h39, .mk h37, .mk h35, .mk h33, .mk h31, .mk h29, .mk h27, .mk h25, .mk h23, .mk h21, .mk h19, .mk h17, .mk h15, .mk h13, .mk h11, .mk h9, .mk h7, .mk h5, .mk h3, .mk h1, c0.use (by kernel_rfl) rfl rfl _ _, trivial⟩

theorem run7_14 (s0 s1 s2 s3 s4 s5 s6 s7 s8 s9 s10 s11 s12 s13 s14 s15 n x2 x4 x6 x8 x10 x12 x14 x16 x18 x20 x22 x24 x26 x28 x30 x32 x34 x36 x38 x40 x42 x44 x46 x48 x50 x52 x54 x56 x58 x60 x62 x64 x66 x68 x70 x72 x74 x76 x78 x80 x82 x84 x86 x88 x90 x92 x94 x96 x98 x100 x102 x104 x106 x108 x110 x112 x114 x116 x118 x120 x122 x124 x126 x128 r18_130 r18_131 r18_132 r18_133 r18_134 r18_135 r18_136 r18_137 r18_138 r18_139 r18_140 r18_141 r18_142 r18_143 r18_144 r18_145 : Int)
    (c0 : PureF Try.prog 21 [(.c (.int .i64 n)), (.c (.int .i64 20))] (.c (.int .i64 14)))
    (h1 : (IntKind.wrap IntKind.i64 s0) = x2)
    (h3 : (IntKind.wrap IntKind.i64 (120 + x2)) = x4)
    (h5 : (x4 % 256) = x6)
    (h7 : (IntKind.wrap IntKind.i64 (Int.tdiv x4 256)) = x8)
    (h9 : (IntKind.wrap IntKind.i64 s1) = x10)
    (h11 : (IntKind.wrap IntKind.i64 (x8 + x10)) = x12)
    (h13 : (x12 % 256) = x14)
    (h15 : (IntKind.wrap IntKind.i64 (Int.tdiv x12 256)) = x16)
    (h17 : (IntKind.wrap IntKind.i64 s2) = x18)
    (h19 : (IntKind.wrap IntKind.i64 (x16 + x18)) = x20)
    (h21 : (x20 % 256) = x22)
    (h23 : (IntKind.wrap IntKind.i64 (Int.tdiv x20 256)) = x24)
    (h25 : (IntKind.wrap IntKind.i64 s3) = x26)
    (h27 : (IntKind.wrap IntKind.i64 (x24 + x26)) = x28)
    (h29 : (x28 % 256) = x30)
    (h31 : (IntKind.wrap IntKind.i64 (Int.tdiv x28 256)) = x32)
    (h33 : (IntKind.wrap IntKind.i64 s4) = x34)
    (h35 : (IntKind.wrap IntKind.i64 (x32 + x34)) = x36)
    (h37 : (x36 % 256) = x38)
    (h39 : (IntKind.wrap IntKind.i64 (Int.tdiv x36 256)) = x40)
    (h41 : (IntKind.wrap IntKind.i64 s5) = x42)
    (h43 : (IntKind.wrap IntKind.i64 (x40 + x42)) = x44)
    (h45 : (x44 % 256) = x46)
    (h47 : (IntKind.wrap IntKind.i64 (Int.tdiv x44 256)) = x48)
    (h49 : (IntKind.wrap IntKind.i64 s6) = x50)
    (h51 : (IntKind.wrap IntKind.i64 (x48 + x50)) = x52)
    (h53 : (x52 % 256) = x54)
    (h55 : (IntKind.wrap IntKind.i64 (Int.tdiv x52 256)) = x56)
    (h57 : (IntKind.wrap IntKind.i64 s7) = x58)
    (h59 : (IntKind.wrap IntKind.i64 (x56 + x58)) = x60)
    (h61 : (x60 % 256) = x62)
    (h63 : (IntKind.wrap IntKind.i64 (Int.tdiv x60 256)) = x64)
    (h65 : (IntKind.wrap IntKind.i64 s8) = x66)
    (h67 : (IntKind.wrap IntKind.i64 (x64 + x66)) = x68)
    (h69 : (x68 % 256) = x70)
    (h71 : (IntKind.wrap IntKind.i64 (Int.tdiv x68 256)) = x72)
    (h73 : (IntKind.wrap IntKind.i64 s9) = x74)
    (h75 : (IntKind.wrap IntKind.i64 (x72 + x74)) = x76)
    (h77 : (x76 % 256) = x78)
    (h79 : (IntKind.wrap IntKind.i64 (Int.tdiv x76 256)) = x80)
    (h81 : (IntKind.wrap IntKind.i64 s10) = x82)
    (h83 : (IntKind.wrap IntKind.i64 (x80 + x82)) = x84)
    (h85 : (x84 % 256) = x86)
    (h87 : (IntKind.wrap IntKind.i64 (Int.tdiv x84 256)) = x88)
    (h89 : (IntKind.wrap IntKind.i64 s11) = x90)
    (h91 : (IntKind.wrap IntKind.i64 (x88 + x90)) = x92)
    (h93 : (x92 % 256) = x94)
    (h95 : (IntKind.wrap IntKind.i64 (Int.tdiv x92 256)) = x96)
    (h97 : (IntKind.wrap IntKind.i64 s12) = x98)
    (h99 : (IntKind.wrap IntKind.i64 (x96 + x98)) = x100)
    (h101 : (x100 % 256) = x102)
    (h103 : (IntKind.wrap IntKind.i64 (Int.tdiv x100 256)) = x104)
    (h105 : (IntKind.wrap IntKind.i64 s13) = x106)
    (h107 : (IntKind.wrap IntKind.i64 (x104 + x106)) = x108)
    (h109 : (x108 % 256) = x110)
    (h111 : (IntKind.wrap IntKind.i64 (Int.tdiv x108 256)) = x112)
    (h113 : (IntKind.wrap IntKind.i64 s14) = x114)
    (h115 : (IntKind.wrap IntKind.i64 (x112 + x114)) = x116)
    (h117 : (x116 % 256) = x118)
    (h119 : (IntKind.wrap IntKind.i64 (Int.tdiv x116 256)) = x120)
    (h121 : (IntKind.wrap IntKind.i64 s15) = x122)
    (h123 : (IntKind.wrap IntKind.i64 (x120 + x122)) = x124)
    (h125 : (x124 % 256) = x126)
    (h127 : (IntKind.wrap IntKind.i64 (Int.tdiv x124 256)) = x128)
    (c129 : PureF Try.prog 19 [] (.c (.bool (true))))
    (c146 : Contract0 Try.prog 18 [(.aggi .u8 [1, 0, 0, 0, 0, 0, 0, 0, 0, 0, 0, 0, 0, 0, 0, 0, s0, s1, s2, s3, s4, s5, s6, s7, s8, s9, s10, s11, s12, s13, s14, s15]), (.c (.sl 1 0 0 224 1))] [(1, (.one ⟨false, true, (.ints .u8 [1, 0, 0, 0, 0, 0, 0, 0, 0, 0, 0, 0, 0, 0, 0, 0, 2, 0, 0, 0, 0, 0, 0, 0, 0, 0, 0, 0, 0, 0, 0, 0, 3, 0, 0, 0, 0, 0, 0, 0, 0, 0, 0, 0, 0, 0, 0, 0, 4, 0, 0, 0, 0, 0, 0, 0, 0, 0, 0, 0, 0, 0, 0, 0, 5, 0, 0, 0, 0, 0, 0, 0, 0, 0, 0, 0, 0, 0, 0, 0, 6, 0, 0, 0, 0, 0, 0, 0, 0, 0, 0, 0, 0, 0, 0, 0, 7, 0, 0, 0, 0, 0, 0, 0, 0, 0, 0, 0, 0, 0, 0, 0, 8, 0, 0, 0, 0, 0, 0, 0, 0, 0, 0, 0, 0, 0, 0, 0, 9, 0, 0, 0, 0, 0, 0, 0, 0, 0, 0, 0, 0, 0, 0, 0, 10, 0, 0, 0, 0, 0, 0, 0, 0, 0, 0, 0, 0, 0, 0, 0, 11, 0, 0, 0, 0, 0, 0, 0, 0, 0, 0, 0, 0, 0, 0, 0, 12, 0, 0, 0, 0, 0, 0, 0, 0, 0, 0, 0, 0, 0, 0, 0, 13, 0, 0, 0, 0, 0, 0, 0, 0, 0, 0, 0, 0, 0, 0, 0, 14, 0, 0, 0, 0, 0, 0, 0, 0, 0, 0, 0, 0, 0, 0, 0])⟩))] 2 (.aggi .u8 [r18_130, r18_131, r18_132, r18_133, r18_134, r18_135, r18_136, r18_137, r18_138, r18_139, r18_140, r18_141, r18_142, r18_143, r18_144, r18_145]) [] [])
    (h147 : ([r18_130, r18_131, r18_132, r18_133, r18_134, r18_135, r18_136, r18_137, r18_138, r18_139, r18_140, r18_141, r18_142, r18_143, r18_144, r18_145] == List.take 16 (List.drop 0 (splice (splice (splice (splice (splice (splice (splice (splice (splice (splice (splice (splice (splice (splice (splice (splice (splice [0, 0, 0, 0, 0, 0, 0, 0, 0, 0, 0, 0, 0, 0, 0, 0] 0 (List.take 16 (List.drop 0 [s0, s1, s2, s3, s4, s5, s6, s7, s8, s9, s10, s11, s12, s13, s14, s15]))) 0 [x6]) 1 [x14]) 2 [x22]) 3 [x30]) 4 [x38]) 5 [x46]) 6 [x54]) 7 [x62]) 8 [x70]) 9 [x78]) 10 [x86]) 11 [x94]) 12 [x102]) 13 [x110]) 14 [x118]) 15 [x126]))) = true)   :
    PureF Try.prog 7 [(.aggi .u8 [s0, s1, s2, s3, s4, s5, s6, s7, s8, s9, s10, s11, s12, s13, s14, s15]), (.c (.int .i64 n))] (.c (.bool (true))) :=
  Contract0.of_frun (fn := Try.f7) (c := bodyOf Try.f7) (fuel := 5000) (k := kOf Try.prog Try.f7) (outs := []) (hs := [(3, ⟨.call [] (.c (.int .i64 14)) [] [], none⟩), (323, ⟨.auto, some (.c (.int .i64 x2))⟩), (324, ⟨.auto, some (.c (.int .i64 x4))⟩), (328, ⟨.auto, some (.c (.int .u8 x6))⟩), (332, ⟨.auto, some (.c (.int .i64 x8))⟩), (344, ⟨.auto, some (.c (.int .i64 x10))⟩), (345, ⟨.auto, some (.c (.int .i64 x12))⟩), (349, ⟨.auto, some (.c (.int .u8 x14))⟩), (353, ⟨.auto, some (.c (.int .i64 x16))⟩), (365, ⟨.auto, some (.c (.int .i64 x18))⟩), (366, ⟨.auto, some (.c (.int .i64 x20))⟩), (370, ⟨.auto, some (.c (.int .u8 x22))⟩), (374, ⟨.auto, some (.c (.int .i64 x24))⟩), (386, ⟨.auto, some (.c (.int .i64 x26))⟩), (387, ⟨.auto, some (.c (.int .i64 x28))⟩), (391, ⟨.auto, some (.c (.int .u8 x30))⟩), (395, ⟨.auto, some (.c (.int .i64 x32))⟩), (407, ⟨.auto, some (.c (.int .i64 x34))⟩), (408, ⟨.auto, some (.c (.int .i64 x36))⟩), (412, ⟨.auto, some (.c (.int .u8 x38))⟩), (416, ⟨.auto, some (.c (.int .i64 x40))⟩), (428, ⟨.auto, some (.c (.int .i64 x42))⟩), (429, ⟨.auto, some (.c (.int .i64 x44))⟩), (433, ⟨.auto, some (.c (.int .u8 x46))⟩), (437, ⟨.auto, some (.c (.int .i64 x48))⟩), (449, ⟨.auto, some (.c (.int .i64 x50))⟩), (450, ⟨.auto, some (.c (.int .i64 x52))⟩), (454, ⟨.auto, some (.c (.int .u8 x54))⟩), (458, ⟨.auto, some (.c (.int .i64 x56))⟩), (470, ⟨.auto, some (.c (.int .i64 x58))⟩), (471, ⟨.auto, some (.c (.int .i64 x60))⟩), (475, ⟨.auto, some (.c (.int .u8 x62))⟩), (479, ⟨.auto, some (.c (.int .i64 x64))⟩), (491, ⟨.auto, some (.c (.int .i64 x66))⟩), (492, ⟨.auto, some (.c (.int .i64 x68))⟩), (496, ⟨.auto, some (.c (.int .u8 x70))⟩), (500, ⟨.auto, some (.c (.int .i64 x72))⟩), (512, ⟨.auto, some (.c (.int .i64 x74))⟩), (513, ⟨.auto, some (.c (.int .i64 x76))⟩), (517, ⟨.auto, some (.c (.int .u8 x78))⟩), (521, ⟨.auto, some (.c (.int .i64 x80))⟩), (533, ⟨.auto, some (.c (.int .i64 x82))⟩), (534, ⟨.auto, some (.c (.int .i64 x84))⟩), (538, ⟨.auto, some (.c (.int .u8 x86))⟩), (542, ⟨.auto, some (.c (.int .i64 x88))⟩), (554, ⟨.auto, some (.c (.int .i64 x90))⟩), (555, ⟨.auto, some (.c (.int .i64 x92))⟩), (559, ⟨.auto, some (.c (.int .u8 x94))⟩), (563, ⟨.auto, some (.c (.int .i64 x96))⟩), (575, ⟨.auto, some (.c (.int .i64 x98))⟩), (576, ⟨.auto, some (.c (.int .i64 x100))⟩), (580, ⟨.auto, some (.c (.int .u8 x102))⟩), (584, ⟨.auto, some (.c (.int .i64 x104))⟩), (596, ⟨.auto, some (.c (.int .i64 x106))⟩), (597, ⟨.auto, some (.c (.int .i64 x108))⟩), (601, ⟨.auto, some (.c (.int .u8 x110))⟩), (605, ⟨.auto, some (.c (.int .i64 x112))⟩), (617, ⟨.auto, some (.c (.int .i64 x114))⟩), (618, ⟨.auto, some (.c (.int .i64 x116))⟩), (622, ⟨.auto, some (.c (.int .u8 x118))⟩), (626, ⟨.auto, some (.c (.int .i64 x120))⟩), (638, ⟨.auto, some (.c (.int .i64 x122))⟩), (639, ⟨.auto, some (.c (.int .i64 x124))⟩), (643, ⟨.auto, some (.c (.int .u8 x126))⟩), (647, ⟨.auto, some (.c (.int .i64 x128))⟩), (655, ⟨.call [] (.c (.bool (true))) [] [], none⟩), (659, ⟨.call [209] (.aggi .u8 [r18_130, r18_131, r18_132, r18_133, r18_134, r18_135, r18_136, r18_137, r18_138, r18_139, r18_140, r18_141, r18_142, r18_143, r18_144, r18_145]) [] [], none⟩), (661, ⟨.auto, some (.c (.bool (true)))⟩)])
    (cs := [EB ([r18_130, r18_131, r18_132, r18_133, r18_134, r18_135, r18_136, r18_137, r18_138, r18_139, r18_140, r18_141, r18_142, r18_143, r18_144, r18_145] == List.take 16 (List.drop 0 (splice (splice (splice (splice (splice (splice (splice (splice (splice (splice (splice (splice (splice (splice (splice (splice (splice [0, 0, 0, 0, 0, 0, 0, 0, 0, 0, 0, 0, 0, 0, 0, 0] 0 (List.take 16 (List.drop 0 [s0, s1, s2, s3, s4, s5, s6, s7, s8, s9, s10, s11, s12, s13, s14, s15]))) 0 [x6]) 1 [x14]) 2 [x22]) 3 [x30]) 4 [x38]) 5 [x46]) 6 [x54]) 7 [x62]) 8 [x70]) 9 [x78]) 10 [x86]) 11 [x94]) 12 [x102]) 13 [x110]) 14 [x118]) 15 [x126]))) true,
      Contract Try.prog 18 [(.aggi .u8 [1, 0, 0, 0, 0, 0, 0, 0, 0, 0, 0, 0, 0, 0, 0, 0, s0, s1, s2, s3, s4, s5, s6, s7, s8, s9, s10, s11, s12, s13, s14, s15]), (.c (.sl 209 0 0 224 1))] [(209, (.one ⟨true, true, (.ints .u8 [1, 0, 0, 0, 0, 0, 0, 0, 0, 0, 0, 0, 0, 0, 0, 0, 2, 0, 0, 0, 0, 0, 0, 0, 0, 0, 0, 0, 0, 0, 0, 0, 3, 0, 0, 0, 0, 0, 0, 0, 0, 0, 0, 0, 0, 0, 0, 0, 4, 0, 0, 0, 0, 0, 0, 0, 0, 0, 0, 0, 0, 0, 0, 0, 5, 0, 0, 0, 0, 0, 0, 0, 0, 0, 0, 0, 0, 0, 0, 0, 6, 0, 0, 0, 0, 0, 0, 0, 0, 0, 0, 0, 0, 0, 0, 0, 7, 0, 0, 0, 0, 0, 0, 0, 0, 0, 0, 0, 0, 0, 0, 0, 8, 0, 0, 0, 0, 0, 0, 0, 0, 0, 0, 0, 0, 0, 0, 0, 9, 0, 0, 0, 0, 0, 0, 0, 0, 0, 0, 0, 0, 0, 0, 0, 10, 0, 0, 0, 0, 0, 0, 0, 0, 0, 0, 0, 0, 0, 0, 0, 11, 0, 0, 0, 0, 0, 0, 0, 0, 0, 0, 0, 0, 0, 0, 0, 12, 0, 0, 0, 0, 0, 0, 0, 0, 0, 0, 0, 0, 0, 0, 0, 13, 0, 0, 0, 0, 0, 0, 0, 0, 0, 0, 0, 0, 0, 0, 0, 14, 0, 0, 0, 0, 0, 0, 0, 0, 0, 0, 0, 0, 0, 0, 0])⟩))] 10033 (.aggi .u8 [r18_130, r18_131, r18_132, r18_133, r18_134, r18_135, r18_136, r18_137, r18_138, r18_139, r18_140, r18_141, r18_142, r18_143, r18_144, r18_145]) [] [],
      Contract Try.prog 19 [] [] 9969 (.c (.bool (true))) [] [],
      EI .i64 (IntKind.wrap IntKind.i64 (Int.tdiv x124 256)) x128,
      EI .u8 (x124 % 256) x126,
      EI .i64 (IntKind.wrap IntKind.i64 (x120 + x122)) x124,
      EI .i64 (IntKind.wrap IntKind.i64 s15) x122,
      EI .i64 (IntKind.wrap IntKind.i64 (Int.tdiv x116 256)) x120,
      EI .u8 (x116 % 256) x118,
      EI .i64 (IntKind.wrap IntKind.i64 (x112 + x114)) x116,
      EI .i64 (IntKind.wrap IntKind.i64 s14) x114,
      EI .i64 (IntKind.wrap IntKind.i64 (Int.tdiv x108 256)) x112,
      EI .u8 (x108 % 256) x110,
      EI .i64 (IntKind.wrap IntKind.i64 (x104 + x106)) x108,
      EI .i64 (IntKind.wrap IntKind.i64 s13) x106,
      EI .i64 (IntKind.wrap IntKind.i64 (Int.tdiv x100 256)) x104,
      EI .u8 (x100 % 256) x102,
      EI .i64 (IntKind.wrap IntKind.i64 (x96 + x98)) x100,
      EI .i64 (IntKind.wrap IntKind.i64 s12) x98,
      EI .i64 (IntKind.wrap IntKind.i64 (Int.tdiv x92 256)) x96,
      EI .u8 (x92 % 256) x94,
      EI .i64 (IntKind.wrap IntKind.i64 (x88 + x90)) x92,
      EI .i64 (IntKind.wrap IntKind.i64 s11) x90,
      EI .i64 (IntKind.wrap IntKind.i64 (Int.tdiv x84 256)) x88,
      EI .u8 (x84 % 256) x86,
      EI .i64 (IntKind.wrap IntKind.i64 (x80 + x82)) x84,
      EI .i64 (IntKind.wrap IntKind.i64 s10) x82,
      EI .i64 (IntKind.wrap IntKind.i64 (Int.tdiv x76 256)) x80,
      EI .u8 (x76 % 256) x78,
      EI .i64 (IntKind.wrap IntKind.i64 (x72 + x74)) x76,
      EI .i64 (IntKind.wrap IntKind.i64 s9) x74,
      EI .i64 (IntKind.wrap IntKind.i64 (Int.tdiv x68 256)) x72,
      EI .u8 (x68 % 256) x70,
      EI .i64 (IntKind.wrap IntKind.i64 (x64 + x66)) x68,
      EI .i64 (IntKind.wrap IntKind.i64 s8) x66,
      EI .i64 (IntKind.wrap IntKind.i64 (Int.tdiv x60 256)) x64,
      EI .u8 (x60 % 256) x62,
      EI .i64 (IntKind.wrap IntKind.i64 (x56 + x58)) x60,
      EI .i64 (IntKind.wrap IntKind.i64 s7) x58,
      EI .i64 (IntKind.wrap IntKind.i64 (Int.tdiv x52 256)) x56,
      EI .u8 (x52 % 256) x54,
      EI .i64 (IntKind.wrap IntKind.i64 (x48 + x50)) x52,
      EI .i64 (IntKind.wrap IntKind.i64 s6) x50,
      EI .i64 (IntKind.wrap IntKind.i64 (Int.tdiv x44 256)) x48,
      EI .u8 (x44 % 256) x46,
      EI .i64 (IntKind.wrap IntKind.i64 (x40 + x42)) x44,
      EI .i64 (IntKind.wrap IntKind.i64 s5) x42,
      EI .i64 (IntKind.wrap IntKind.i64 (Int.tdiv x36 256)) x40,
      EI .u8 (x36 % 256) x38,
      EI .i64 (IntKind.wrap IntKind.i64 (x32 + x34)) x36,
      EI .i64 (IntKind.wrap IntKind.i64 s4) x34,
      EI .i64 (IntKind.wrap IntKind.i64 (Int.tdiv x28 256)) x32,
      EI .u8 (x28 % 256) x30,
      EI .i64 (IntKind.wrap IntKind.i64 (x24 + x26)) x28,
      EI .i64 (IntKind.wrap IntKind.i64 s3) x26,
      EI .i64 (IntKind.wrap IntKind.i64 (Int.tdiv x20 256)) x24,
      EI .u8 (x20 % 256) x22,
      EI .i64 (IntKind.wrap IntKind.i64 (x16 + x18)) x20,
      EI .i64 (IntKind.wrap IntKind.i64 s2) x18,
      EI .i64 (IntKind.wrap IntKind.i64 (Int.tdiv x12 256)) x16,
      EI .u8 (x12 % 256) x14,
      EI .i64 (IntKind.wrap IntKind.i64 (x8 + x10)) x12,
      EI .i64 (IntKind.wrap IntKind.i64 s1) x10,
      EI .i64 (IntKind.wrap IntKind.i64 (Int.tdiv x4 256)) x8,
      EI .u8 (x4 % 256) x6,
      EI .i64 (IntKind.wrap IntKind.i64 (120 + x2)) x4,
      EI .i64 (IntKind.wrap IntKind.i64 s0) x2,
      Contract Try.prog 21 [(.c (.int .i64 n)), (.c (.int .i64 20))] [] 49 (.c (.int .i64 14)) [] []])
    mixed Try.func7 (by kernel_rfl) (by kernel_rfl) (by kernel_rfl) rfl (by kernel_rfl) ⟨.mk h147, c146.ro [(209, (1, true))] rfl (by kernel_rfl) rfl (by kernel_rfl) rfl rfl _, c129.use (by kernel_rfl) rfl rfl _ _, .mk h127, .mk h125, .mk h123, .mk h121, .mk h119, .mk h117, .mk h115, .mk h113, .mk h111, .mk h109, .mk h107, .mk h105, .mk h103, .mk h101, .mk h99, .mk h97, .mk h95, .mk h93, .mk h91, .mk h89, .mk h87, .mk h85, .mk h83, .mk h81, .mk h79, .mk h77, .mk h75, .mk h73, .mk h71, .mk h69, .mk h67, .mk h65, .mk h63, .mk h61, .mk h59, .mk h57, .mk h55, .mk h53, .mk h51, .mk h49, .mk h47, .mk h45, .mk h43, .mk h41, .mk h39, .mk h37, .mk h35, .mk h33, .mk h31, .mk h29, .mk h27, .mk h25, .mk h23, .mk h21, .mk h19, .mk h17, .mk h15, .mk h13, .mk h11, .mk h9, .mk h7, .mk h5, .mk h3, .mk h1, c0.use (by kernel_rfl) rfl rfl _ _, trivial⟩

theorem run7_15 (s0 s1 s2 s3 s4 s5 s6 s7 s8 s9 s10 s11 s12 s13 s14 s15 n x2 x4 x6 x8 x10 x12 x14 x16 x18 x20 x22 x24 x26 x28 x30 x32 x34 x36 x38 x40 x42 x44 x46 x48 x50 x52 x54 x56 x58 x60 x62 x64 x66 x68 x70 x72 x74 x76 x78 x80 x82 x84 x86 x88 x90 x92 x94 x96 x98 x100 x102 x104 x106 x108 x110 x112 x114 x116 x118 x120 x122 x124 x126 x128 r18_130 r18_131 r18_132 r18_133 r18_134 r18_135 r18_136 r18_137 r18_138 r18_139 r18_140 r18_141 r18_142 r18_143 r18_144 r18_145 : Int)
    (c0 : PureF Try.prog 21 [(.c (.int .i64 n)), (.c (.int .i64 20))] (.c (.int .i64 15)))
    (h1 : (IntKind.wrap IntKind.i64 s0) = x2)
    (h3 : (IntKind.wrap IntKind.i64 (135 + x2)) = x4)
    (h5 : (x4 % 256) = x6)
    (h7 : (IntKind.wrap IntKind.i64 (Int.tdiv x4 256)) = x8)
    (h9 : (IntKind.wrap IntKind.i64 s1) = x10)
    (h11 : (IntKind.wrap IntKind.i64 (x8 + x10)) = x12)
    (h13 : (x12 % 256) = x14)
    (h15 : (IntKind.wrap IntKind.i64 (Int.tdiv x12 256)) = x16)
    (h17 : (IntKind.wrap IntKind.i64 s2) = x18)
    (h19 : (IntKind.wrap IntKind.i64 (x16 + x18)) = x20)
    (h21 : (x20 % 256) = x22)
    (h23 : (IntKind.wrap IntKind.i64 (Int.tdiv x20 256)) = x24)
    (h25 : (IntKind.wrap IntKind.i64 s3) = x26)
    (h27 : (IntKind.wrap IntKind.i64 (x24 + x26)) = x28)
    (h29 : (x28 % 256) = x30)
    (h31 : (IntKind.wrap IntKind.i64 (Int.tdiv x28 256)) = x32)
    (h33 : (IntKind.wrap IntKind.i64 s4) = x34)
    (h35 : (IntKind.wrap IntKind.i64 (x32 + x34)) = x36)
    (h37 : (x36 % 256) = x38)
    (h39 : (IntKind.wrap IntKind.i64 (Int.tdiv x36 256)) = x40)
    (h41 : (IntKind.wrap IntKind.i64 s5) = x42)
    (h43 : (IntKind.wrap IntKind.i64 (x40 + x42)) = x44)
    (h45 : (x44 % 256) = x46)
    (h47 : (IntKind.wrap IntKind.i64 (Int.tdiv x44 256)) = x48)
    (h49 : (IntKind.wrap IntKind.i64 s6) = x50)
    (h51 : (IntKind.wrap IntKind.i64 (x48 + x50)) = x52)
    (h53 : (x52 % 256) = x54)
    (h55 : (IntKind.wrap IntKind.i64 (Int.tdiv x52 256)) = x56)
    (h57 : (IntKind.wrap IntKind.i64 s7) = x58)
    (h59 : (IntKind.wrap IntKind.i64 (x56 + x58)) = x60)
    (h61 : (x60 % 256) = x62)
    (h63 : (IntKind.wrap IntKind.i64 (Int.tdiv x60 256)) = x64)
    (h65 : (IntKind.wrap IntKind.i64 s8) = x66)
    (h67 : (IntKind.wrap IntKind.i64 (x64 + x66)) = x68)
    (h69 : (x68 % 256) = x70)
    (h71 : (IntKind.wrap IntKind.i64 (Int.tdiv x68 256)) = x72)
    (h73 : (IntKind.wrap IntKind.i64 s9) = x74)
    (h75 : (IntKind.wrap IntKind.i64 (x72 + x74)) = x76)
    (h77 : (x76 % 256) = x78)
    (h79 : (IntKind.wrap IntKind.i64 (Int.tdiv x76 256)) = x80)
    (h81 : (IntKind.wrap IntKind.i64 s10) = x82)
    (h83 : (IntKind.wrap IntKind.i64 (x80 + x82)) = x84)
    (h85 : (x84 % 256) = x86)
    (h87 : (IntKind.wrap IntKind.i64 (Int.tdiv x84 256)) = x88)
    (h89 : (IntKind.wrap IntKind.i64 s11) = x90)
    (h91 : (IntKind.wrap IntKind.i64 (x88 + x90)) = x92)
    (h93 : (x92 % 256) = x94)
    (h95 : (IntKind.wrap IntKind.i64 (Int.tdiv x92 256)) = x96)
    (h97 : (IntKind.wrap IntKind.i64 s12) = x98)
    (h99 : (IntKind.wrap IntKind.i64 (x96 + x98)) = x100)
    (h101 : (x100 % 256) = x102)
    (h103 : (IntKind.wrap IntKind.i64 (Int.tdiv x100 256)) = x104)
    (h105 : (IntKind.wrap IntKind.i64 s13) = x106)
    (h107 : (IntKind.wrap IntKind.i64 (x104 + x106)) = x108)
    (h109 : (x108 % 256) = x110)
    (h111 : (IntKind.wrap IntKind.i64 (Int.tdiv x108 256)) = x112)
    (h113 : (IntKind.wrap IntKind.i64 s14) = x114)
    (h115 : (IntKind.wrap IntKind.i64 (x112 + x114)) = x116)
    (h117 : (x116 % 256) = x118)
    (h119 : (IntKind.wrap IntKind.i64 (Int.tdiv x116 256)) = x120)
    (h121 : (IntKind.wrap IntKind.i64 s15) = x122)
    (h123 : (IntKind.wrap IntKind.i64 (x120 + x122)) = x124)
    (h125 : (x124 % 256) = x126)
    (h127 : (IntKind.wrap IntKind.i64 (Int.tdiv x124 256)) = x128)
    (c129 : PureF Try.prog 19 [] (.c (.bool (true))))
    (c146 : Contract0 Try.prog 18 [(.aggi .u8 [1, 0, 0, 0, 0, 0, 0, 0, 0, 0, 0, 0, 0, 0, 0, 0, s0, s1, s2, s3, s4, s5, s6, s7, s8, s9, s10, s11, s12, s13, s14, s15]), (.c (.sl 1 0 0 240 1))] [(1, (.one ⟨false, true, (.ints .u8 [1, 0, 0, 0, 0, 0, 0, 0, 0, 0, 0, 0, 0, 0, 0, 0, 2, 0, 0, 0, 0, 0, 0, 0, 0, 0, 0, 0, 0, 0, 0, 0, 3, 0, 0, 0, 0, 0, 0, 0, 0, 0, 0, 0, 0, 0, 0, 0, 4, 0, 0, 0, 0, 0, 0, 0, 0, 0, 0, 0, 0, 0, 0, 0, 5, 0, 0, 0, 0, 0, 0, 0, 0, 0, 0, 0, 0, 0, 0, 0, 6, 0, 0, 0, 0, 0, 0, 0, 0, 0, 0, 0, 0, 0, 0, 0, 7, 0, 0, 0, 0, 0, 0, 0, 0, 0, 0, 0, 0, 0, 0, 0, 8, 0, 0, 0, 0, 0, 0, 0, 0, 0, 0, 0, 0, 0, 0, 0, 9, 0, 0, 0, 0, 0, 0, 0, 0, 0, 0, 0, 0, 0, 0, 0, 10, 0, 0, 0, 0, 0, 0, 0, 0, 0, 0, 0, 0, 0, 0, 0, 11, 0, 0, 0, 0, 0, 0, 0, 0, 0, 0, 0, 0, 0, 0, 0, 12, 0, 0, 0, 0, 0, 0, 0, 0, 0, 0, 0, 0, 0, 0, 0, 13, 0, 0, 0, 0, 0, 0, 0, 0, 0, 0, 0, 0, 0, 0, 0, 14, 0, 0, 0, 0, 0, 0, 0, 0, 0, 0, 0, 0, 0, 0, 0, 15, 0, 0, 0, 0, 0, 0, 0, 0, 0, 0, 0, 0, 0, 0, 0])⟩))] 2 (.aggi .u8 [r18_130, r18_131, r18_132, r18_133, r18_134, r18_135, r18_136, r18_137, r18_138, r18_139, r18_140, r18_141, r18_142, r18_143, r18_144, r18_145]) [] [])
    (h147 : ([r18_130, r18_131, r18_132, r18_133, r18_134, r18_135, r18_136, r18_137, r18_138, r18_139, r18_140, r18_141, r18_142, r18_143, r18_144, r18_145] == List.take 16 (List.drop 0 (splice (splice (splice (splice (splice (splice (splice (splice (splice (splice (splice (splice (splice (splice (splice (splice (splice [0, 0, 0, 0, 0, 0, 0, 0, 0, 0, 0, 0, 0, 0, 0, 0] 0 (List.take 16 (List.drop 0 [s0, s1, s2, s3, s4, s5, s6, s7, s8, s9, s10, s11, s12, s13, s14, s15]))) 0 [x6]) 1 [x14]) 2 [x22]) 3 [x30]) 4 [x38]) 5 [x46]) 6 [x54]) 7 [x62]) 8 [x70]) 9 [x78]) 10 [x86]) 11 [x94]) 12 [x102]) 13 [x110]) 14 [x118]) 15 [x126]))) = true)   :
    PureF Try.prog 7 [(.aggi .u8 [s0, s1, s2, s3, s4, s5, s6, s7, s8, s9, s10, s11, s12, s13, s14, s15]), (.c (.int .i64 n))] (.c (.bool (true))) :=
  Contract0.of_frun (fn := Try.f7) (c := bodyOf Try.f7) (fuel := 5000) (k := kOf Try.prog Try.f7) (outs := []) (hs := [(3, ⟨.call [] (.c (.int .i64 15)) [] [], none⟩), (343, ⟨.auto, some (.c (.int .i64 x2))⟩), (344, ⟨.auto, some (.c (.int .i64 x4))⟩), (348, ⟨.auto, some (.c (.int .u8 x6))⟩), (352, ⟨.auto, some (.c (.int .i64 x8))⟩), (364, ⟨.auto, some (.c (.int .i64 x10))⟩), (365, ⟨.auto, some (.c (.int .i64 x12))⟩), (369, ⟨.auto, some (.c (.int .u8 x14))⟩), (373, ⟨.auto, some (.c (.int .i64 x16))⟩), (385, ⟨.auto, some (.c (.int .i64 x18))⟩), (386, ⟨.auto, some (.c (.int .i64 x20))⟩), (390, ⟨.auto, some (.c (.int .u8 x22))⟩), (394, ⟨.auto, some (.c (.int .i64 x24))⟩), (406, ⟨.auto, some (.c (.int .i64 x26))⟩), (407, ⟨.auto, some (.c (.int .i64 x28))⟩), (411, ⟨.auto, some (.c (.int .u8 x30))⟩), (415, ⟨.auto, some (.c (.int .i64 x32))⟩), (427, ⟨.auto, some (.c (.int .i64 x34))⟩), (428, ⟨.auto, some (.c (.int .i64 x36))⟩), (432, ⟨.auto, some (.c (.int .u8 x38))⟩), (436, ⟨.auto, some (.c (.int .i64 x40))⟩), (448, ⟨.auto, some (.c (.int .i64 x42))⟩), (449, ⟨.auto, some (.c (.int .i64 x44))⟩), (453, ⟨.auto, some (.c (.int .u8 x46))⟩), (457, ⟨.auto, some (.c (.int .i64 x48))⟩), (469, ⟨.auto, some (.c (.int .i64 x50))⟩), (470, ⟨.auto, some (.c (.int .i64 x52))⟩), (474, ⟨.auto, some (.c (.int .u8 x54))⟩), (478, ⟨.auto, some (.c (.int .i64 x56))⟩), (490, ⟨.auto, some (.c (.int .i64 x58))⟩), (491, ⟨.auto, some (.c (.int .i64 x60))⟩), (495, ⟨.auto, some (.c (.int .u8 x62))⟩), (499, ⟨.auto, some (.c (.int .i64 x64))⟩), (511, ⟨.auto, some (.c (.int .i64 x66))⟩), (512, ⟨.auto, some (.c (.int .i64 x68))⟩), (516, ⟨.auto, some (.c (.int .u8 x70))⟩), (520, ⟨.auto, some (.c (.int .i64 x72))⟩), (532, ⟨.auto, some (.c (.int .i64 x74))⟩), (533, ⟨.auto, some (.c (.int .i64 x76))⟩), (537, ⟨.auto, some (.c (.int .u8 x78))⟩), (541, ⟨.auto, some (.c (.int .i64 x80))⟩), (553, ⟨.auto, some (.c (.int .i64 x82))⟩), (554, ⟨.auto, some (.c (.int .i64 x84))⟩), (558, ⟨.auto, some (.c (.int .u8 x86))⟩), (562, ⟨.auto, some (.c (.int .i64 x88))⟩), (574, ⟨.auto, some (.c (.int .i64 x90))⟩), (575, ⟨.auto, some (.c (.int .i64 x92))⟩), (579, ⟨.auto, some (.c (.int .u8 x94))⟩), (583, ⟨.auto, some (.c (.int .i64 x96))⟩), (595, ⟨.auto, some (.c (.int .i64 x98))⟩), (596, ⟨.auto, some (.c (.int .i64 x100))⟩), (600, ⟨.auto, some (.c (.int .u8 x102))⟩), (604, ⟨.auto, some (.c (.int .i64 x104))⟩), (616, ⟨.auto, some (.c (.int .i64 x106))⟩), (617, ⟨.auto, some (.c (.int .i64 x108))⟩), (621, ⟨.auto, some (.c (.int .u8 x110))⟩), (625, ⟨.auto, some (.c (.int .i64 x112))⟩), (637, ⟨.auto, some (.c (.int .i64 x114))⟩), (638, ⟨.auto, some (.c (.int .i64 x116))⟩), (642, ⟨.auto, some (.c (.int .u8 x118))⟩), (646, ⟨.auto, some (.c (.int .i64 x120))⟩), (658, ⟨.auto, some (.c (.int .i64 x122))⟩), (659, ⟨.auto, some (.c (.int .i64 x124))⟩), (663, ⟨.auto, some (.c (.int .u8 x126))⟩), (667, ⟨.auto, some (.c (.int .i64 x128))⟩), (675, ⟨.call [] (.c (.bool (true))) [] [], none⟩), (679, ⟨.call [209] (.aggi .u8 [r18_130, r18_131, r18_132, r18_133, r18_134, r18_135, r18_136, r18_137, r18_138, r18_139, r18_140, r18_141, r18_142, r18_143, r18_144, r18_145]) [] [], none⟩), (681, ⟨.auto, some (.c (.bool (true)))⟩)])
    (cs := [EB ([r18_130, r18_131, r18_132, r18_133, r18_134, r18_135, r18_136, r18_137, r18_138, r18_139, r18_140, r18_141, r18_142, r18_143, r18_144, r18_145] == List.take 16 (List.drop 0 (splice (splice (splice (splice (splice (splice (splice (splice (splice (splice (splice (splice (splice (splice (splice (splice (splice [0, 0, 0, 0, 0, 0, 0, 0, 0, 0, 0, 0, 0, 0, 0, 0] 0 (List.take 16 (List.drop 0 [s0, s1, s2, s3, s4, s5, s6, s7, s8, s9, s10, s11, s12, s13, s14, s15]))) 0 [x6]) 1 [x14]) 2 [x22]) 3 [x30]) 4 [x38]) 5 [x46]) 6 [x54]) 7 [x62]) 8 [x70]) 9 [x78]) 10 [x86]) 11 [x94]) 12 [x102]) 13 [x110]) 14 [x118]) 15 [x126]))) true,
      Contract Try.prog 18 [(.aggi .u8 [1, 0, 0, 0, 0, 0, 0, 0, 0, 0, 0, 0, 0, 0, 0, 0, s0, s1, s2, s3, s4, s5, s6, s7, s8, s9, s10, s11, s12, s13, s14, s15]), (.c (.sl 209 0 0 240 1))] [(209, (.one ⟨true, true, (.ints .u8 [1, 0, 0, 0, 0, 0, 0, 0, 0, 0, 0, 0, 0, 0, 0, 0, 2, 0, 0, 0, 0, 0, 0, 0, 0, 0, 0, 0, 0, 0, 0, 0, 3, 0, 0, 0, 0, 0, 0, 0, 0, 0, 0, 0, 0, 0, 0, 0, 4, 0, 0, 0, 0, 0, 0, 0, 0, 0, 0, 0, 0, 0, 0, 0, 5, 0, 0, 0, 0, 0, 0, 0, 0, 0, 0, 0, 0, 0, 0, 0, 6, 0, 0, 0, 0, 0, 0, 0, 0, 0, 0, 0, 0, 0, 0, 0, 7, 0, 0, 0, 0, 0, 0, 0, 0, 0, 0, 0, 0, 0, 0, 0, 8, 0, 0, 0, 0, 0, 0, 0, 0, 0, 0, 0, 0, 0, 0, 0, 9, 0, 0, 0, 0, 0, 0, 0, 0, 0, 0, 0, 0, 0, 0, 0, 10, 0, 0, 0, 0, 0, 0, 0, 0, 0, 0, 0, 0, 0, 0, 0, 11, 0, 0, 0, 0, 0, 0, 0, 0, 0, 0, 0, 0, 0, 0, 0, 12, 0, 0, 0, 0, 0, 0, 0, 0, 0, 0, 0, 0, 0, 0, 0, 13, 0, 0, 0, 0, 0, 0, 0, 0, 0, 0, 0, 0, 0, 0, 0, 14, 0, 0, 0, 0, 0, 0, 0, 0, 0, 0, 0, 0, 0, 0, 0, 15, 0, 0, 0, 0, 0, 0, 0, 0, 0, 0, 0, 0, 0, 0, 0])⟩))] 10337 (.aggi .u8 [r18_130, r18_131, r18_132, r18_133, r18_134, r18_135, r18_136, r18_137, r18_138, r18_139, r18_140, r18_141, r18_142, r18_143, r18_144, r18_145]) [] [],
      Contract Try.prog 19 [] [] 10273 (.c (.bool (true))) [] [],
      EI .i64 (IntKind.wrap IntKind.i64 (Int.tdiv x124 256)) x128,
      EI .u8 (x124 % 256) x126,
      EI .i64 (IntKind.wrap IntKind.i64 (x120 + x122)) x124,
      EI .i64 (IntKind.wrap IntKind.i64 s15) x122,
      EI .i64 (IntKind.wrap IntKind.i64 (Int.tdiv x116 256)) x120,
      EI .u8 (x116 % 256) x118,
      EI .i64 (IntKind.wrap IntKind.i64 (x112 + x114)) x116,
      EI .i64 (IntKind.wrap IntKind.i64 s14) x114,
      EI .i64 (IntKind.wrap IntKind.i64 (Int.tdiv x108 256)) x112,
      EI .u8 (x108 % 256) x110,
      EI .i64 (IntKind.wrap IntKind.i64 (x104 + x106)) x108,
      EI .i64 (IntKind.wrap IntKind.i64 s13) x106,
      EI .i64 (IntKind.wrap IntKind.i64 (Int.tdiv x100 256)) x104,
      EI .u8 (x100 % 256) x102,
      EI .i64 (IntKind.wrap IntKind.i64 (x96 + x98)) x100,
      EI .i64 (IntKind.wrap IntKind.i64 s12) x98,
      EI .i64 (IntKind.wrap IntKind.i64 (Int.tdiv x92 256)) x96,
      EI .u8 (x92 % 256) x94,
      EI .i64 (IntKind.wrap IntKind.i64 (x88 + x90)) x92,
      EI .i64 (IntKind.wrap IntKind.i64 s11) x90,
      EI .i64 (IntKind.wrap IntKind.i64 (Int.tdiv x84 256)) x88,
      EI .u8 (x84 % 256) x86,
      EI .i64 (IntKind.wrap IntKind.i64 (x80 + x82)) x84,
      EI .i64 (IntKind.wrap IntKind.i64 s10) x82,
      EI .i64 (IntKind.wrap IntKind.i64 (Int.tdiv x76 256)) x80,
      EI .u8 (x76 % 256) x78,
      EI .i64 (IntKind.wrap IntKind.i64 (x72 + x74)) x76,
      EI .i64 (IntKind.wrap IntKind.i64 s9) x74,
      EI .i64 (IntKind.wrap IntKind.i64 (Int.tdiv x68 256)) x72,
      EI .u8 (x68 % 256) x70,
      EI .i64 (IntKind.wrap IntKind.i64 (x64 + x66)) x68,
      EI .i64 (IntKind.wrap IntKind.i64 s8) x66,
      EI .i64 (IntKind.wrap IntKind.i64 (Int.tdiv x60 256)) x64,
      EI .u8 (x60 % 256) x62,
      EI .i64 (IntKind.wrap IntKind.i64 (x56 + x58)) x60,
      EI .i64 (IntKind.wrap IntKind.i64 s7) x58,
      EI .i64 (IntKind.wrap IntKind.i64 (Int.tdiv x52 256)) x56,
      EI .u8 (x52 % 256) x54,
      EI .i64 (IntKind.wrap IntKind.i64 (x48 + x50)) x52,
      EI .i64 (IntKind.wrap IntKind.i64 s6) x50,
      EI .i64 (IntKind.wrap IntKind.i64 (Int.tdiv x44 256)) x48,
      EI .u8 (x44 % 256) x46,
      EI .i64 (IntKind.wrap IntKind.i64 (x40 + x42)) x44,
      EI .i64 (IntKind.wrap IntKind.i64 s5) x42,
      EI .i64 (IntKind.wrap IntKind.i64 (Int.tdiv x36 256)) x40,
      EI .u8 (x36 % 256) x38,
      EI .i64 (IntKind.wrap IntKind.i64 (x32 + x34)) x36,
      EI .i64 (IntKind.wrap IntKind.i64 s4) x34,
      EI .i64 (IntKind.wrap IntKind.i64 (Int.tdiv x28 256)) x32,
      EI .u8 (x28 % 256) x30,
      EI .i64 (IntKind.wrap IntKind.i64 (x24 + x26)) x28,
      EI .i64 (IntKind.wrap IntKind.i64 s3) x26,
      EI .i64 (IntKind.wrap IntKind.i64 (Int.tdiv x20 256)) x24,
      EI .u8 (x20 % 256) x22,
      EI .i64 (IntKind.wrap IntKind.i64 (x16 + x18)) x20,
      EI .i64 (IntKind.wrap IntKind.i64 s2) x18,
      EI .i64 (IntKind.wrap IntKind.i64 (Int.tdiv x12 256)) x16,
      EI .u8 (x12 % 256) x14,
      EI .i64 (IntKind.wrap IntKind.i64 (x8 + x10)) x12,
      EI .i64 (IntKind.wrap IntKind.i64 s1) x10,
      EI .i64 (IntKind.wrap IntKind.i64 (Int.tdiv x4 256)) x8,
      EI .u8 (x4 % 256) x6,
      EI .i64 (IntKind.wrap IntKind.i64 (135 + x2)) x4,
      EI .i64 (IntKind.wrap IntKind.i64 s0) x2,
      Contract Try.prog 21 [(.c (.int .i64 n)), (.c (.int .i64 20))] [] 49 (.c (.int .i64 15)) [] []])
    mixed Try.func7 (by kernel_rfl) (by kernel_rfl) (by kernel_rfl) rfl (by kernel_rfl) ⟨.mk h147, c146.ro [(209, (1, true))] rfl (by kernel_rfl) rfl (by kernel_rfl) rfl rfl _, c129.use (by kernel_rfl) rfl rfl _ _, .mk h127, .mk h125, .mk h123, .mk h121, .mk h119, .mk h117, .mk h115, .mk h113, .mk h111, .mk h109, .mk h107, .mk h105, .mk h103, .mk h101, .mk h99, .mk h97, .mk h95, .mk h93, .mk h91, .mk h89, .mk h87, .mk h85, .mk h83, .mk h81, .mk h79, .mk h77, .mk h75, .mk h73, .mk h71, .mk h69, .mk h67, .mk h65, .mk h63, .mk h61, .mk h59, .mk h57, .mk h55, .mk h53, .mk h51, .mk h49, .mk h47, .mk h45, .mk h43, .mk h41, .mk h39, .mk h37, .mk h35, .mk h33, .mk h31, .mk h29, .mk h27, .mk h25, .mk h23, .mk h21, .mk h19, .mk h17, .mk h15, .mk h13, .mk h11, .mk h9, .mk h7, .mk h5, .mk h3, .mk h1, c0.use (by kernel_rfl) rfl rfl _ _, trivial⟩

theorem run7_16 (s0 s1 s2 s3 s4 s5 s6 s7 s8 s9 s10 s11 s12 s13 s14 s15 n x2 x4 x6 x8 x10 x12 x14 x16 x18 x20 x22 x24 x26 x28 x30 x32 x34 x36 x38 x40 x42 x44 x46 x48 x50 x52 x54 x56 x58 x60 x62 x64 x66 x68 x70 x72 x74 x76 x78 x80 x82 x84 x86 x88 x90 x92 x94 x96 x98 x100 x102 x104 x106 x108 x110 x112 x114 x116 x118 x120 x122 x124 x126 x128 r18_130 r18_131 r18_132 r18_133 r18_134 r18_135 r18_136 r18_137 r18_138 r18_139 r18_140 r18_141 r18_142 r18_143 r18_144 r18_145 : Int)
    (c0 : PureF Try.prog 21 [(.c (.int .i64 n)), (.c (.int .i64 20))] (.c (.int .i64 16)))
    (h1 : (IntKind.wrap IntKind.i64 s0) = x2)
    (h3 : (IntKind.wrap IntKind.i64 (156 + x2)) = x4)
    (h5 : (x4 % 256) = x6)
    (h7 : (IntKind.wrap IntKind.i64 (Int.tdiv x4 256)) = x8)
    (h9 : (IntKind.wrap IntKind.i64 s1) = x10)
    (h11 : (IntKind.wrap IntKind.i64 (x8 + x10)) = x12)
    (h13 : (x12 % 256) = x14)
    (h15 : (IntKind.wrap IntKind.i64 (Int.tdiv x12 256)) = x16)
    (h17 : (IntKind.wrap IntKind.i64 s2) = x18)
    (h19 : (IntKind.wrap IntKind.i64 (x16 + x18)) = x20)
    (h21 : (x20 % 256) = x22)
    (h23 : (IntKind.wrap IntKind.i64 (Int.tdiv x20 256)) = x24)
    (h25 : (IntKind.wrap IntKind.i64 s3) = x26)
    (h27 : (IntKind.wrap IntKind.i64 (x24 + x26)) = x28)
    (h29 : (x28 % 256) = x30)
    (h31 : (IntKind.wrap IntKind.i64 (Int.tdiv x28 256)) = x32)
    (h33 : (IntKind.wrap IntKind.i64 s4) = x34)
    (h35 : (IntKind.wrap IntKind.i64 (x32 + x34)) = x36)
    (h37 : (x36 % 256) = x38)
    (h39 : (IntKind.wrap IntKind.i64 (Int.tdiv x36 256)) = x40)
    (h41 : (IntKind.wrap IntKind.i64 s5) = x42)
    (h43 : (IntKind.wrap IntKind.i64 (x40 + x42)) = x44)
    (h45 : (x44 % 256) = x46)
    (h47 : (IntKind.wrap IntKind.i64 (Int.tdiv x44 256)) = x48)
    (h49 : (IntKind.wrap IntKind.i64 s6) = x50)
    (h51 : (IntKind.wrap IntKind.i64 (x48 + x50)) = x52)
    (h53 : (x52 % 256) = x54)
    (h55 : (IntKind.wrap IntKind.i64 (Int.tdiv x52 256)) = x56)
    (h57 : (IntKind.wrap IntKind.i64 s7) = x58)
    (h59 : (IntKind.wrap IntKind.i64 (x56 + x58)) = x60)
    (h61 : (x60 % 256) = x62)
    (h63 : (IntKind.wrap IntKind.i64 (Int.tdiv x60 256)) = x64)
    (h65 : (IntKind.wrap IntKind.i64 s8) = x66)
    (h67 : (IntKind.wrap IntKind.i64 (x64 + x66)) = x68)
    (h69 : (x68 % 256) = x70)
    (h71 : (IntKind.wrap IntKind.i64 (Int.tdiv x68 256)) = x72)
    (h73 : (IntKind.wrap IntKind.i64 s9) = x74)
    (h75 : (IntKind.wrap IntKind.i64 (x72 + x74)) = x76)
    (h77 : (x76 % 256) = x78)
    (h79 : (IntKind.wrap IntKind.i64 (Int.tdiv x76 256)) = x80)
    (h81 : (IntKind.wrap IntKind.i64 s10) = x82)
    (h83 : (IntKind.wrap IntKind.i64 (x80 + x82)) = x84)
    (h85 : (x84 % 256) = x86)
    (h87 : (IntKind.wrap IntKind.i64 (Int.tdiv x84 256)) = x88)
    (h89 : (IntKind.wrap IntKind.i64 s11) = x90)
    (h91 : (IntKind.wrap IntKind.i64 (x88 + x90)) = x92)
    (h93 : (x92 % 256) = x94)
    (h95 : (IntKind.wrap IntKind.i64 (Int.tdiv x92 256)) = x96)
    (h97 : (IntKind.wrap IntKind.i64 s12) = x98)
    (h99 : (IntKind.wrap IntKind.i64 (x96 + x98)) = x100)
    (h101 : (x100 % 256) = x102)
    (h103 : (IntKind.wrap IntKind.i64 (Int.tdiv x100 256)) = x104)
    (h105 : (IntKind.wrap IntKind.i64 s13) = x106)
    (h107 : (IntKind.wrap IntKind.i64 (x104 + x106)) = x108)
    (h109 : (x108 % 256) = x110)
    (h111 : (IntKind.wrap IntKind.i64 (Int.tdiv x108 256)) = x112)
    (h113 : (IntKind.wrap IntKind.i64 s14) = x114)
    (h115 : (IntKind.wrap IntKind.i64 (x112 + x114)) = x116)
    (h117 : (x116 % 256) = x118)
    (h119 : (IntKind.wrap IntKind.i64 (Int.tdiv x116 256)) = x120)
    (h121 : (IntKind.wrap IntKind.i64 s15) = x122)
    (h123 : (IntKind.wrap IntKind.i64 (x120 + x122)) = x124)
    (h125 : (x124 % 256) = x126)
    (h127 : (IntKind.wrap IntKind.i64 (Int.tdiv x124 256)) = x128)
    (c129 : PureF Try.prog 19 [] (.c (.bool (true))))
    (c146 : Contract0 Try.prog 18 [(.aggi .u8 [1, 0, 0, 0, 0, 0, 0, 0, 0, 0, 0, 0, 0, 0, 0, 0, s0, s1, s2, s3, s4, s5, s6, s7, s8, s9, s10, s11, s12, s13, s14, s15]), (.c (.sl 1 0 0 256 1))] [(1, (.one ⟨false, true, (.ints .u8 [1, 0, 0, 0, 0, 0, 0, 0, 0, 0, 0, 0, 0, 0, 0, 0, 2, 0, 0, 0, 0, 0, 0, 0, 0, 0, 0, 0, 0, 0, 0, 0, 3, 0, 0, 0, 0, 0, 0, 0, 0, 0, 0, 0, 0, 0, 0, 0, 4, 0, 0, 0, 0, 0, 0, 0, 0, 0, 0, 0, 0, 0, 0, 0, 5, 0, 0, 0, 0, 0, 0, 0, 0, 0, 0, 0, 0, 0, 0, 0, 6, 0, 0, 0, 0, 0, 0, 0, 0, 0, 0, 0, 0, 0, 0, 0, 7, 0, 0, 0, 0, 0, 0, 0, 0, 0, 0, 0, 0, 0, 0, 0, 8, 0, 0, 0, 0, 0, 0, 0, 0, 0, 0, 0, 0, 0, 0, 0, 9, 0, 0, 0, 0, 0, 0, 0, 0, 0, 0, 0, 0, 0, 0, 0, 10, 0, 0, 0, 0, 0, 0, 0, 0, 0, 0, 0, 0, 0, 0, 0, 11, 0, 0, 0, 0, 0, 0, 0, 0, 0, 0, 0, 0, 0, 0, 0, 12, 0, 0, 0, 0, 0, 0, 0, 0, 0, 0, 0, 0, 0, 0, 0, 13, 0, 0, 0, 0, 0, 0, 0, 0, 0, 0, 0, 0, 0, 0, 0, 14, 0, 0, 0, 0, 0, 0, 0, 0, 0, 0, 0, 0, 0, 0, 0, 15, 0, 0, 0, 0, 0, 0, 0, 0, 0, 0, 0, 0, 0, 0, 0, 16, 0, 0, 0, 0, 0, 0, 0, 0, 0, 0, 0, 0, 0, 0, 0])⟩))] 2 (.aggi .u8 [r18_130, r18_131, r18_132, r18_133, r18_134, r18_135, r18_136, r18_137, r18_138, r18_139, r18_140, r18_141, r18_142, r18_143, r18_144, r18_145]) [] [])
    (h147 : ([r18_130, r18_131, r18_132, r18_133, r18_134, r18_135, r18_136, r18_137, r18_138, r18_139, r18_140, r18_141, r18_142, r18_143, r18_144, r18_145] == List.take 16 (List.drop 0 (splice (splice (splice (splice (splice (splice (splice (splice (splice (splice (splice (splice (splice (splice (splice (splice (splice [0, 0, 0, 0, 0, 0, 0, 0, 0, 0, 0, 0, 0, 0, 0, 0] 0 (List.take 16 (List.drop 0 [s0, s1, s2, s3, s4, s5, s6, s7, s8, s9, s10, s11, s12, s13, s14, s15]))) 0 [x6]) 1 [x14]) 2 [x22]) 3 [x30]) 4 [x38]) 5 [x46]) 6 [x54]) 7 [x62]) 8 [x70]) 9 [x78]) 10 [x86]) 11 [x94]) 12 [x102]) 13 [x110]) 14 [x118]) 15 [x126]))) = true)   :
    PureF Try.prog 7 [(.aggi .u8 [s0, s1, s2, s3, s4, s5, s6, s7, s8, s9, s10, s11, s12, s13, s14, s15]), (.c (.int .i64 n))] (.c (.bool (true))) :=
  Contract0.of_frun (fn := Try.f7) (c := bodyOf Try.f7) (fuel := 5000) (k := kOf Try.prog Try.f7) (outs := []) (hs := [(3, ⟨.call [] (.c (.int .i64 16)) [] [], none⟩), (363, ⟨.auto, some (.c (.int .i64 x2))⟩), (364, ⟨.auto, some (.c (.int .i64 x4))⟩), (368, ⟨.auto, some (.c (.int .u8 x6))⟩), (372, ⟨.auto, some (.c (.int .i64 x8))⟩), (384, ⟨.auto, some (.c (.int .i64 x10))⟩), (385, ⟨.auto, some (.c (.int .i64 x12))⟩), (389, ⟨.auto, some (.c (.int .u8 x14))⟩), (393, ⟨.auto, some (.c (.int .i64 x16))⟩), (405, ⟨.auto, some (.c (.int .i64 x18))⟩), (406, ⟨.auto, some (.c (.int .i64 x20))⟩), (410, ⟨.auto, some (.c (.int .u8 x22))⟩), (414, ⟨.auto, some (.c (.int .i64 x24))⟩), (426, ⟨.auto, some (.c (.int .i64 x26))⟩), (427, ⟨.auto, some (.c (.int .i64 x28))⟩), (431, ⟨.auto, some (.c (.int .u8 x30))⟩), (435, ⟨.auto, some (.c (.int .i64 x32))⟩), (447, ⟨.auto, some (.c (.int .i64 x34))⟩), (448, ⟨.auto, some (.c (.int .i64 x36))⟩), (452, ⟨.auto, some (.c (.int .u8 x38))⟩), (456, ⟨.auto, some (.c (.int .i64 x40))⟩), (468, ⟨.auto, some (.c (.int .i64 x42))⟩), (469, ⟨.auto, some (.c (.int .i64 x44))⟩), (473, ⟨.auto, some (.c (.int .u8 x46))⟩), (477, ⟨.auto, some (.c (.int .i64 x48))⟩), (489, ⟨.auto, some (.c (.int .i64 x50))⟩), (490, ⟨.auto, some (.c (.int .i64 x52))⟩), (494, ⟨.auto, some (.c (.int .u8 x54))⟩), (498, ⟨.auto, some (.c (.int .i64 x56))⟩), (510, ⟨.auto, some (.c (.int .i64 x58))⟩), (511, ⟨.auto, some (.c (.int .i64 x60))⟩), (515, ⟨.auto, some (.c (.int .u8 x62))⟩), (519, ⟨.auto, some (.c (.int .i64 x64))⟩), (531, ⟨.auto, some (.c (.int .i64 x66))⟩), (532, ⟨.auto, some (.c (.int .i64 x68))⟩), (536, ⟨.auto, some (.c (.int .u8 x70))⟩), (540, ⟨.auto, some (.c (.int .i64 x72))⟩), (552, ⟨.auto, some (.c (.int .i64 x74))⟩), (553, ⟨.auto, some (.c (.int .i64 x76))⟩), (557, ⟨.auto, some (.c (.int .u8 x78))⟩), (561, ⟨.auto, some (.c (.int .i64 x80))⟩), (573, ⟨.auto, some (.c (.int .i64 x82))⟩), (574, ⟨.auto, some (.c (.int .i64 x84))⟩), (578, ⟨.auto, some (.c (.int .u8 x86))⟩), (582, ⟨.auto, some (.c (.int .i64 x88))⟩), (594, ⟨.auto, some (.c (.int .i64 x90))⟩), (595, ⟨.auto, some (.c (.int .i64 x92))⟩), (599, ⟨.auto, some (.c (.int .u8 x94))⟩), (603, ⟨.auto, some (.c (.int .i64 x96))⟩), (615, ⟨.auto, some (.c (.int .i64 x98))⟩), (616, ⟨.auto, some (.c (.int .i64 x100))⟩), (620, ⟨.auto, some (.c (.int .u8 x102))⟩), (624, ⟨.auto, some (.c (.int .i64 x104))⟩), (636, ⟨.auto, some (.c (.int .i64 x106))⟩), (637, ⟨.auto, some (.c (.int .i64 x108))⟩), (641, ⟨.auto, some (.c (.int .u8 x110))⟩), (645, ⟨.auto, some (.c (.int .i64 x112))⟩), (657, ⟨.auto, some (.c (.int .i64 x114))⟩), (658, ⟨.auto, some (.c (.int .i64 x116))⟩), (662, ⟨.auto, some (.c (.int .u8 x118))⟩), (666, ⟨.auto, some (.c (.int .i64 x120))⟩), (678, ⟨.auto, some (.c (.int .i64 x122))⟩), (679, ⟨.auto, some (.c (.int .i64 x124))⟩), (683, ⟨.auto, some (.c (.int .u8 x126))⟩), (687, ⟨.auto, some (.c (.int .i64 x128))⟩), (695, ⟨.call [] (.c (.bool (true))) [] [], none⟩), (699, ⟨.call [209] (.aggi .u8 [r18_130, r18_131, r18_132, r18_133, r18_134, r18_135, r18_136, r18_137, r18_138, r18_139, r18_140, r18_141, r18_142, r18_143, r18_144, r18_145]) [] [], none⟩), (701, ⟨.auto, some (.c (.bool (true)))⟩)])
    (cs := [EB ([r18_130, r18_131, r18_132, r18_133, r18_134, r18_135, r18_136, r18_137, r18_138, r18_139, r18_140, r18_141, r18_142, r18_143, r18_144, r18_145] == List.take 16 (List.drop 0 (splice (splice (splice (splice (splice (splice (splice (splice (splice (splice (splice (splice (splice (splice (splice (splice (splice [0, 0, 0, 0, 0, 0, 0, 0, 0, 0, 0, 0, 0, 0, 0, 0] 0 (List.take 16 (List.drop 0 [s0, s1, s2, s3, s4, s5, s6, s7, s8, s9, s10, s11, s12, s13, s14, s15]))) 0 [x6]) 1 [x14]) 2 [x22]) 3 [x30]) 4 [x38]) 5 [x46]) 6 [x54]) 7 [x62]) 8 [x70]) 9 [x78]) 10 [x86]) 11 [x94]) 12 [x102]) 13 [x110]) 14 [x118]) 15 [x126]))) true,
      Contract Try.prog 18 [(.aggi .u8 [1, 0, 0, 0, 0, 0, 0, 0, 0, 0, 0, 0, 0, 0, 0, 0, s0, s1, s2, s3, s4, s5, s6, s7, s8, s9, s10, s11, s12, s13, s14, s15]), (.c (.sl 209 0 0 256 1))] [(209, (.one ⟨true, true, (.ints .u8 [1, 0, 0, 0, 0, 0, 0, 0, 0, 0, 0, 0, 0, 0, 0, 0, 2, 0, 0, 0, 0, 0, 0, 0, 0, 0, 0, 0, 0, 0, 0, 0, 3, 0, 0, 0, 0, 0, 0, 0, 0, 0, 0, 0, 0, 0, 0, 0, 4, 0, 0, 0, 0, 0, 0, 0, 0, 0, 0, 0, 0, 0, 0, 0, 5, 0, 0, 0, 0, 0, 0, 0, 0, 0, 0, 0, 0, 0, 0, 0, 6, 0, 0, 0, 0, 0, 0, 0, 0, 0, 0, 0, 0, 0, 0, 0, 7, 0, 0, 0, 0, 0, 0, 0, 0, 0, 0, 0, 0, 0, 0, 0, 8, 0, 0, 0, 0, 0, 0, 0, 0, 0, 0, 0, 0, 0, 0, 0, 9, 0, 0, 0, 0, 0, 0, 0, 0, 0, 0, 0, 0, 0, 0, 0, 10, 0, 0, 0, 0, 0, 0, 0, 0, 0, 0, 0, 0, 0, 0, 0, 11, 0, 0, 0, 0, 0, 0, 0, 0, 0, 0, 0, 0, 0, 0, 0, 12, 0, 0, 0, 0, 0, 0, 0, 0, 0, 0, 0, 0, 0, 0, 0, 13, 0, 0, 0, 0, 0, 0, 0, 0, 0, 0, 0, 0, 0, 0, 0, 14, 0, 0, 0, 0, 0, 0, 0, 0, 0, 0, 0, 0, 0, 0, 0, 15, 0, 0, 0, 0, 0, 0, 0, 0, 0, 0, 0, 0, 0, 0, 0, 16, 0, 0, 0, 0, 0, 0, 0, 0, 0, 0, 0, 0, 0, 0, 0])⟩))] 10641 (.aggi .u8 [r18_130, r18_131, r18_132, r18_133, r18_134, r18_135, r18_136, r18_137, r18_138, r18_139, r18_140, r18_141, r18_142, r18_143, r18_144, r18_145]) [] [],
      Contract Try.prog 19 [] [] 10577 (.c (.bool (true))) [] [],
      EI .i64 (IntKind.wrap IntKind.i64 (Int.tdiv x124 256)) x128,
      EI .u8 (x124 % 256) x126,
      EI .i64 (IntKind.wrap IntKind.i64 (x120 + x122)) x124,
      EI .i64 (IntKind.wrap IntKind.i64 s15) x122,
      EI .i64 (IntKind.wrap IntKind.i64 (Int.tdiv x116 256)) x120,
      EI .u8 (x116 % 256) x118,
      EI .i64 (IntKind.wrap IntKind.i64 (x112 + x114)) x116,
      EI .i64 (IntKind.wrap IntKind.i64 s14) x114,
      EI .i64 (IntKind.wrap IntKind.i64 (Int.tdiv x108 256)) x112,
      EI .u8 (x108 % 256) x110,
      EI .i64 (IntKind.wrap IntKind.i64 (x104 + x106)) x108,
      EI .i64 (IntKind.wrap IntKind.i64 s13) x106,
      EI .i64 (IntKind.wrap IntKind.i64 (Int.tdiv x100 256)) x104,
      EI .u8 (x100 % 256) x102,
      EI .i64 (IntKind.wrap IntKind.i64 (x96 + x98)) x100,
      EI .i64 (IntKind.wrap IntKind.i64 s12) x98,
      EI .i64 (IntKind.wrap IntKind.i64 (Int.tdiv x92 256)) x96,
      EI .u8 (x92 % 256) x94,
      EI .i64 (IntKind.wrap IntKind.i64 (x88 + x90)) x92,
      EI .i64 (IntKind.wrap IntKind.i64 s11) x90,
      EI .i64 (IntKind.wrap IntKind.i64 (Int.tdiv x84 256)) x88,
      EI .u8 (x84 % 256) x86,
      EI .i64 (IntKind.wrap IntKind.i64 (x80 + x82)) x84,
      EI .i64 (IntKind.wrap IntKind.i64 s10) x82,
      EI .i64 (IntKind.wrap IntKind.i64 (Int.tdiv x76 256)) x80,
      EI .u8 (x76 % 256) x78,
      EI .i64 (IntKind.wrap IntKind.i64 (x72 + x74)) x76,
      EI .i64 (IntKind.wrap IntKind.i64 s9) x74,
      EI .i64 (IntKind.wrap IntKind.i64 (Int.tdiv x68 256)) x72,
      EI .u8 (x68 % 256) x70,
      EI .i64 (IntKind.wrap IntKind.i64 (x64 + x66)) x68,
      EI .i64 (IntKind.wrap IntKind.i64 s8) x66,
      EI .i64 (IntKind.wrap IntKind.i64 (Int.tdiv x60 256)) x64,
      EI .u8 (x60 % 256) x62,
      EI .i64 (IntKind.wrap IntKind.i64 (x56 + x58)) x60,
      EI .i64 (IntKind.wrap IntKind.i64 s7) x58,
      EI .i64 (IntKind.wrap IntKind.i64 (Int.tdiv x52 256)) x56,
      EI .u8 (x52 % 256) x54,
      EI .i64 (IntKind.wrap IntKind.i64 (x48 + x50)) x52,
      EI .i64 (IntKind.wrap IntKind.i64 s6) x50,
      EI .i64 (IntKind.wrap IntKind.i64 (Int.tdiv x44 256)) x48,
      EI .u8 (x44 % 256) x46,
      EI .i64 (IntKind.wrap IntKind.i64 (x40 + x42)) x44,
      EI .i64 (IntKind.wrap IntKind.i64 s5) x42,
      EI .i64 (IntKind.wrap IntKind.i64 (Int.tdiv x36 256)) x40,
      EI .u8 (x36 % 256) x38,
      EI .i64 (IntKind.wrap IntKind.i64 (x32 + x34)) x36,
      EI .i64 (IntKind.wrap IntKind.i64 s4) x34,
      EI .i64 (IntKind.wrap IntKind.i64 (Int.tdiv x28 256)) x32,
      EI .u8 (x28 % 256) x30,
      EI .i64 (IntKind.wrap IntKind.i64 (x24 + x26)) x28,
      EI .i64 (IntKind.wrap IntKind.i64 s3) x26,
      EI .i64 (IntKind.wrap IntKind.i64 (Int.tdiv x20 256)) x24,
      EI .u8 (x20 % 256) x22,
      EI .i64 (IntKind.wrap IntKind.i64 (x16 + x18)) x20,
      EI .i64 (IntKind.wrap IntKind.i64 s2) x18,
      EI .i64 (IntKind.wrap IntKind.i64 (Int.tdiv x12 256)) x16,
      EI .u8 (x12 % 256) x14,
      EI .i64 (IntKind.wrap IntKind.i64 (x8 + x10)) x12,
      EI .i64 (IntKind.wrap IntKind.i64 s1) x10,
      EI .i64 (IntKind.wrap IntKind.i64 (Int.tdiv x4 256)) x8,
      EI .u8 (x4 % 256) x6,
      EI .i64 (IntKind.wrap IntKind.i64 (156 + x2)) x4,
      EI .i64 (IntKind.wrap IntKind.i64 s0) x2,
      Contract Try.prog 21 [(.c (.int .i64 n)), (.c (.int .i64 20))] [] 49 (.c (.int .i64 16)) [] []])
    mixed Try.func7 (by kernel_rfl) (by kernel_rfl) (by kernel_rfl) rfl (by kernel_rfl) ⟨.mk h147, c146.ro [(209, (1, true))] rfl (by kernel_rfl) rfl (by kernel_rfl) rfl rfl _, c129.use (by kernel_rfl) rfl rfl _ _, .mk h127, .mk h125, .mk h123, .mk h121, .mk h119, .mk h117, .mk h115, .mk h113, .mk h111, .mk h109, .mk h107, .mk h105, .mk h103, .mk h101, .mk h99, .mk h97, .mk h95, .mk h93, .mk h91, .mk h89, .mk h87, .mk h85, .mk h83, .mk h81, .mk h79, .mk h77, .mk h75, .mk h73, .mk h71, .mk h69, .mk h67, .mk h65, .mk h63, .mk h61, .mk h59, .mk h57, .mk h55, .mk h53, .mk h51, .mk h49, .mk h47, .mk h45, .mk h43, .mk h41, .mk h39, .mk h37, .mk h35, .mk h33, .mk h31, .mk h29, .mk h27, .mk h25, .mk h23, .mk h21, .mk h19, .mk h17, .mk h15, .mk h13, .mk h11, .mk h9, .mk h7, .mk h5, .mk h3, .mk h1, c0.use (by kernel_rfl) rfl rfl _ _, trivial⟩

theorem run7_17 (s0 s1 s2 s3 s4 s5 s6 s7 s8 s9 s10 s11 s12 s13 s14 s15 n x2 x4 x6 x8 x10 x12 x14 x16 x18 x20 x22 x24 x26 x28 x30 x32 x34 x36 x38 x40 x42 x44 x46 x48 x50 x52 x54 x56 x58 x60 x62 x64 x66 x68 x70 x72 x74 x76 x78 x80 x82 x84 x86 x88 x90 x92 x94 x96 x98 x100 x102 x104 x106 x108 x110 x112 x114 x116 x118 x120 x122 x124 x126 x128 r18_130 r18_131 r18_132 r18_133 r18_134 r18_135 r18_136 r18_137 r18_138 r18_139 r18_140 r18_141 r18_142 r18_143 r18_144 r18_145 : Int)
    (c0 : PureF Try.prog 21 [(.c (.int .i64 n)), (.c (.int .i64 20))] (.c (.int .i64 17)))
    (h1 : (IntKind.wrap IntKind.i64 s0) = x2)
    (h3 : (IntKind.wrap IntKind.i64 (173 + x2)) = x4)
    (h5 : (x4 % 256) = x6)
    (h7 : (IntKind.wrap IntKind.i64 (Int.tdiv x4 256)) = x8)
    (h9 : (IntKind.wrap IntKind.i64 s1) = x10)
    (h11 : (IntKind.wrap IntKind.i64 (x8 + x10)) = x12)
    (h13 : (x12 % 256) = x14)
    (h15 : (IntKind.wrap IntKind.i64 (Int.tdiv x12 256)) = x16)
    (h17 : (IntKind.wrap IntKind.i64 s2) = x18)
    (h19 : (IntKind.wrap IntKind.i64 (x16 + x18)) = x20)
    (h21 : (x20 % 256) = x22)
    (h23 : (IntKind.wrap IntKind.i64 (Int.tdiv x20 256)) = x24)
    (h25 : (IntKind.wrap IntKind.i64 s3) = x26)
    (h27 : (IntKind.wrap IntKind.i64 (x24 + x26)) = x28)
    (h29 : (x28 % 256) = x30)
    (h31 : (IntKind.wrap IntKind.i64 (Int.tdiv x28 256)) = x32)
    (h33 : (IntKind.wrap IntKind.i64 s4) = x34)
    (h35 : (IntKind.wrap IntKind.i64 (x32 + x34)) = x36)
    (h37 : (x36 % 256) = x38)
    (h39 : (IntKind.wrap IntKind.i64 (Int.tdiv x36 256)) = x40)
    (h41 : (IntKind.wrap IntKind.i64 s5) = x42)
    (h43 : (IntKind.wrap IntKind.i64 (x40 + x42)) = x44)
    (h45 : (x44 % 256) = x46)
    (h47 : (IntKind.wrap IntKind.i64 (Int.tdiv x44 256)) = x48)
    (h49 : (IntKind.wrap IntKind.i64 s6) = x50)
    (h51 : (IntKind.wrap IntKind.i64 (x48 + x50)) = x52)
    (h53 : (x52 % 256) = x54)
    (h55 : (IntKind.wrap IntKind.i64 (Int.tdiv x52 256)) = x56)
    (h57 : (IntKind.wrap IntKind.i64 s7) = x58)
    (h59 : (IntKind.wrap IntKind.i64 (x56 + x58)) = x60)
    (h61 : (x60 % 256) = x62)
    (h63 : (IntKind.wrap IntKind.i64 (Int.tdiv x60 256)) = x64)
    (h65 : (IntKind.wrap IntKind.i64 s8) = x66)
    (h67 : (IntKind.wrap IntKind.i64 (x64 + x66)) = x68)
    (h69 : (x68 % 256) = x70)
    (h71 : (IntKind.wrap IntKind.i64 (Int.tdiv x68 256)) = x72)
    (h73 : (IntKind.wrap IntKind.i64 s9) = x74)
    (h75 : (IntKind.wrap IntKind.i64 (x72 + x74)) = x76)
    (h77 : (x76 % 256) = x78)
    (h79 : (IntKind.wrap IntKind.i64 (Int.tdiv x76 256)) = x80)
    (h81 : (IntKind.wrap IntKind.i64 s10) = x82)
    (h83 : (IntKind.wrap IntKind.i64 (x80 + x82)) = x84)
    (h85 : (x84 % 256) = x86)
    (h87 : (IntKind.wrap IntKind.i64 (Int.tdiv x84 256)) = x88)
    (h89 : (IntKind.wrap IntKind.i64 s11) = x90)
    (h91 : (IntKind.wrap IntKind.i64 (x88 + x90)) = x92)
    (h93 : (x92 % 256) = x94)
    (h95 : (IntKind.wrap IntKind.i64 (Int.tdiv x92 256)) = x96)
    (h97 : (IntKind.wrap IntKind.i64 s12) = x98)
    (h99 : (IntKind.wrap IntKind.i64 (x96 + x98)) = x100)
    (h101 : (x100 % 256) = x102)
    (h103 : (IntKind.wrap IntKind.i64 (Int.tdiv x100 256)) = x104)
    (h105 : (IntKind.wrap IntKind.i64 s13) = x106)
    (h107 : (IntKind.wrap IntKind.i64 (x104 + x106)) = x108)
    (h109 : (x108 % 256) = x110)
    (h111 : (IntKind.wrap IntKind.i64 (Int.tdiv x108 256)) = x112)
    (h113 : (IntKind.wrap IntKind.i64 s14) = x114)
    (h115 : (IntKind.wrap IntKind.i64 (x112 + x114)) = x116)
    (h117 : (x116 % 256) = x118)
    (h119 : (IntKind.wrap IntKind.i64 (Int.tdiv x116 256)) = x120)
    (h121 : (IntKind.wrap IntKind.i64 s15) = x122)
    (h123 : (IntKind.wrap IntKind.i64 (x120 + x122)) = x124)
    (h125 : (x124 % 256) = x126)
    (h127 : (IntKind.wrap IntKind.i64 (Int.tdiv x124 256)) = x128)
    (c129 : PureF Try.prog 19 [] (.c (.bool (true))))
    (c146 : Contract0 Try.prog 18 [(.aggi .u8 [1, 0, 0, 0, 0, 0, 0, 0, 0, 0, 0, 0, 0, 0, 0, 0, s0, s1, s2, s3, s4, s5, s6, s7, s8, s9, s10, s11, s12, s13, s14, s15]), (.c (.sl 1 0 0 272 1))] [(1, (.one ⟨false, true, (.ints .u8 [1, 0, 0, 0, 0, 0, 0, 0, 0, 0, 0, 0, 0, 0, 0, 0, 2, 0, 0, 0, 0, 0, 0, 0, 0, 0, 0, 0, 0, 0, 0, 0, 3, 0, 0, 0, 0, 0, 0, 0, 0, 0, 0, 0, 0, 0, 0, 0, 4, 0, 0, 0, 0, 0, 0, 0, 0, 0, 0, 0, 0, 0, 0, 0, 5, 0, 0, 0, 0, 0, 0, 0, 0, 0, 0, 0, 0, 0, 0, 0, 6, 0, 0, 0, 0, 0, 0, 0, 0, 0, 0, 0, 0, 0, 0, 0, 7, 0, 0, 0, 0, 0, 0, 0, 0, 0, 0, 0, 0, 0, 0, 0, 8, 0, 0, 0, 0, 0, 0, 0, 0, 0, 0, 0, 0, 0, 0, 0, 9, 0, 0, 0, 0, 0, 0, 0, 0, 0, 0, 0, 0, 0, 0, 0, 10, 0, 0, 0, 0, 0, 0, 0, 0, 0, 0, 0, 0, 0, 0, 0, 11, 0, 0, 0, 0, 0, 0, 0, 0, 0, 0, 0, 0, 0, 0, 0, 12, 0, 0, 0, 0, 0, 0, 0, 0, 0, 0, 0, 0, 0, 0, 0, 13, 0, 0, 0, 0, 0, 0, 0, 0, 0, 0, 0, 0, 0, 0, 0, 14, 0, 0, 0, 0, 0, 0, 0, 0, 0, 0, 0, 0, 0, 0, 0, 15, 0, 0, 0, 0, 0, 0, 0, 0, 0, 0, 0, 0, 0, 0, 0, 16, 0, 0, 0, 0, 0, 0, 0, 0, 0, 0, 0, 0, 0, 0, 0, 17, 0, 0, 0, 0, 0, 0, 0, 0, 0, 0, 0, 0, 0, 0, 0])⟩))] 2 (.aggi .u8 [r18_130, r18_131, r18_132, r18_133, r18_134, r18_135, r18_136, r18_137, r18_138, r18_139, r18_140, r18_141, r18_142, r18_143, r18_144, r18_145]) [] [])
    (h147 : ([r18_130, r18_131, r18_132, r18_133, r18_134, r18_135, r18_136, r18_137, r18_138, r18_139, r18_140, r18_141, r18_142, r18_143, r18_144, r18_145] == List.take 16 (List.drop 0 (splice (splice (splice (splice (splice (splice (splice (splice (splice (splice (splice (splice (splice (splice (splice (splice (splice [0, 0, 0, 0, 0, 0, 0, 0, 0, 0, 0, 0, 0, 0, 0, 0] 0 (List.take 16 (List.drop 0 [s0, s1, s2, s3, s4, s5, s6, s7, s8, s9, s10, s11, s12, s13, s14, s15]))) 0 [x6]) 1 [x14]) 2 [x22]) 3 [x30]) 4 [x38]) 5 [x46]) 6 [x54]) 7 [x62]) 8 [x70]) 9 [x78]) 10 [x86]) 11 [x94]) 12 [x102]) 13 [x110]) 14 [x118]) 15 [x126]))) = true)   :
    PureF Try.prog 7 [(.aggi .u8 [s0, s1, s2, s3, s4, s5, s6, s7, s8, s9, s10, s11, s12, s13, s14, s15]), (.c (.int .i64 n))] (.c (.bool (true))) :=
  Contract0.of_frun (fn := Try.f7) (c := bodyOf Try.f7) (fuel := 5000) (k := kOf Try.prog Try.f7) (outs := []) (hs := [(3, ⟨.call [] (.c (.int .i64 17)) [] [], none⟩), (383, ⟨.auto, some (.c (.int .i64 x2))⟩), (384, ⟨.auto, some (.c (.int .i64 x4))⟩), (388, ⟨.auto, some (.c (.int .u8 x6))⟩), (392, ⟨.auto, some (.c (.int .i64 x8))⟩), (404, ⟨.auto, some (.c (.int .i64 x10))⟩), (405, ⟨.auto, some (.c (.int .i64 x12))⟩), (409, ⟨.auto, some (.c (.int .u8 x14))⟩), (413, ⟨.auto, some (.c (.int .i64 x16))⟩), (425, ⟨.auto, some (.c (.int .i64 x18))⟩), (426, ⟨.auto, some (.c (.int .i64 x20))⟩), (430, ⟨.auto, some (.c (.int .u8 x22))⟩), (434, ⟨.auto, some (.c (.int .i64 x24))⟩), (446, ⟨.auto, some (.c (.int .i64 x26))⟩), (447, ⟨.auto, some (.c (.int .i64 x28))⟩), (451, ⟨.auto, some (.c (.int .u8 x30))⟩), (455, ⟨.auto, some (.c (.int .i64 x32))⟩), (467, ⟨.auto, some (.c (.int .i64 x34))⟩), (468, ⟨.auto, some (.c (.int .i64 x36))⟩), (472, ⟨.auto, some (.c (.int .u8 x38))⟩), (476, ⟨.auto, some (.c (.int .i64 x40))⟩), (488, ⟨.auto, some (.c (.int .i64 x42))⟩), (489, ⟨.auto, some (.c (.int .i64 x44))⟩), (493, ⟨.auto, some (.c (.int .u8 x46))⟩), (497, ⟨.auto, some (.c (.int .i64 x48))⟩), (509, ⟨.auto, some (.c (.int .i64 x50))⟩), (510, ⟨.auto, some (.c (.int .i64 x52))⟩), (514, ⟨.auto, some (.c (.int .u8 x54))⟩), (518, ⟨.auto, some (.c (.int .i64 x56))⟩), (530, ⟨.auto, some (.c (.int .i64 x58))⟩), (531, ⟨.auto, some (.c (.int .i64 x60))⟩), (535, ⟨.auto, some (.c (.int .u8 x62))⟩), (539, ⟨.auto, some (.c (.int .i64 x64))⟩), (551, ⟨.auto, some (.c (.int .i64 x66))⟩), (552, ⟨.auto, some (.c (.int .i64 x68))⟩), (556, ⟨.auto, some (.c (.int .u8 x70))⟩), (560, ⟨.auto, some (.c (.int .i64 x72))⟩), (572, ⟨.auto, some (.c (.int .i64 x74))⟩), (573, ⟨.auto, some (.c (.int .i64 x76))⟩), (577, ⟨.auto, some (.c (.int .u8 x78))⟩), (581, ⟨.auto, some (.c (.int .i64 x80))⟩), (593, ⟨.auto, some (.c (.int .i64 x82))⟩), (594, ⟨.auto, some (.c (.int .i64 x84))⟩), (598, ⟨.auto, some (.c (.int .u8 x86))⟩), (602, ⟨.auto, some (.c (.int .i64 x88))⟩), (614, ⟨.auto, some (.c (.int .i64 x90))⟩), (615, ⟨.auto, some (.c (.int .i64 x92))⟩), (619, ⟨.auto, some (.c (.int .u8 x94))⟩), (623, ⟨.auto, some (.c (.int .i64 x96))⟩), (635, ⟨.auto, some (.c (.int .i64 x98))⟩), (636, ⟨.auto, some (.c (.int .i64 x100))⟩), (640, ⟨.auto, some (.c (.int .u8 x102))⟩), (644, ⟨.auto, some (.c (.int .i64 x104))⟩), (656, ⟨.auto, some (.c (.int .i64 x106))⟩), (657, ⟨.auto, some (.c (.int .i64 x108))⟩), (661, ⟨.auto, some (.c (.int .u8 x110))⟩), (665, ⟨.auto, some (.c (.int .i64 x112))⟩), (677, ⟨.auto, some (.c (.int .i64 x114))⟩), (678, ⟨.auto, some (.c (.int .i64 x116))⟩), (682, ⟨.auto, some (.c (.int .u8 x118))⟩), (686, ⟨.auto, some (.c (.int .i64 x120))⟩), (698, ⟨.auto, some (.c (.int .i64 x122))⟩), (699, ⟨.auto, some (.c (.int .i64 x124))⟩), (703, ⟨.auto, some (.c (.int .u8 x126))⟩), (707, ⟨.auto, some (.c (.int .i64 x128))⟩), (715, ⟨.call [] (.c (.bool (true))) [] [], none⟩), (719, ⟨.call [209] (.aggi .u8 [r18_130, r18_131, r18_132, r18_133, r18_134, r18_135, r18_136, r18_137, r18_138, r18_139, r18_140, r18_141, r18_142, r18_143, r18_144, r18_145]) [] [], none⟩), (721, ⟨.auto, some (.c (.bool (true)))⟩)])
    (cs := [EB ([r18_130, r18_131, r18_132, r18_133, r18_134, r18_135, r18_136, r18_137, r18_138, r18_139, r18_140, r18_141, r18_142, r18_143, r18_144, r18_145] == List.take 16 (List.drop 0 (splice (splice (splice (splice (splice (splice (splice (splice (splice (splice (splice (splice (splice (splice (splice (splice (splice [0, 0, 0, 0, 0, 0, 0, 0, 0, 0, 0, 0, 0, 0, 0, 0] 0 (List.take 16 (List.drop 0 [s0, s1, s2, s3, s4, s5, s6, s7, s8, s9, s10, s11, s12, s13, s14, s15]))) 0 [x6]) 1 [x14]) 2 [x22]) 3 [x30]) 4 [x38]) 5 [x46]) 6 [x54]) 7 [x62]) 8 [x70]) 9 [x78]) 10 [x86]) 11 [x94]) 12 [x102]) 13 [x110]) 14 [x118]) 15 [x126]))) true,
      Contract Try.prog 18 [(.aggi .u8 [1, 0, 0, 0, 0, 0, 0, 0, 0, 0, 0, 0, 0, 0, 0, 0, s0, s1, s2, s3, s4, s5, s6, s7, s8, s9, s10, s11, s12, s13, s14, s15]), (.c (.sl 209 0 0 272 1))] [(209, (.one ⟨true, true, (.ints .u8 [1, 0, 0, 0, 0, 0, 0, 0, 0, 0, 0, 0, 0, 0, 0, 0, 2, 0, 0, 0, 0, 0, 0, 0, 0, 0, 0, 0, 0, 0, 0, 0, 3, 0, 0, 0, 0, 0, 0, 0, 0, 0, 0, 0, 0, 0, 0, 0, 4, 0, 0, 0, 0, 0, 0, 0, 0, 0, 0, 0, 0, 0, 0, 0, 5, 0, 0, 0, 0, 0, 0, 0, 0, 0, 0, 0, 0, 0, 0, 0, 6, 0, 0, 0, 0, 0, 0, 0, 0, 0, 0, 0, 0, 0, 0, 0, 7, 0, 0, 0, 0, 0, 0, 0, 0, 0, 0, 0, 0, 0, 0, 0, 8, 0, 0, 0, 0, 0, 0, 0, 0, 0, 0, 0, 0, 0, 0, 0, 9, 0, 0, 0, 0, 0, 0, 0, 0, 0, 0, 0, 0, 0, 0, 0, 10, 0, 0, 0, 0, 0, 0, 0, 0, 0, 0, 0, 0, 0, 0, 0, 11, 0, 0, 0, 0, 0, 0, 0, 0, 0, 0, 0, 0, 0, 0, 0, 12, 0, 0, 0, 0, 0, 0, 0, 0, 0, 0, 0, 0, 0, 0, 0, 13, 0, 0, 0, 0, 0, 0, 0, 0, 0, 0, 0, 0, 0, 0, 0, 14, 0, 0, 0, 0, 0, 0, 0, 0, 0, 0, 0, 0, 0, 0, 0, 15, 0, 0, 0, 0, 0, 0, 0, 0, 0, 0, 0, 0, 0, 0, 0, 16, 0, 0, 0, 0, 0, 0, 0, 0, 0, 0, 0, 0, 0, 0, 0, 17, 0, 0, 0, 0, 0, 0, 0, 0, 0, 0, 0, 0, 0, 0, 0])⟩))] 10945 (.aggi .u8 [r18_130, r18_131, r18_132, r18_133, r18_134, r18_135, r18_136, r18_137, r18_138, r18_139, r18_140, r18_141, r18_142, r18_143, r18_144, r18_145]) [] [],
      Contract Try.prog 19 [] [] 10881 (.c (.bool (true))) [] [],
      EI .i64 (IntKind.wrap IntKind.i64 (Int.tdiv x124 256)) x128,
      EI .u8 (x124 % 256) x126,
      EI .i64 (IntKind.wrap IntKind.i64 (x120 + x122)) x124,
      EI .i64 (IntKind.wrap IntKind.i64 s15) x122,
      EI .i64 (IntKind.wrap IntKind.i64 (Int.tdiv x116 256)) x120,
      EI .u8 (x116 % 256) x118,
      EI .i64 (IntKind.wrap IntKind.i64 (x112 + x114)) x116,
      EI .i64 (IntKind.wrap IntKind.i64 s14) x114,
      EI .i64 (IntKind.wrap IntKind.i64 (Int.tdiv x108 256)) x112,
      EI .u8 (x108 % 256) x110,
      EI .i64 (IntKind.wrap IntKind.i64 (x104 + x106)) x108,
      EI .i64 (IntKind.wrap IntKind.i64 s13) x106,
      EI .i64 (IntKind.wrap IntKind.i64 (Int.tdiv x100 256)) x104,
      EI .u8 (x100 % 256) x102,
      EI .i64 (IntKind.wrap IntKind.i64 (x96 + x98)) x100,
      EI .i64 (IntKind.wrap IntKind.i64 s12) x98,
      EI .i64 (IntKind.wrap IntKind.i64 (Int.tdiv x92 256)) x96,
      EI .u8 (x92 % 256) x94,
      EI .i64 (IntKind.wrap IntKind.i64 (x88 + x90)) x92,
      EI .i64 (IntKind.wrap IntKind.i64 s11) x90,
      EI .i64 (IntKind.wrap IntKind.i64 (Int.tdiv x84 256)) x88,
      EI .u8 (x84 % 256) x86,
      EI .i64 (IntKind.wrap IntKind.i64 (x80 + x82)) x84,
      EI .i64 (IntKind.wrap IntKind.i64 s10) x82,
      EI .i64 (IntKind.wrap IntKind.i64 (Int.tdiv x76 256)) x80,
      EI .u8 (x76 % 256) x78,
      EI .i64 (IntKind.wrap IntKind.i64 (x72 + x74)) x76,
      EI .i64 (IntKind.wrap IntKind.i64 s9) x74,
      EI .i64 (IntKind.wrap IntKind.i64 (Int.tdiv x68 256)) x72,
      EI .u8 (x68 % 256) x70,
      EI .i64 (IntKind.wrap IntKind.i64 (x64 + x66)) x68,
      EI .i64 (IntKind.wrap IntKind.i64 s8) x66,
      EI .i64 (IntKind.wrap IntKind.i64 (Int.tdiv x60 256)) x64,
      EI .u8 (x60 % 256) x62,
      EI .i64 (IntKind.wrap IntKind.i64 (x56 + x58)) x60,
      EI .i64 (IntKind.wrap IntKind.i64 s7) x58,
      EI .i64 (IntKind.wrap IntKind.i64 (Int.tdiv x52 256)) x56,
      EI .u8 (x52 % 256) x54,
      EI .i64 (IntKind.wrap IntKind.i64 (x48 + x50)) x52,
      EI .i64 (IntKind.wrap IntKind.i64 s6) x50,
      EI .i64 (IntKind.wrap IntKind.i64 (Int.tdiv x44 256)) x48,
      EI .u8 (x44 % 256) x46,
      EI .i64 (IntKind.wrap IntKind.i64 (x40 + x42)) x44,
      EI .i64 (IntKind.wrap IntKind.i64 s5) x42,
      EI .i64 (IntKind.wrap IntKind.i64 (Int.tdiv x36 256)) x40,
      EI .u8 (x36 % 256) x38,
      EI .i64 (IntKind.wrap IntKind.i64 (x32 + x34)) x36,
      EI .i64 (IntKind.wrap IntKind.i64 s4) x34,
      EI .i64 (IntKind.wrap IntKind.i64 (Int.tdiv x28 256)) x32,
      EI .u8 (x28 % 256) x30,
      EI .i64 (IntKind.wrap IntKind.i64 (x24 + x26)) x28,
      EI .i64 (IntKind.wrap IntKind.i64 s3) x26,
      EI .i64 (IntKind.wrap IntKind.i64 (Int.tdiv x20 256)) x24,
      EI .u8 (x20 % 256) x22,
      EI .i64 (IntKind.wrap IntKind.i64 (x16 + x18)) x20,
      EI .i64 (IntKind.wrap IntKind.i64 s2) x18,
      EI .i64 (IntKind.wrap IntKind.i64 (Int.tdiv x12 256)) x16,
      EI .u8 (x12 % 256) x14,
      EI .i64 (IntKind.wrap IntKind.i64 (x8 + x10)) x12,
      EI .i64 (IntKind.wrap IntKind.i64 s1) x10,
      EI .i64 (IntKind.wrap IntKind.i64 (Int.tdiv x4 256)) x8,
      EI .u8 (x4 % 256) x6,
      EI .i64 (IntKind.wrap IntKind.i64 (173 + x2)) x4,
      EI .i64 (IntKind.wrap IntKind.i64 s0) x2,
      Contract Try.prog 21 [(.c (.int .i64 n)), (.c (.int .i64 20))] [] 49 (.c (.int .i64 17)) [] []])
    mixed Try.func7 (by kernel_rfl) (by kernel_rfl) (by kernel_rfl) rfl (by kernel_rfl) ⟨.mk h147, c146.ro [(209, (1, true))] rfl (by kernel_rfl) rfl (by kernel_rfl) rfl rfl _, c129.use (by kernel_rfl) rfl rfl _ _, .mk h127, .mk h125, .mk h123, .mk h121, .mk h119, .mk h117, .mk h115, .mk h113, .mk h111, .mk h109, .mk h107, .mk h105, .mk h103, .mk h101, .mk h99, .mk h97, .mk h95, .mk h93, .mk h91, .mk h89, .mk h87, .mk h85, .mk h83, .mk h81, .mk h79, .mk h77, .mk h75, .mk h73, .mk h71, .mk h69, .mk h67, .mk h65, .mk h63, .mk h61, .mk h59, .mk h57, .mk h55, .mk h53, .mk h51, .mk h49, .mk h47, .mk h45, .mk h43, .mk h41, .mk h39, .mk h37, .mk h35, .mk h33, .mk h31, .mk h29, .mk h27, .mk h25, .mk h23, .mk h21, .mk h19, .mk h17, .mk h15, .mk h13, .mk h11, .mk h9, .mk h7, .mk h5, .mk h3, .mk h1, c0.use (by kernel_rfl) rfl rfl _ _, trivial⟩

theorem run7_18 (s0 s1 s2 s3 s4 s5 s6 s7 s8 s9 s10 s11 s12 s13 s14 s15 n x2 x4 x6 x8 x10 x12 x14 x16 x18 x20 x22 x24 x26 x28 x30 x32 x34 x36 x38 x40 x42 x44 x46 x48 x50 x52 x54 x56 x58 x60 x62 x64 x66 x68 x70 x72 x74 x76 x78 x80 x82 x84 x86 x88 x90 x92 x94 x96 x98 x100 x102 x104 x106 x108 x110 x112 x114 x116 x118 x120 x122 x124 x126 x128 r18_130 r18_131 r18_132 r18_133 r18_134 r18_135 r18_136 r18_137 r18_138 r18_139 r18_140 r18_141 r18_142 r18_143 r18_144 r18_145 : Int)
    (c0 : PureF Try.prog 21 [(.c (.int .i64 n)), (.c (.int .i64 20))] (.c (.int .i64 18)))
    (h1 : (IntKind.wrap IntKind.i64 s0) = x2)
    (h3 : (IntKind.wrap IntKind.i64 (191 + x2)) = x4)
    (h5 : (x4 % 256) = x6)
    (h7 : (IntKind.wrap IntKind.i64 (Int.tdiv x4 256)) = x8)
    (h9 : (IntKind.wrap IntKind.i64 s1) = x10)
    (h11 : (IntKind.wrap IntKind.i64 (x8 + x10)) = x12)
    (h13 : (x12 % 256) = x14)
    (h15 : (IntKind.wrap IntKind.i64 (Int.tdiv x12 256)) = x16)
    (h17 : (IntKind.wrap IntKind.i64 s2) = x18)
    (h19 : (IntKind.wrap IntKind.i64 (x16 + x18)) = x20)
    (h21 : (x20 % 256) = x22)
    (h23 : (IntKind.wrap IntKind.i64 (Int.tdiv x20 256)) = x24)
    (h25 : (IntKind.wrap IntKind.i64 s3) = x26)
    (h27 : (IntKind.wrap IntKind.i64 (x24 + x26)) = x28)
    (h29 : (x28 % 256) = x30)
    (h31 : (IntKind.wrap IntKind.i64 (Int.tdiv x28 256)) = x32)
    (h33 : (IntKind.wrap IntKind.i64 s4) = x34)
    (h35 : (IntKind.wrap IntKind.i64 (x32 + x34)) = x36)
    (h37 : (x36 % 256) = x38)
    (h39 : (IntKind.wrap IntKind.i64 (Int.tdiv x36 256)) = x40)
    (h41 : (IntKind.wrap IntKind.i64 s5) = x42)
    (h43 : (IntKind.wrap IntKind.i64 (x40 + x42)) = x44)
    (h45 : (x44 % 256) = x46)
    (h47 : (IntKind.wrap IntKind.i64 (Int.tdiv x44 256)) = x48)
    (h49 : (IntKind.wrap IntKind.i64 s6) = x50)
    (h51 : (IntKind.wrap IntKind.i64 (x48 + x50)) = x52)
    (h53 : (x52 % 256) = x54)
    (h55 : (IntKind.wrap IntKind.i64 (Int.tdiv x52 256)) = x56)
    (h57 : (IntKind.wrap IntKind.i64 s7) = x58)
    (h59 : (IntKind.wrap IntKind.i64 (x56 + x58)) = x60)
    (h61 : (x60 % 256) = x62)
    (h63 : (IntKind.wrap IntKind.i64 (Int.tdiv x60 256)) = x64)
    (h65 : (IntKind.wrap IntKind.i64 s8) = x66)
    (h67 : (IntKind.wrap IntKind.i64 (x64 + x66)) = x68)
    (h69 : (x68 % 256) = x70)
    (h71 : (IntKind.wrap IntKind.i64 (Int.tdiv x68 256)) = x72)
    (h73 : (IntKind.wrap IntKind.i64 s9) = x74)
    (h75 : (IntKind.wrap IntKind.i64 (x72 + x74)) = x76)
    (h77 : (x76 % 256) = x78)
    (h79 : (IntKind.wrap IntKind.i64 (Int.tdiv x76 256)) = x80)
    (h81 : (IntKind.wrap IntKind.i64 s10) = x82)
    (h83 : (IntKind.wrap IntKind.i64 (x80 + x82)) = x84)
    (h85 : (x84 % 256) = x86)
    (h87 : (IntKind.wrap IntKind.i64 (Int.tdiv x84 256)) = x88)
    (h89 : (IntKind.wrap IntKind.i64 s11) = x90)
    (h91 : (IntKind.wrap IntKind.i64 (x88 + x90)) = x92)
    (h93 : (x92 % 256) = x94)
    (h95 : (IntKind.wrap IntKind.i64 (Int.tdiv x92 256)) = x96)
    (h97 : (IntKind.wrap IntKind.i64 s12) = x98)
    (h99 : (IntKind.wrap IntKind.i64 (x96 + x98)) = x100)
    (h101 : (x100 % 256) = x102)
    (h103 : (IntKind.wrap IntKind.i64 (Int.tdiv x100 256)) = x104)
    (h105 : (IntKind.wrap IntKind.i64 s13) = x106)
    (h107 : (IntKind.wrap IntKind.i64 (x104 + x106)) = x108)
    (h109 : (x108 % 256) = x110)
    (h111 : (IntKind.wrap IntKind.i64 (Int.tdiv x108 256)) = x112)
    (h113 : (IntKind.wrap IntKind.i64 s14) = x114)
    (h115 : (IntKind.wrap IntKind.i64 (x112 + x114)) = x116)
    (h117 : (x116 % 256) = x118)
    (h119 : (IntKind.wrap IntKind.i64 (Int.tdiv x116 256)) = x120)
    (h121 : (IntKind.wrap IntKind.i64 s15) = x122)
    (h123 : (IntKind.wrap IntKind.i64 (x120 + x122)) = x124)
    (h125 : (x124 % 256) = x126)
    (h127 : (IntKind.wrap IntKind.i64 (Int.tdiv x124 256)) = x128)
    (c129 : PureF Try.prog 19 [] (.c (.bool (true))))
    (c146 : Contract0 Try.prog 18 [(.aggi .u8 [1, 0, 0, 0, 0, 0, 0, 0, 0, 0, 0, 0, 0, 0, 0, 0, s0, s1, s2, s3, s4, s5, s6, s7, s8, s9, s10, s11, s12, s13, s14, s15]), (.c (.sl 1 0 0 288 1))] [(1, (.one ⟨false, true, (.ints .u8 [1, 0, 0, 0, 0, 0, 0, 0, 0, 0, 0, 0, 0, 0, 0, 0, 2, 0, 0, 0, 0, 0, 0, 0, 0, 0, 0, 0, 0, 0, 0, 0, 3, 0, 0, 0, 0, 0, 0, 0, 0, 0, 0, 0, 0, 0, 0, 0, 4, 0, 0, 0, 0, 0, 0, 0, 0, 0, 0, 0, 0, 0, 0, 0, 5, 0, 0, 0, 0, 0, 0, 0, 0, 0, 0, 0, 0, 0, 0, 0, 6, 0, 0, 0, 0, 0, 0, 0, 0, 0, 0, 0, 0, 0, 0, 0, 7, 0, 0, 0, 0, 0, 0, 0, 0, 0, 0, 0, 0, 0, 0, 0, 8, 0, 0, 0, 0, 0, 0, 0, 0, 0, 0, 0, 0, 0, 0, 0, 9, 0, 0, 0, 0, 0, 0, 0, 0, 0, 0, 0, 0, 0, 0, 0, 10, 0, 0, 0, 0, 0, 0, 0, 0, 0, 0, 0, 0, 0, 0, 0, 11, 0, 0, 0, 0, 0, 0, 0, 0, 0, 0, 0, 0, 0, 0, 0, 12, 0, 0, 0, 0, 0, 0, 0, 0, 0, 0, 0, 0, 0, 0, 0, 13, 0, 0, 0, 0, 0, 0, 0, 0, 0, 0, 0, 0, 0, 0, 0, 14, 0, 0, 0, 0, 0, 0, 0, 0, 0, 0, 0, 0, 0, 0, 0, 15, 0, 0, 0, 0, 0, 0, 0, 0, 0, 0, 0, 0, 0, 0, 0, 16, 0, 0, 0, 0, 0, 0, 0, 0, 0, 0, 0, 0, 0, 0, 0, 17, 0, 0, 0, 0, 0, 0, 0, 0, 0, 0, 0, 0, 0, 0, 0, 18, 0, 0, 0, 0, 0, 0, 0, 0, 0, 0, 0, 0, 0, 0, 0])⟩))] 2 (.aggi .u8 [r18_130, r18_131, r18_132, r18_133, r18_134, r18_135, r18_136, r18_137, r18_138, r18_139, r18_140, r18_141, r18_142, r18_143, r18_144, r18_145]) [] [])
    (h147 : ([r18_130, r18_131, r18_132, r18_133, r18_134, r18_135, r18_136, r18_137, r18_138, r18_139, r18_140, r18_141, r18_142, r18_143, r18_144, r18_145] == List.take 16 (List.drop 0 (splice (splice (splice (splice (splice (splice (splice (splice (splice (splice (splice (splice (splice (splice (splice (splice (splice [0, 0, 0, 0, 0, 0, 0, 0, 0, 0, 0, 0, 0, 0, 0, 0] 0 (List.take 16 (List.drop 0 [s0, s1, s2, s3, s4, s5, s6, s7, s8, s9, s10, s11, s12, s13, s14, s15]))) 0 [x6]) 1 [x14]) 2 [x22]) 3 [x30]) 4 [x38]) 5 [x46]) 6 [x54]) 7 [x62]) 8 [x70]) 9 [x78]) 10 [x86]) 11 [x94]) 12 [x102]) 13 [x110]) 14 [x118]) 15 [x126]))) = true)   :
    PureF Try.prog 7 [(.aggi .u8 [s0, s1, s2, s3, s4, s5, s6, s7, s8, s9, s10, s11, s12, s13, s14, s15]), (.c (.int .i64 n))] (.c (.bool (true))) :=
  Contract0.of_frun (fn := Try.f7) (c := bodyOf Try.f7) (fuel := 5000) (k := kOf Try.prog Try.f7) (outs := []) (hs := [(3, ⟨.call [] (.c (.int .i64 18)) [] [], none⟩), (403, ⟨.auto, some (.c (.int .i64 x2))⟩), (404, ⟨.auto, some (.c (.int .i64 x4))⟩), (408, ⟨.auto, some (.c (.int .u8 x6))⟩), (412, ⟨.auto, some (.c (.int .i64 x8))⟩), (424, ⟨.auto, some (.c (.int .i64 x10))⟩), (425, ⟨.auto, some (.c (.int .i64 x12))⟩), (429, ⟨.auto, some (.c (.int .u8 x14))⟩), (433, ⟨.auto, some (.c (.int .i64 x16))⟩), (445, ⟨.auto, some (.c (.int .i64 x18))⟩), (446, ⟨.auto, some (.c (.int .i64 x20))⟩), (450, ⟨.auto, some (.c (.int .u8 x22))⟩), (454, ⟨.auto, some (.c (.int .i64 x24))⟩), (466, ⟨.auto, some (.c (.int .i64 x26))⟩), (467, ⟨.auto, some (.c (.int .i64 x28))⟩), (471, ⟨.auto, some (.c (.int .u8 x30))⟩), (475, ⟨.auto, some (.c (.int .i64 x32))⟩), (487, ⟨.auto, some (.c (.int .i64 x34))⟩), (488, ⟨.auto, some (.c (.int .i64 x36))⟩), (492, ⟨.auto, some (.c (.int .u8 x38))⟩), (496, ⟨.auto, some (.c (.int .i64 x40))⟩), (508, ⟨.auto, some (.c (.int .i64 x42))⟩), (509, ⟨.auto, some (.c (.int .i64 x44))⟩), (513, ⟨.auto, some (.c (.int .u8 x46))⟩), (517, ⟨.auto, some (.c (.int .i64 x48))⟩), (529, ⟨.auto, some (.c (.int .i64 x50))⟩), (530, ⟨.auto, some (.c (.int .i64 x52))⟩), (534, ⟨.auto, some (.c (.int .u8 x54))⟩), (538, ⟨.auto, some (.c (.int .i64 x56))⟩), (550, ⟨.auto, some (.c (.int .i64 x58))⟩), (551, ⟨.auto, some (.c (.int .i64 x60))⟩), (555, ⟨.auto, some (.c (.int .u8 x62))⟩), (559, ⟨.auto, some (.c (.int .i64 x64))⟩), (571, ⟨.auto, some (.c (.int .i64 x66))⟩), (572, ⟨.auto, some (.c (.int .i64 x68))⟩), (576, ⟨.auto, some (.c (.int .u8 x70))⟩), (580, ⟨.auto, some (.c (.int .i64 x72))⟩), (592, ⟨.auto, some (.c (.int .i64 x74))⟩), (593, ⟨.auto, some (.c (.int .i64 x76))⟩), (597, ⟨.auto, some (.c (.int .u8 x78))⟩), (601, ⟨.auto, some (.c (.int .i64 x80))⟩), (613, ⟨.auto, some (.c (.int .i64 x82))⟩), (614, ⟨.auto, some (.c (.int .i64 x84))⟩), (618, ⟨.auto, some (.c (.int .u8 x86))⟩), (622, ⟨.auto, some (.c (.int .i64 x88))⟩), (634, ⟨.auto, some (.c (.int .i64 x90))⟩), (635, ⟨.auto, some (.c (.int .i64 x92))⟩), (639, ⟨.auto, some (.c (.int .u8 x94))⟩), (643, ⟨.auto, some (.c (.int .i64 x96))⟩), (655, ⟨.auto, some (.c (.int .i64 x98))⟩), (656, ⟨.auto, some (.c (.int .i64 x100))⟩), (660, ⟨.auto, some (.c (.int .u8 x102))⟩), (664, ⟨.auto, some (.c (.int .i64 x104))⟩), (676, ⟨.auto, some (.c (.int .i64 x106))⟩), (677, ⟨.auto, some (.c (.int .i64 x108))⟩), (681, ⟨.auto, some (.c (.int .u8 x110))⟩), (685, ⟨.auto, some (.c (.int .i64 x112))⟩), (697, ⟨.auto, some (.c (.int .i64 x114))⟩), (698, ⟨.auto, some (.c (.int .i64 x116))⟩), (702, ⟨.auto, some (.c (.int .u8 x118))⟩), (706, ⟨.auto, some (.c (.int .i64 x120))⟩), (718, ⟨.auto, some (.c (.int .i64 x122))⟩), (719, ⟨.auto, some (.c (.int .i64 x124))⟩), (723, ⟨.auto, some (.c (.int .u8 x126))⟩), (727, ⟨.auto, some (.c (.int .i64 x128))⟩), (735, ⟨.call [] (.c (.bool (true))) [] [], none⟩), (739, ⟨.call [209] (.aggi .u8 [r18_130, r18_131, r18_132, r18_133, r18_134, r18_135, r18_136, r18_137, r18_138, r18_139, r18_140, r18_141, r18_142, r18_143, r18_144, r18_145]) [] [], none⟩), (741, ⟨.auto, some (.c (.bool (true)))⟩)])
    (cs := [EB ([r18_130, r18_131, r18_132, r18_133, r18_134, r18_135, r18_136, r18_137, r18_138, r18_139, r18_140, r18_141, r18_142, r18_143, r18_144, r18_145] == List.take 16 (List.drop 0 (splice (splice (splice (splice (splice (splice (splice (splice (splice (splice (splice (splice (splice (splice (splice (splice (splice [0, 0, 0, 0, 0, 0, 0, 0, 0, 0, 0, 0, 0, 0, 0, 0] 0 (List.take 16 (List.drop 0 [s0, s1, s2, s3, s4, s5, s6, s7, s8, s9, s10, s11, s12, s13, s14, s15]))) 0 [x6]) 1 [x14]) 2 [x22]) 3 [x30]) 4 [x38]) 5 [x46]) 6 [x54]) 7 [x62]) 8 [x70]) 9 [x78]) 10 [x86]) 11 [x94]) 12 [x102]) 13 [x110]) 14 [x118]) 15 [x126]))) true,
      Contract Try.prog 18 [(.aggi .u8 [1, 0, 0, 0, 0, 0, 0, 0, 0, 0, 0, 0, 0, 0, 0, 0, s0, s1, s2, s3, s4, s5, s6, s7, s8, s9, s10, s11, s12, s13, s14, s15]), (.c (.sl 209 0 0 288 1))] [(209, (.one ⟨true, true, (.ints .u8 [1, 0, 0, 0, 0, 0, 0, 0, 0, 0, 0, 0, 0, 0, 0, 0, 2, 0, 0, 0, 0, 0, 0, 0, 0, 0, 0, 0, 0, 0, 0, 0, 3, 0, 0, 0, 0, 0, 0, 0, 0, 0, 0, 0, 0, 0, 0, 0, 4, 0, 0, 0, 0, 0, 0, 0, 0, 0, 0, 0, 0, 0, 0, 0, 5, 0, 0, 0, 0, 0, 0, 0, 0, 0, 0, 0, 0, 0, 0, 0, 6, 0, 0, 0, 0, 0, 0, 0, 0, 0, 0, 0, 0, 0, 0, 0, 7, 0, 0, 0, 0, 0, 0, 0, 0, 0, 0, 0, 0, 0, 0, 0, 8, 0, 0, 0, 0, 0, 0, 0, 0, 0, 0, 0, 0, 0, 0, 0, 9, 0, 0, 0, 0, 0, 0, 0, 0, 0, 0, 0, 0, 0, 0, 0, 10, 0, 0, 0, 0, 0, 0, 0, 0, 0, 0, 0, 0, 0, 0, 0, 11, 0, 0, 0, 0, 0, 0, 0, 0, 0, 0, 0, 0, 0, 0, 0, 12, 0, 0, 0, 0, 0, 0, 0, 0, 0, 0, 0, 0, 0, 0, 0, 13, 0, 0, 0, 0, 0, 0, 0, 0, 0, 0, 0, 0, 0, 0, 0, 14, 0, 0, 0, 0, 0, 0, 0, 0, 0, 0, 0, 0, 0, 0, 0, 15, 0, 0, 0, 0, 0, 0, 0, 0, 0, 0, 0, 0, 0, 0, 0, 16, 0, 0, 0, 0, 0, 0, 0, 0, 0, 0, 0, 0, 0, 0, 0, 17, 0, 0, 0, 0, 0, 0, 0, 0, 0, 0, 0, 0, 0, 0, 0, 18, 0, 0, 0, 0, 0, 0, 0, 0, 0, 0, 0, 0, 0, 0, 0])⟩))] 11249 (.aggi .u8 [r18_130, r18_131, r18_132, r18_133, r18_134, r18_135, r18_136, r18_137, r18_138, r18_139, r18_140, r18_141, r18_142, r18_143, r18_144, r18_145]) [] [],
      Contract Try.prog 19 [] [] 11185 (.c (.bool (true))) [] [],
      EI .i64 (IntKind.wrap IntKind.i64 (Int.tdiv x124 256)) x128,
      EI .u8 (x124 % 256) x126,
      EI .i64 (IntKind.wrap IntKind.i64 (x120 + x122)) x124,
      EI .i64 (IntKind.wrap IntKind.i64 s15) x122,
      EI .i64 (IntKind.wrap IntKind.i64 (Int.tdiv x116 256)) x120,
      EI .u8 (x116 % 256) x118,
      EI .i64 (IntKind.wrap IntKind.i64 (x112 + x114)) x116,
      EI .i64 (IntKind.wrap IntKind.i64 s14) x114,
      EI .i64 (IntKind.wrap IntKind.i64 (Int.tdiv x108 256)) x112,
      EI .u8 (x108 % 256) x110,
      EI .i64 (IntKind.wrap IntKind.i64 (x104 + x106)) x108,
      EI .i64 (IntKind.wrap IntKind.i64 s13) x106,
      EI .i64 (IntKind.wrap IntKind.i64 (Int.tdiv x100 256)) x104,
      EI .u8 (x100 % 256) x102,
      EI .i64 (IntKind.wrap IntKind.i64 (x96 + x98)) x100,
      EI .i64 (IntKind.wrap IntKind.i64 s12) x98,
      EI .i64 (IntKind.wrap IntKind.i64 (Int.tdiv x92 256)) x96,
      EI .u8 (x92 % 256) x94,
      EI .i64 (IntKind.wrap IntKind.i64 (x88 + x90)) x92,
      EI .i64 (IntKind.wrap IntKind.i64 s11) x90,
      EI .i64 (IntKind.wrap IntKind.i64 (Int.tdiv x84 256)) x88,
      EI .u8 (x84 % 256) x86,
      EI .i64 (IntKind.wrap IntKind.i64 (x80 + x82)) x84,
      EI .i64 (IntKind.wrap IntKind.i64 s10) x82,
      EI .i64 (IntKind.wrap IntKind.i64 (Int.tdiv x76 256)) x80,
      EI .u8 (x76 % 256) x78,
      EI .i64 (IntKind.wrap IntKind.i64 (x72 + x74)) x76,
      EI .i64 (IntKind.wrap IntKind.i64 s9) x74,
      EI .i64 (IntKind.wrap IntKind.i64 (Int.tdiv x68 256)) x72,
      EI .u8 (x68 % 256) x70,
      EI .i64 (IntKind.wrap IntKind.i64 (x64 + x66)) x68,
      EI .i64 (IntKind.wrap IntKind.i64 s8) x66,
      EI .i64 (IntKind.wrap IntKind.i64 (Int.tdiv x60 256)) x64,
      EI .u8 (x60 % 256) x62,
      EI .i64 (IntKind.wrap IntKind.i64 (x56 + x58)) x60,
      EI .i64 (IntKind.wrap IntKind.i64 s7) x58,
      EI .i64 (IntKind.wrap IntKind.i64 (Int.tdiv x52 256)) x56,
      EI .u8 (x52 % 256) x54,
      EI .i64 (IntKind.wrap IntKind.i64 (x48 + x50)) x52,
      EI .i64 (IntKind.wrap IntKind.i64 s6) x50,
      EI .i64 (IntKind.wrap IntKind.i64 (Int.tdiv x44 256)) x48,
      EI .u8 (x44 % 256) x46,
      EI .i64 (IntKind.wrap IntKind.i64 (x40 + x42)) x44,
      EI .i64 (IntKind.wrap IntKind.i64 s5) x42,
      EI .i64 (IntKind.wrap IntKind.i64 (Int.tdiv x36 256)) x40,
      EI .u8 (x36 % 256) x38,
      EI .i64 (IntKind.wrap IntKind.i64 (x32 + x34)) x36,
      EI .i64 (IntKind.wrap IntKind.i64 s4) x34,
      EI .i64 (IntKind.wrap IntKind.i64 (Int.tdiv x28 256)) x32,
      EI .u8 (x28 % 256) x30,
      EI .i64 (IntKind.wrap IntKind.i64 (x24 + x26)) x28,
      EI .i64 (IntKind.wrap IntKind.i64 s3) x26,
      EI .i64 (IntKind.wrap IntKind.i64 (Int.tdiv x20 256)) x24,
      EI .u8 (x20 % 256) x22,
      EI .i64 (IntKind.wrap IntKind.i64 (x16 + x18)) x20,
      EI .i64 (IntKind.wrap IntKind.i64 s2) x18,
      EI .i64 (IntKind.wrap IntKind.i64 (Int.tdiv x12 256)) x16,
      EI .u8 (x12 % 256) x14,
      EI .i64 (IntKind.wrap IntKind.i64 (x8 + x10)) x12,
      EI .i64 (IntKind.wrap IntKind.i64 s1) x10,
      EI .i64 (IntKind.wrap IntKind.i64 (Int.tdiv x4 256)) x8,
      EI .u8 (x4 % 256) x6,
      EI .i64 (IntKind.wrap IntKind.i64 (191 + x2)) x4,
      EI .i64 (IntKind.wrap IntKind.i64 s0) x2,
      Contract Try.prog 21 [(.c (.int .i64 n)), (.c (.int .i64 20))] [] 49 (.c (.int .i64 18)) [] []])
    mixed Try.func7 (by kernel_rfl) (by kernel_rfl) (by kernel_rfl) rfl (by kernel_rfl) ⟨.mk h147, c146.ro [(209, (1, true))] rfl (by kernel_rfl) rfl (by kernel_rfl) rfl rfl _, c129.use (by kernel_rfl) rfl rfl _ _, .mk h127, .mk h125, .mk h123, .mk h121, .mk h119, .mk h117, .mk h115, .mk h113, .mk h111, .mk h109, .mk h107, .mk h105, .mk h103, .mk h101, .mk h99, .mk h97, .mk h95, .mk h93, .mk h91, .mk h89, .mk h87, .mk h85, .mk h83, .mk h81, .mk h79, .mk h77, .mk h75, .mk h73, .mk h71, .mk h69, .mk h67, .mk h65, .mk h63, .mk h61, .mk h59, .mk h57, .mk h55, .mk h53, .mk h51, .mk h49, .mk h47, .mk h45, .mk h43, .mk h41, .mk h39, .mk h37, .mk h35, .mk h33, .mk h31, .mk h29, .mk h27, .mk h25, .mk h23, .mk h21, .mk h19, .mk h17, .mk h15, .mk h13, .mk h11, .mk h9, .mk h7, .mk h5, .mk h3, .mk h1, c0.use (by kernel_rfl) rfl rfl _ _, trivial⟩

theorem run7_19 (s0 s1 s2 s3 s4 s5 s6 s7 s8 s9 s10 s11 s12 s13 s14 s15 n x2 x4 x6 x8 x10 x12 x14 x16 x18 x20 x22 x24 x26 x28 x30 x32 x34 x36 x38 x40 x42 x44 x46 x48 x50 x52 x54 x56 x58 x60 x62 x64 x66 x68 x70 x72 x74 x76 x78 x80 x82 x84 x86 x88 x90 x92 x94 x96 x98 x100 x102 x104 x106 x108 x110 x112 x114 x116 x118 x120 x122 x124 x126 x128 r18_130 r18_131 r18_132 r18_133 r18_134 r18_135 r18_136 r18_137 r18_138 r18_139 r18_140 r18_141 r18_142 r18_143 r18_144 r18_145 : Int)
    (c0 : PureF Try.prog 21 [(.c (.int .i64 n)), (.c (.int .i64 20))] (.c (.int .i64 19)))
    (h1 : (IntKind.wrap IntKind.i64 s0) = x2)
    (h3 : (IntKind.wrap IntKind.i64 (210 + x2)) = x4)
    (h5 : (x4 % 256) = x6)
    (h7 : (IntKind.wrap IntKind.i64 (Int.tdiv x4 256)) = x8)
    (h9 : (IntKind.wrap IntKind.i64 s1) = x10)
    (h11 : (IntKind.wrap IntKind.i64 (x8 + x10)) = x12)
    (h13 : (x12 % 256) = x14)
    (h15 : (IntKind.wrap IntKind.i64 (Int.tdiv x12 256)) = x16)
    (h17 : (IntKind.wrap IntKind.i64 s2) = x18)
    (h19 : (IntKind.wrap IntKind.i64 (x16 + x18)) = x20)
    (h21 : (x20 % 256) = x22)
    (h23 : (IntKind.wrap IntKind.i64 (Int.tdiv x20 256)) = x24)
    (h25 : (IntKind.wrap IntKind.i64 s3) = x26)
    (h27 : (IntKind.wrap IntKind.i64 (x24 + x26)) = x28)
    (h29 : (x28 % 256) = x30)
    (h31 : (IntKind.wrap IntKind.i64 (Int.tdiv x28 256)) = x32)
    (h33 : (IntKind.wrap IntKind.i64 s4) = x34)
    (h35 : (IntKind.wrap IntKind.i64 (x32 + x34)) = x36)
    (h37 : (x36 % 256) = x38)
    (h39 : (IntKind.wrap IntKind.i64 (Int.tdiv x36 256)) = x40)
    (h41 : (IntKind.wrap IntKind.i64 s5) = x42)
    (h43 : (IntKind.wrap IntKind.i64 (x40 + x42)) = x44)
    (h45 : (x44 % 256) = x46)
    (h47 : (IntKind.wrap IntKind.i64 (Int.tdiv x44 256)) = x48)
    (h49 : (IntKind.wrap IntKind.i64 s6) = x50)
    (h51 : (IntKind.wrap IntKind.i64 (x48 + x50)) = x52)
    (h53 : (x52 % 256) = x54)
    (h55 : (IntKind.wrap IntKind.i64 (Int.tdiv x52 256)) = x56)
    (h57 : (IntKind.wrap IntKind.i64 s7) = x58)
    (h59 : (IntKind.wrap IntKind.i64 (x56 + x58)) = x60)
    (h61 : (x60 % 256) = x62)
    (h63 : (IntKind.wrap IntKind.i64 (Int.tdiv x60 256)) = x64)
    (h65 : (IntKind.wrap IntKind.i64 s8) = x66)
    (h67 : (IntKind.wrap IntKind.i64 (x64 + x66)) = x68)
    (h69 : (x68 % 256) = x70)
    (h71 : (IntKind.wrap IntKind.i64 (Int.tdiv x68 256)) = x72)
    (h73 : (IntKind.wrap IntKind.i64 s9) = x74)
    (h75 : (IntKind.wrap IntKind.i64 (x72 + x74)) = x76)
    (h77 : (x76 % 256) = x78)
    (h79 : (IntKind.wrap IntKind.i64 (Int.tdiv x76 256)) = x80)
    (h81 : (IntKind.wrap IntKind.i64 s10) = x82)
    (h83 : (IntKind.wrap IntKind.i64 (x80 + x82)) = x84)
    (h85 : (x84 % 256) = x86)
    (h87 : (IntKind.wrap IntKind.i64 (Int.tdiv x84 256)) = x88)
    (h89 : (IntKind.wrap IntKind.i64 s11) = x90)
    (h91 : (IntKind.wrap IntKind.i64 (x88 + x90)) = x92)
    (h93 : (x92 % 256) = x94)
    (h95 : (IntKind.wrap IntKind.i64 (Int.tdiv x92 256)) = x96)
    (h97 : (IntKind.wrap IntKind.i64 s12) = x98)
    (h99 : (IntKind.wrap IntKind.i64 (x96 + x98)) = x100)
    (h101 : (x100 % 256) = x102)
    (h103 : (IntKind.wrap IntKind.i64 (Int.tdiv x100 256)) = x104)
    (h105 : (IntKind.wrap IntKind.i64 s13) = x106)
    (h107 : (IntKind.wrap IntKind.i64 (x104 + x106)) = x108)
    (h109 : (x108 % 256) = x110)
    (h111 : (IntKind.wrap IntKind.i64 (Int.tdiv x108 256)) = x112)
    (h113 : (IntKind.wrap IntKind.i64 s14) = x114)
    (h115 : (IntKind.wrap IntKind.i64 (x112 + x114)) = x116)
    (h117 : (x116 % 256) = x118)
    (h119 : (IntKind.wrap IntKind.i64 (Int.tdiv x116 256)) = x120)
    (h121 : (IntKind.wrap IntKind.i64 s15) = x122)
    (h123 : (IntKind.wrap IntKind.i64 (x120 + x122)) = x124)
    (h125 : (x124 % 256) = x126)
    (h127 : (IntKind.wrap IntKind.i64 (Int.tdiv x124 256)) = x128)
    (c129 : PureF Try.prog 19 [] (.c (.bool (true))))
    (c146 : Contract0 Try.prog 18 [(.aggi .u8 [1, 0, 0, 0, 0, 0, 0, 0, 0, 0, 0, 0, 0, 0, 0, 0, s0, s1, s2, s3, s4, s5, s6, s7, s8, s9, s10, s11, s12, s13, s14, s15]), (.c (.sl 1 0 0 304 1))] [(1, (.one ⟨false, true, (.ints .u8 [1, 0, 0, 0, 0, 0, 0, 0, 0, 0, 0, 0, 0, 0, 0, 0, 2, 0, 0, 0, 0, 0, 0, 0, 0, 0, 0, 0, 0, 0, 0, 0, 3, 0, 0, 0, 0, 0, 0, 0, 0, 0, 0, 0, 0, 0, 0, 0, 4, 0, 0, 0, 0, 0, 0, 0, 0, 0, 0, 0, 0, 0, 0, 0, 5, 0, 0, 0, 0, 0, 0, 0, 0, 0, 0, 0, 0, 0, 0, 0, 6, 0, 0, 0, 0, 0, 0, 0, 0, 0, 0, 0, 0, 0, 0, 0, 7, 0, 0, 0, 0, 0, 0, 0, 0, 0, 0, 0, 0, 0, 0, 0, 8, 0, 0, 0, 0, 0, 0, 0, 0, 0, 0, 0, 0, 0, 0, 0, 9, 0, 0, 0, 0, 0, 0, 0, 0, 0, 0, 0, 0, 0, 0, 0, 10, 0, 0, 0, 0, 0, 0, 0, 0, 0, 0, 0, 0, 0, 0, 0, 11, 0, 0, 0, 0, 0, 0, 0, 0, 0, 0, 0, 0, 0, 0, 0, 12, 0, 0, 0, 0, 0, 0, 0, 0, 0, 0, 0, 0, 0, 0, 0, 13, 0, 0, 0, 0, 0, 0, 0, 0, 0, 0, 0, 0, 0, 0, 0, 14, 0, 0, 0, 0, 0, 0, 0, 0, 0, 0, 0, 0, 0, 0, 0, 15, 0, 0, 0, 0, 0, 0, 0, 0, 0, 0, 0, 0, 0, 0, 0, 16, 0, 0, 0, 0, 0, 0, 0, 0, 0, 0, 0, 0, 0, 0, 0, 17, 0, 0, 0, 0, 0, 0, 0, 0, 0, 0, 0, 0, 0, 0, 0, 18, 0, 0, 0, 0, 0, 0, 0, 0, 0, 0, 0, 0, 0, 0, 0, 19, 0, 0, 0, 0, 0, 0, 0, 0, 0, 0, 0, 0, 0, 0, 0])⟩))] 2 (.aggi .u8 [r18_130, r18_131, r18_132, r18_133, r18_134, r18_135, r18_136, r18_137, r18_138, r18_139, r18_140, r18_141, r18_142, r18_143, r18_144, r18_145]) [] [])
    (h147 : ([r18_130, r18_131, r18_132, r18_133, r18_134, r18_135, r18_136, r18_137, r18_138, r18_139, r18_140, r18_141, r18_142, r18_143, r18_144, r18_145] == List.take 16 (List.drop 0 (splice (splice (splice (splice (splice (splice (splice (splice (splice (splice (splice (splice (splice (splice (splice (splice (splice [0, 0, 0, 0, 0, 0, 0, 0, 0, 0, 0, 0, 0, 0, 0, 0] 0 (List.take 16 (List.drop 0 [s0, s1, s2, s3, s4, s5, s6, s7, s8, s9, s10, s11, s12, s13, s14, s15]))) 0 [x6]) 1 [x14]) 2 [x22]) 3 [x30]) 4 [x38]) 5 [x46]) 6 [x54]) 7 [x62]) 8 [x70]) 9 [x78]) 10 [x86]) 11 [x94]) 12 [x102]) 13 [x110]) 14 [x118]) 15 [x126]))) = true)   :
    PureF Try.prog 7 [(.aggi .u8 [s0, s1, s2, s3, s4, s5, s6, s7, s8, s9, s10, s11, s12, s13, s14, s15]), (.c (.int .i64 n))] (.c (.bool (true))) :=
  Contract0.of_frun (fn := Try.f7) (c := bodyOf Try.f7) (fuel := 5000) (k := kOf Try.prog Try.f7) (outs := []) (hs := [(3, ⟨.call [] (.c (.int .i64 19)) [] [], none⟩), (423, ⟨.auto, some (.c (.int .i64 x2))⟩), (424, ⟨.auto, some (.c (.int .i64 x4))⟩), (428, ⟨.auto, some (.c (.int .u8 x6))⟩), (432, ⟨.auto, some (.c (.int .i64 x8))⟩), (444, ⟨.auto, some (.c (.int .i64 x10))⟩), (445, ⟨.auto, some (.c (.int .i64 x12))⟩), (449, ⟨.auto, some (.c (.int .u8 x14))⟩), (453, ⟨.auto, some (.c (.int .i64 x16))⟩), (465, ⟨.auto, some (.c (.int .i64 x18))⟩), (466, ⟨.auto, some (.c (.int .i64 x20))⟩), (470, ⟨.auto, some (.c (.int .u8 x22))⟩), (474, ⟨.auto, some (.c (.int .i64 x24))⟩), (486, ⟨.auto, some (.c (.int .i64 x26))⟩), (487, ⟨.auto, some (.c (.int .i64 x28))⟩), (491, ⟨.auto, some (.c (.int .u8 x30))⟩), (495, ⟨.auto, some (.c (.int .i64 x32))⟩), (507, ⟨.auto, some (.c (.int .i64 x34))⟩), (508, ⟨.auto, some (.c (.int .i64 x36))⟩), (512, ⟨.auto, some (.c (.int .u8 x38))⟩), (516, ⟨.auto, some (.c (.int .i64 x40))⟩), (528, ⟨.auto, some (.c (.int .i64 x42))⟩), (529, ⟨.auto, some (.c (.int .i64 x44))⟩), (533, ⟨.auto, some (.c (.int .u8 x46))⟩), (537, ⟨.auto, some (.c (.int .i64 x48))⟩), (549, ⟨.auto, some (.c (.int .i64 x50))⟩), (550, ⟨.auto, some (.c (.int .i64 x52))⟩), (554, ⟨.auto, some (.c (.int .u8 x54))⟩), (558, ⟨.auto, some (.c (.int .i64 x56))⟩), (570, ⟨.auto, some (.c (.int .i64 x58))⟩), (571, ⟨.auto, some (.c (.int .i64 x60))⟩), (575, ⟨.auto, some (.c (.int .u8 x62))⟩), (579, ⟨.auto, some (.c (.int .i64 x64))⟩), (591, ⟨.auto, some (.c (.int .i64 x66))⟩), (592, ⟨.auto, some (.c (.int .i64 x68))⟩), (596, ⟨.auto, some (.c (.int .u8 x70))⟩), (600, ⟨.auto, some (.c (.int .i64 x72))⟩), (612, ⟨.auto, some (.c (.int .i64 x74))⟩), (613, ⟨.auto, some (.c (.int .i64 x76))⟩), (617, ⟨.auto, some (.c (.int .u8 x78))⟩), (621, ⟨.auto, some (.c (.int .i64 x80))⟩), (633, ⟨.auto, some (.c (.int .i64 x82))⟩), (634, ⟨.auto, some (.c (.int .i64 x84))⟩), (638, ⟨.auto, some (.c (.int .u8 x86))⟩), (642, ⟨.auto, some (.c (.int .i64 x88))⟩), (654, ⟨.auto, some (.c (.int .i64 x90))⟩), (655, ⟨.auto, some (.c (.int .i64 x92))⟩), (659, ⟨.auto, some (.c (.int .u8 x94))⟩), (663, ⟨.auto, some (.c (.int .i64 x96))⟩), (675, ⟨.auto, some (.c (.int .i64 x98))⟩), (676, ⟨.auto, some (.c (.int .i64 x100))⟩), (680, ⟨.auto, some (.c (.int .u8 x102))⟩), (684, ⟨.auto, some (.c (.int .i64 x104))⟩), (696, ⟨.auto, some (.c (.int .i64 x106))⟩), (697, ⟨.auto, some (.c (.int .i64 x108))⟩), (701, ⟨.auto, some (.c (.int .u8 x110))⟩), (705, ⟨.auto, some (.c (.int .i64 x112))⟩), (717, ⟨.auto, some (.c (.int .i64 x114))⟩), (718, ⟨.auto, some (.c (.int .i64 x116))⟩), (722, ⟨.auto, some (.c (.int .u8 x118))⟩), (726, ⟨.auto, some (.c (.int .i64 x120))⟩), (738, ⟨.auto, some (.c (.int .i64 x122))⟩), (739, ⟨.auto, some (.c (.int .i64 x124))⟩), (743, ⟨.auto, some (.c (.int .u8 x126))⟩), (747, ⟨.auto, some (.c (.int .i64 x128))⟩), (755, ⟨.call [] (.c (.bool (true))) [] [], none⟩), (759, ⟨.call [209] (.aggi .u8 [r18_130, r18_131, r18_132, r18_133, r18_134, r18_135, r18_136, r18_137, r18_138, r18_139, r18_140, r18_141, r18_142, r18_143, r18_144, r18_145]) [] [], none⟩), (761, ⟨.auto, some (.c (.bool (true)))⟩)])
    (cs := [EB ([r18_130, r18_131, r18_132, r18_133, r18_134, r18_135, r18_136, r18_137, r18_138, r18_139, r18_140, r18_141, r18_142, r18_143, r18_144, r18_145] == List.take 16 (List.drop 0 (splice (splice (splice (splice (splice (splice (splice (splice (splice (splice (splice (splice (splice (splice (splice (splice (splice [0, 0, 0, 0, 0, 0, 0, 0, 0, 0, 0, 0, 0, 0, 0, 0] 0 (List.take 16 (List.drop 0 [s0, s1, s2, s3, s4, s5, s6, s7, s8, s9, s10, s11, s12, s13, s14, s15]))) 0 [x6]) 1 [x14]) 2 [x22]) 3 [x30]) 4 [x38]) 5 [x46]) 6 [x54]) 7 [x62]) 8 [x70]) 9 [x78]) 10 [x86]) 11 [x94]) 12 [x102]) 13 [x110]) 14 [x118]) 15 [x126]))) true,
      Contract Try.prog 18 [(.aggi .u8 [1, 0, 0, 0, 0, 0, 0, 0, 0, 0, 0, 0, 0, 0, 0, 0, s0, s1, s2, s3, s4, s5, s6, s7, s8, s9, s10, s11, s12, s13, s14, s15]), (.c (.sl 209 0 0 304 1))] [(209, (.one ⟨true, true, (.ints .u8 [1, 0, 0, 0, 0, 0, 0, 0, 0, 0, 0, 0, 0, 0, 0, 0, 2, 0, 0, 0, 0, 0, 0, 0, 0, 0, 0, 0, 0, 0, 0, 0, 3, 0, 0, 0, 0, 0, 0, 0, 0, 0, 0, 0, 0, 0, 0, 0, 4, 0, 0, 0, 0, 0, 0, 0, 0, 0, 0, 0, 0, 0, 0, 0, 5, 0, 0, 0, 0, 0, 0, 0, 0, 0, 0, 0, 0, 0, 0, 0, 6, 0, 0, 0, 0, 0, 0, 0, 0, 0, 0, 0, 0, 0, 0, 0, 7, 0, 0, 0, 0, 0, 0, 0, 0, 0, 0, 0, 0, 0, 0, 0, 8, 0, 0, 0, 0, 0, 0, 0, 0, 0, 0, 0, 0, 0, 0, 0, 9, 0, 0, 0, 0, 0, 0, 0, 0, 0, 0, 0, 0, 0, 0, 0, 10, 0, 0, 0, 0, 0, 0, 0, 0, 0, 0, 0, 0, 0, 0, 0, 11, 0, 0, 0, 0, 0, 0, 0, 0, 0, 0, 0, 0, 0, 0, 0, 12, 0, 0, 0, 0, 0, 0, 0, 0, 0, 0, 0, 0, 0, 0, 0, 13, 0, 0, 0, 0, 0, 0, 0, 0, 0, 0, 0, 0, 0, 0, 0, 14, 0, 0, 0, 0, 0, 0, 0, 0, 0, 0, 0, 0, 0, 0, 0, 15, 0, 0, 0, 0, 0, 0, 0, 0, 0, 0, 0, 0, 0, 0, 0, 16, 0, 0, 0, 0, 0, 0, 0, 0, 0, 0, 0, 0, 0, 0, 0, 17, 0, 0, 0, 0, 0, 0, 0, 0, 0, 0, 0, 0, 0, 0, 0, 18, 0, 0, 0, 0, 0, 0, 0, 0, 0, 0, 0, 0, 0, 0, 0, 19, 0, 0, 0, 0, 0, 0, 0, 0, 0, 0, 0, 0, 0, 0, 0])⟩))] 11553 (.aggi .u8 [r18_130, r18_131, r18_132, r18_133, r18_134, r18_135, r18_136, r18_137, r18_138, r18_139, r18_140, r18_141, r18_142, r18_143, r18_144, r18_145]) [] [],
      Contract Try.prog 19 [] [] 11489 (.c (.bool (true))) [] [],
      EI .i64 (IntKind.wrap IntKind.i64 (Int.tdiv x124 256)) x128,
      EI .u8 (x124 % 256) x126,
      EI .i64 (IntKind.wrap IntKind.i64 (x120 + x122)) x124,
      EI .i64 (IntKind.wrap IntKind.i64 s15) x122,
      EI .i64 (IntKind.wrap IntKind.i64 (Int.tdiv x116 256)) x120,
      EI .u8 (x116 % 256) x118,
      EI .i64 (IntKind.wrap IntKind.i64 (x112 + x114)) x116,
      EI .i64 (IntKind.wrap IntKind.i64 s14) x114,
      EI .i64 (IntKind.wrap IntKind.i64 (Int.tdiv x108 256)) x112,
      EI .u8 (x108 % 256) x110,
      EI .i64 (IntKind.wrap IntKind.i64 (x104 + x106)) x108,
      EI .i64 (IntKind.wrap IntKind.i64 s13) x106,
      EI .i64 (IntKind.wrap IntKind.i64 (Int.tdiv x100 256)) x104,
      EI .u8 (x100 % 256) x102,
      EI .i64 (IntKind.wrap IntKind.i64 (x96 + x98)) x100,
      EI .i64 (IntKind.wrap IntKind.i64 s12) x98,
      EI .i64 (IntKind.wrap IntKind.i64 (Int.tdiv x92 256)) x96,
      EI .u8 (x92 % 256) x94,
      EI .i64 (IntKind.wrap IntKind.i64 (x88 + x90)) x92,
      EI .i64 (IntKind.wrap IntKind.i64 s11) x90,
      EI .i64 (IntKind.wrap IntKind.i64 (Int.tdiv x84 256)) x88,
      EI .u8 (x84 % 256) x86,
      EI .i64 (IntKind.wrap IntKind.i64 (x80 + x82)) x84,
      EI .i64 (IntKind.wrap IntKind.i64 s10) x82,
      EI .i64 (IntKind.wrap IntKind.i64 (Int.tdiv x76 256)) x80,
      EI .u8 (x76 % 256) x78,
      EI .i64 (IntKind.wrap IntKind.i64 (x72 + x74)) x76,
      EI .i64 (IntKind.wrap IntKind.i64 s9) x74,
      EI .i64 (IntKind.wrap IntKind.i64 (Int.tdiv x68 256)) x72,
      EI .u8 (x68 % 256) x70,
      EI .i64 (IntKind.wrap IntKind.i64 (x64 + x66)) x68,
      EI .i64 (IntKind.wrap IntKind.i64 s8) x66,
      EI .i64 (IntKind.wrap IntKind.i64 (Int.tdiv x60 256)) x64,
      EI .u8 (x60 % 256) x62,
      EI .i64 (IntKind.wrap IntKind.i64 (x56 + x58)) x60,
      EI .i64 (IntKind.wrap IntKind.i64 s7) x58,
      EI .i64 (IntKind.wrap IntKind.i64 (Int.tdiv x52 256)) x56,
      EI .u8 (x52 % 256) x54,
      EI .i64 (IntKind.wrap IntKind.i64 (x48 + x50)) x52,
      EI .i64 (IntKind.wrap IntKind.i64 s6) x50,
      EI .i64 (IntKind.wrap IntKind.i64 (Int.tdiv x44 256)) x48,
      EI .u8 (x44 % 256) x46,
      EI .i64 (IntKind.wrap IntKind.i64 (x40 + x42)) x44,
      EI .i64 (IntKind.wrap IntKind.i64 s5) x42,
      EI .i64 (IntKind.wrap IntKind.i64 (Int.tdiv x36 256)) x40,
      EI .u8 (x36 % 256) x38,
      EI .i64 (IntKind.wrap IntKind.i64 (x32 + x34)) x36,
      EI .i64 (IntKind.wrap IntKind.i64 s4) x34,
      EI .i64 (IntKind.wrap IntKind.i64 (Int.tdiv x28 256)) x32,
      EI .u8 (x28 % 256) x30,
      EI .i64 (IntKind.wrap IntKind.i64 (x24 + x26)) x28,
      EI .i64 (IntKind.wrap IntKind.i64 s3) x26,
      EI .i64 (IntKind.wrap IntKind.i64 (Int.tdiv x20 256)) x24,
      EI .u8 (x20 % 256) x22,
      EI .i64 (IntKind.wrap IntKind.i64 (x16 + x18)) x20,
      EI .i64 (IntKind.wrap IntKind.i64 s2) x18,
      EI .i64 (IntKind.wrap IntKind.i64 (Int.tdiv x12 256)) x16,
      EI .u8 (x12 % 256) x14,
      EI .i64 (IntKind.wrap IntKind.i64 (x8 + x10)) x12,
      EI .i64 (IntKind.wrap IntKind.i64 s1) x10,
      EI .i64 (IntKind.wrap IntKind.i64 (Int.tdiv x4 256)) x8,
      EI .u8 (x4 % 256) x6,
      EI .i64 (IntKind.wrap IntKind.i64 (210 + x2)) x4,
      EI .i64 (IntKind.wrap IntKind.i64 s0) x2,
      Contract Try.prog 21 [(.c (.int .i64 n)), (.c (.int .i64 20))] [] 49 (.c (.int .i64 19)) [] []])
    mixed Try.func7 (by kernel_rfl) (by kernel_rfl) (by kernel_rfl) rfl (by kernel_rfl) ⟨.mk h147, c146.ro [(209, (1, true))] rfl (by kernel_rfl) rfl (by kernel_rfl) rfl rfl _, c129.use (by kernel_rfl) rfl rfl _ _, .mk h127, .mk h125, .mk h123, .mk h121, .mk h119, .mk h117, .mk h115, .mk h113, .mk h111, .mk h109, .mk h107, .mk h105, .mk h103, .mk h101, .mk h99, .mk h97, .mk h95, .mk h93, .mk h91, .mk h89, .mk h87, .mk h85, .mk h83, .mk h81, .mk h79, .mk h77, .mk h75, .mk h73, .mk h71, .mk h69, .mk h67, .mk h65, .mk h63, .mk h61, .mk h59, .mk h57, .mk h55, .mk h53, .mk h51, .mk h49, .mk h47, .mk h45, .mk h43, .mk h41, .mk h39, .mk h37, .mk h35, .mk h33, .mk h31, .mk h29, .mk h27, .mk h25, .mk h23, .mk h21, .mk h19, .mk h17, .mk h15, .mk h13, .mk h11, .mk h9, .mk h7, .mk h5, .mk h3, .mk h1, c0.use (by kernel_rfl) rfl rfl _ _, trivial⟩

end Go.Proofs.Ytokhfkjkeebfpaa.Vm
