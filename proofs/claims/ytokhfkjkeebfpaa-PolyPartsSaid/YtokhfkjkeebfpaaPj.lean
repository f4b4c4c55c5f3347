/- What functions of the program come to: parts of the walk (Pj). -/
import Derived.Test.YtokhfkjkeebfpaaPw
import Derived.Test.YtokhfkjkeebfpaaPe
import Derived.KernelRfl
import Derived.Test.YtokhfkjkeebfpaaProg
namespace Go.Proofs.Ytokhfkjkeebfpaa.Vm
open Go Go.Proofs Go.Proofs.Ytokhfkjkeebfpaa
set_option maxRecDepth 100000
theorem run21a (a b x1 x5 : Int)
    (h0 : (Int.tmod a b) = x1)
    (c2 : (b ≠ (0 : Int)))
    (h3 : (decide (x1 < 0)) = true)
    (h4 : (IntKind.wrap IntKind.i64 (x1 + b)) = x5)   :
    PureF Try.prog 21 [(.c (.int .i64 a)), (.c (.int .i64 b))] (.c (.int .i64 x5)) :=
  Contract0.of_frun (fn := Try.f21) (c := bodyOf Try.f21) (fuel := 300) (k := kOf Try.prog Try.f21) (outs := []) (hs := [(3, ⟨.ask, some (.c (.int .i64 x1))⟩), (6, ⟨.auto, some (.c (.bool (true)))⟩), (10, ⟨.auto, some (.c (.int .i64 x5))⟩)])
    (cs := [EI .i64 (IntKind.wrap IntKind.i64 (x1 + b)) x5,
      EB (decide (x1 < 0)) true,
      EI .i64 (Int.tmod a b) x1,
      (b ≠ (0 : Int))])
    mixed Try.func21 (by kernel_rfl) (by kernel_rfl) (by kernel_rfl) rfl (by kernel_rfl) ⟨.mk h4, .mk h3, .mk h0, c2, trivial⟩

theorem run21b (a b x1 : Int)
    (h0 : (Int.tmod a b) = x1)
    (c2 : (b ≠ (0 : Int)))
    (h3 : (decide (x1 < 0)) = false)   :
    PureF Try.prog 21 [(.c (.int .i64 a)), (.c (.int .i64 b))] (.c (.int .i64 x1)) :=
  Contract0.of_frun (fn := Try.f21) (c := bodyOf Try.f21) (fuel := 300) (k := kOf Try.prog Try.f21) (outs := []) (hs := [(3, ⟨.ask, some (.c (.int .i64 x1))⟩), (6, ⟨.auto, some (.c (.bool (false)))⟩)])
    (cs := [EB (decide (x1 < 0)) false,
      EI .i64 (Int.tmod a b) x1,
      (b ≠ (0 : Int))])
    mixed Try.func21 (by kernel_rfl) (by kernel_rfl) (by kernel_rfl) rfl (by kernel_rfl) ⟨.mk h3, .mk h0, c2, trivial⟩

theorem run7_0 (s0 s1 s2 s3 s4 s5 s6 s7 s8 s9 s10 s11 s12 s13 s14 s15 n x2 x4 x6 x8 x10 x12 x14 x16 x18 x20 x22 x24 x26 x28 x30 x32 x34 x36 x38 x40 x42 x44 x46 x48 x50 x52 x54 x56 x58 x60 x62 x64 x66 x68 x70 x72 x74 x76 x78 x80 x82 x84 x86 x88 x90 x92 x94 x96 x98 x100 x102 x104 x106 x108 x110 x112 x114 x116 x118 x120 x122 x124 x126 x128 r18_130 r18_131 r18_132 r18_133 r18_134 r18_135 r18_136 r18_137 r18_138 r18_139 r18_140 r18_141 r18_142 r18_143 r18_144 r18_145 : Int)
    (c0 : PureF Try.prog 21 [(.c (.int .i64 n)), (.c (.int .i64 20))] (.c (.int .i64 0)))
    (h1 : (IntKind.wrap IntKind.i64 s0) = x2)
    (h3 : (IntKind.wrap IntKind.i64 (0 + x2)) = x4)
    (h5 : (x4 % 256) = x6)
    (h7 : (IntKind.wrap IntKind.i64 (Int.tdiv x4 256)) = x8)
    (h9 : (IntKind.wrap IntKind.i64 s1) = x10)
    (h11 : (IntKind.wrap IntKind.i64 (x8 + x10)) = x12)
    (h13 : (x12 % 256) = x14)
    (h15 : (IntKind.wrap IntKind.i64 (Int.tdiv x12 256)) = x16)
    (h17 : (IntKind.wrap IntKind.i64 s2) = x18)
    (h19 : (IntKind.wrap IntKind.i64 (x16 + x18)) = x20)
    (h21 : (x20 % 256) = x22)
    (h23 : (IntKind.wrap IntKind.i64 (Int.tdiv x20 256)) = x24)
    (h25 : (IntKind.wrap IntKind.i64 s3) = x26)
    (h27 : (IntKind.wrap IntKind.i64 (x24 + x26)) = x28)
    (h29 : (x28 % 256) = x30)
    (h31 : (IntKind.wrap IntKind.i64 (Int.tdiv x28 256)) = x32)
    (h33 : (IntKind.wrap IntKind.i64 s4) = x34)
    (h35 : (IntKind.wrap IntKind.i64 (x32 + x34)) = x36)
    (h37 : (x36 % 256) = x38)
    (h39 : (IntKind.wrap IntKind.i64 (Int.tdiv x36 256)) = x40)
    (h41 : (IntKind.wrap IntKind.i64 s5) = x42)
    (h43 : (IntKind.wrap IntKind.i64 (x40 + x42)) = x44)
    (h45 : (x44 % 256) = x46)
    (h47 : (IntKind.wrap IntKind.i64 (Int.tdiv x44 256)) = x48)
    (h49 : (IntKind.wrap IntKind.i64 s6) = x50)
    (h51 : (IntKind.wrap IntKind.i64 (x48 + x50)) = x52)
    (h53 : (x52 % 256) = x54)
    (h55 : (IntKind.wrap IntKind.i64 (Int.tdiv x52 256)) = x56)
    (h57 : (IntKind.wrap IntKind.i64 s7) = x58)
    (h59 : (IntKind.wrap IntKind.i64 (x56 + x58)) = x60)
    (h61 : (x60 % 256) = x62)
    (h63 : (IntKind.wrap IntKind.i64 (Int.tdiv x60 256)) = x64)
    (h65 : (IntKind.wrap IntKind.i64 s8) = x66)
    (h67 : (IntKind.wrap IntKind.i64 (x64 + x66)) = x68)
    (h69 : (x68 % 256) = x70)
    (h71 : (IntKind.wrap IntKind.i64 (Int.tdiv x68 256)) = x72)
    (h73 : (IntKind.wrap IntKind.i64 s9) = x74)
    (h75 : (IntKind.wrap IntKind.i64 (x72 + x74)) = x76)
    (h77 : (x76 % 256) = x78)
    (h79 : (IntKind.wrap IntKind.i64 (Int.tdiv x76 256)) = x80)
    (h81 : (IntKind.wrap IntKind.i64 s10) = x82)
    (h83 : (IntKind.wrap IntKind.i64 (x80 + x82)) = x84)
    (h85 : (x84 % 256) = x86)
    (h87 : (IntKind.wrap IntKind.i64 (Int.tdiv x84 256)) = x88)
    (h89 : (IntKind.wrap IntKind.i64 s11) = x90)
    (h91 : (IntKind.wrap IntKind.i64 (x88 + x90)) = x92)
    (h93 : (x92 % 256) = x94)
    (h95 : (IntKind.wrap IntKind.i64 (Int.tdiv x92 256)) = x96)
    (h97 : (IntKind.wrap IntKind.i64 s12) = x98)
    (h99 : (IntKind.wrap IntKind.i64 (x96 + x98)) = x100)
    (h101 : (x100 % 256) = x102)
    (h103 : (IntKind.wrap IntKind.i64 (Int.tdiv x100 256)) = x104)
    (h105 : (IntKind.wrap IntKind.i64 s13) = x106)
    (h107 : (IntKind.wrap IntKind.i64 (x104 + x106)) = x108)
    (h109 : (x108 % 256) = x110)
    (h111 : (IntKind.wrap IntKind.i64 (Int.tdiv x108 256)) = x112)
    (h113 : (IntKind.wrap IntKind.i64 s14) = x114)
    (h115 : (IntKind.wrap IntKind.i64 (x112 + x114)) = x116)
    (h117 : (x116 % 256) = x118)
    (h119 : (IntKind.wrap IntKind.i64 (Int.tdiv x116 256)) = x120)
    (h121 : (IntKind.wrap IntKind.i64 s15) = x122)
    (h123 : (IntKind.wrap IntKind.i64 (x120 + x122)) = x124)
    (h125 : (x124 % 256) = x126)
    (h127 : (IntKind.wrap IntKind.i64 (Int.tdiv x124 256)) = x128)
    (c129 : PureF Try.prog 19 [] (.c (.bool (true))))
    (c146 : Contract0 Try.prog 18 [(.aggi .u8 [1, 0, 0, 0, 0, 0, 0, 0, 0, 0, 0, 0, 0, 0, 0, 0, s0, s1, s2, s3, s4, s5, s6, s7, s8, s9, s10, s11, s12, s13, s14, s15]), (.c (.sl 1 0 0 0 1))] [(1, (.one ⟨false, true, (.ints .u8 [])⟩))] 2 (.aggi .u8 [r18_130, r18_131, r18_132, r18_133, r18_134, r18_135, r18_136, r18_137, r18_138, r18_139, r18_140, r18_141, r18_142, r18_143, r18_144, r18_145]) [] [])
    (h147 : ([r18_130, r18_131, r18_132, r18_133, r18_134, r18_135, r18_136, r18_137, r18_138, r18_139, r18_140, r18_141, r18_142, r18_143, r18_144, r18_145] == List.take 16 (List.drop 0 (splice (splice (splice (splice (splice (splice (splice (splice (splice (splice (splice (splice (splice (splice (splice (splice (splice [0, 0, 0, 0, 0, 0, 0, 0, 0, 0, 0, 0, 0, 0, 0, 0] 0 (List.take 16 (List.drop 0 [s0, s1, s2, s3, s4, s5, s6, s7, s8, s9, s10, s11, s12, s13, s14, s15]))) 0 [x6]) 1 [x14]) 2 [x22]) 3 [x30]) 4 [x38]) 5 [x46]) 6 [x54]) 7 [x62]) 8 [x70]) 9 [x78]) 10 [x86]) 11 [x94]) 12 [x102]) 13 [x110]) 14 [x118]) 15 [x126]))) = true)   :
    PureF Try.prog 7 [(.aggi .u8 [s0, s1, s2, s3, s4, s5, s6, s7, s8, s9, s10, s11, s12, s13, s14, s15]), (.c (.int .i64 n))] (.c (.bool (true))) :=
  Contract0.of_frun (fn := Try.f7) (c := bodyOf Try.f7) (fuel := 5000) (k := kOf Try.prog Try.f7) (outs := []) (hs := [(3, ⟨.call [] (.c (.int .i64 0)) [] [], none⟩), (43, ⟨.auto, some (.c (.int .i64 x2))⟩), (44, ⟨.auto, some (.c (.int .i64 x4))⟩), (48, ⟨.auto, some (.c (.int .u8 x6))⟩), (52, ⟨.auto, some (.c (.int .i64 x8))⟩), (64, ⟨.auto, some (.c (.int .i64 x10))⟩), (65, ⟨.auto, some (.c (.int .i64 x12))⟩), (69, ⟨.auto, some (.c (.int .u8 x14))⟩), (73, ⟨.auto, some (.c (.int .i64 x16))⟩), (85, ⟨.auto, some (.c (.int .i64 x18))⟩), (86, ⟨.auto, some (.c (.int .i64 x20))⟩), (90, ⟨.auto, some (.c (.int .u8 x22))⟩), (94, ⟨.auto, some (.c (.int .i64 x24))⟩), (106, ⟨.auto, some (.c (.int .i64 x26))⟩), (107, ⟨.auto, some (.c (.int .i64 x28))⟩), (111, ⟨.auto, some (.c (.int .u8 x30))⟩), (115, ⟨.auto, some (.c (.int .i64 x32))⟩), (127, ⟨.auto, some (.c (.int .i64 x34))⟩), (128, ⟨.auto, some (.c (.int .i64 x36))⟩), (132, ⟨.auto, some (.c (.int .u8 x38))⟩), (136, ⟨.auto, some (.c (.int .i64 x40))⟩), (148, ⟨.auto, some (.c (.int .i64 x42))⟩), (149, ⟨.auto, some (.c (.int .i64 x44))⟩), (153, ⟨.auto, some (.c (.int .u8 x46))⟩), (157, ⟨.auto, some (.c (.int .i64 x48))⟩), (169, ⟨.auto, some (.c (.int .i64 x50))⟩), (170, ⟨.auto, some (.c (.int .i64 x52))⟩), (174, ⟨.auto, some (.c (.int .u8 x54))⟩), (178, ⟨.auto, some (.c (.int .i64 x56))⟩), (190, ⟨.auto, some (.c (.int .i64 x58))⟩), (191, ⟨.auto, some (.c (.int .i64 x60))⟩), (195, ⟨.auto, some (.c (.int .u8 x62))⟩), (199, ⟨.auto, some (.c (.int .i64 x64))⟩), (211, ⟨.auto, some (.c (.int .i64 x66))⟩), (212, ⟨.auto, some (.c (.int .i64 x68))⟩), (216, ⟨.auto, some (.c (.int .u8 x70))⟩), (220, ⟨.auto, some (.c (.int .i64 x72))⟩), (232, ⟨.auto, some (.c (.int .i64 x74))⟩), (233, ⟨.auto, some (.c (.int .i64 x76))⟩), (237, ⟨.auto, some (.c (.int .u8 x78))⟩), (241, ⟨.auto, some (.c (.int .i64 x80))⟩), (253, ⟨.auto, some (.c (.int .i64 x82))⟩), (254, ⟨.auto, some (.c (.int .i64 x84))⟩), (258, ⟨.auto, some (.c (.int .u8 x86))⟩), (262, ⟨.auto, some (.c (.int .i64 x88))⟩), (274, ⟨.auto, some (.c (.int .i64 x90))⟩), (275, ⟨.auto, some (.c (.int .i64 x92))⟩), (279, ⟨.auto, some (.c (.int .u8 x94))⟩), (283, ⟨.auto, some (.c (.int .i64 x96))⟩), (295, ⟨.auto, some (.c (.int .i64 x98))⟩), (296, ⟨.auto, some (.c (.int .i64 x100))⟩), (300, ⟨.auto, some (.c (.int .u8 x102))⟩), (304, ⟨.auto, some (.c (.int .i64 x104))⟩), (316, ⟨.auto, some (.c (.int .i64 x106))⟩), (317, ⟨.auto, some (.c (.int .i64 x108))⟩), (321, ⟨.auto, some (.c (.int .u8 x110))⟩), (325, ⟨.auto, some (.c (.int .i64 x112))⟩), (337, ⟨.auto, some (.c (.int .i64 x114))⟩), (338, ⟨.auto, some (.c (.int .i64 x116))⟩), (342, ⟨.auto, some (.c (.int .u8 x118))⟩), (346, ⟨.auto, some (.c (.int .i64 x120))⟩), (358, ⟨.auto, some (.c (.int .i64 x122))⟩), (359, ⟨.auto, some (.c (.int .i64 x124))⟩), (363, ⟨.auto, some (.c (.int .u8 x126))⟩), (367, ⟨.auto, some (.c (.int .i64 x128))⟩), (375, ⟨.call [] (.c (.bool (true))) [] [], none⟩), (379, ⟨.call [209] (.aggi .u8 [r18_130, r18_131, r18_132, r18_133, r18_134, r18_135, r18_136, r18_137, r18_138, r18_139, r18_140, r18_141, r18_142, r18_143, r18_144, r18_145]) [] [], none⟩), (381, ⟨.auto, some (.c (.bool (true)))⟩)])
    (cs := [EB ([r18_130, r18_131, r18_132, r18_133, r18_134, r18_135, r18_136, r18_137, r18_138, r18_139, r18_140, r18_141, r18_142, r18_143, r18_144, r18_145] == List.take 16 (List.drop 0 (splice (splice (splice (splice (splice (splice (splice (splice (splice (splice (splice (splice (splice (splice (splice (splice (splice [0, 0, 0, 0, 0, 0, 0, 0, 0, 0, 0, 0, 0, 0, 0, 0] 0 (List.take 16 (List.drop 0 [s0, s1, s2, s3, s4, s5, s6, s7, s8, s9, s10, s11, s12, s13, s14, s15]))) 0 [x6]) 1 [x14]) 2 [x22]) 3 [x30]) 4 [x38]) 5 [x46]) 6 [x54]) 7 [x62]) 8 [x70]) 9 [x78]) 10 [x86]) 11 [x94]) 12 [x102]) 13 [x110]) 14 [x118]) 15 [x126]))) true,
      Contract Try.prog 18 [(.aggi .u8 [1, 0, 0, 0, 0, 0, 0, 0, 0, 0, 0, 0, 0, 0, 0, 0, s0, s1, s2, s3, s4, s5, s6, s7, s8, s9, s10, s11, s12, s13, s14, s15]), (.c (.sl 209 0 0 0 1))] [(209, (.one ⟨true, true, (.ints .u8 [])⟩))] 5777 (.aggi .u8 [r18_130, r18_131, r18_132, r18_133, r18_134, r18_135, r18_136, r18_137, r18_138, r18_139, r18_140, r18_141, r18_142, r18_143, r18_144, r18_145]) [] [],
      Contract Try.prog 19 [] [] 5713 (.c (.bool (true))) [] [],
      EI .i64 (IntKind.wrap IntKind.i64 (Int.tdiv x124 256)) x128,
      EI .u8 (x124 % 256) x126,
      EI .i64 (IntKind.wrap IntKind.i64 (x120 + x122)) x124,
      EI .i64 (IntKind.wrap IntKind.i64 s15) x122,
      EI .i64 (IntKind.wrap IntKind.i64 (Int.tdiv x116 256)) x120,
      EI .u8 (x116 % 256) x118,
      EI .i64 (IntKind.wrap IntKind.i64 (x112 + x114)) x116,
      EI .i64 (IntKind.wrap IntKind.i64 s14) x114,
      EI .i64 (IntKind.wrap IntKind.i64 (Int.tdiv x108 256)) x112,
      EI .u8 (x108 % 256) x110,
      EI .i64 (IntKind.wrap IntKind.i64 (x104 + x106)) x108,
      EI .i64 (IntKind.wrap IntKind.i64 s13) x106,
      EI .i64 (IntKind.wrap IntKind.i64 (Int.tdiv x100 256)) x104,
      EI .u8 (x100 % 256) x102,
      EI .i64 (IntKind.wrap IntKind.i64 (x96 + x98)) x100,
      EI .i64 (IntKind.wrap IntKind.i64 s12) x98,
      EI .i64 (IntKind.wrap IntKind.i64 (Int.tdiv x92 256)) x96,
      EI .u8 (x92 % 256) x94,
      EI .i64 (IntKind.wrap IntKind.i64 (x88 + x90)) x92,
      EI .i64 (IntKind.wrap IntKind.i64 s11) x90,
      EI .i64 (IntKind.wrap IntKind.i64 (Int.tdiv x84 256)) x88,
      EI .u8 (x84 % 256) x86,
      EI .i64 (IntKind.wrap IntKind.i64 (x80 + x82)) x84,
      EI .i64 (IntKind.wrap IntKind.i64 s10) x82,
      EI .i64 (IntKind.wrap IntKind.i64 (Int.tdiv x76 256)) x80,
      EI .u8 (x76 % 256) x78,
      EI .i64 (IntKind.wrap IntKind.i64 (x72 + x74)) x76,
      EI .i64 (IntKind.wrap IntKind.i64 s9) x74,
      EI .i64 (IntKind.wrap IntKind.i64 (Int.tdiv x68 256)) x72,
      EI .u8 (x68 % 256) x70,
      EI .i64 (IntKind.wrap IntKind.i64 (x64 + x66)) x68,
      EI .i64 (IntKind.wrap IntKind.i64 s8) x66,
      EI .i64 (IntKind.wrap IntKind.i64 (Int.tdiv x60 256)) x64,
      EI .u8 (x60 % 256) x62,
      EI .i64 (IntKind.wrap IntKind.i64 (x56 + x58)) x60,
      EI .i64 (IntKind.wrap IntKind.i64 s7) x58,
      EI .i64 (IntKind.wrap IntKind.i64 (Int.tdiv x52 256)) x56,
      EI .u8 (x52 % 256) x54,
      EI .i64 (IntKind.wrap IntKind.i64 (x48 + x50)) x52,
      EI .i64 (IntKind.wrap IntKind.i64 s6) x50,
      EI .i64 (IntKind.wrap IntKind.i64 (Int.tdiv x44 256)) x48,
      EI .u8 (x44 % 256) x46,
      EI .i64 (IntKind.wrap IntKind.i64 (x40 + x42)) x44,
      EI .i64 (IntKind.wrap IntKind.i64 s5) x42,
      EI .i64 (IntKind.wrap IntKind.i64 (Int.tdiv x36 256)) x40,
      EI .u8 (x36 % 256) x38,
      EI .i64 (IntKind.wrap IntKind.i64 (x32 + x34)) x36,
      EI .i64 (IntKind.wrap IntKind.i64 s4) x34,
      EI .i64 (IntKind.wrap IntKind.i64 (Int.tdiv x28 256)) x32,
      EI .u8 (x28 % 256) x30,
      EI .i64 (IntKind.wrap IntKind.i64 (x24 + x26)) x28,
      EI .i64 (IntKind.wrap IntKind.i64 s3) x26,
      EI .i64 (IntKind.wrap IntKind.i64 (Int.tdiv x20 256)) x24,
      EI .u8 (x20 % 256) x22,
      EI .i64 (IntKind.wrap IntKind.i64 (x16 + x18)) x20,
      EI .i64 (IntKind.wrap IntKind.i64 s2) x18,
      EI .i64 (IntKind.wrap IntKind.i64 (Int.tdiv x12 256)) x16,
      EI .u8 (x12 % 256) x14,
      EI .i64 (IntKind.wrap IntKind.i64 (x8 + x10)) x12,
      EI .i64 (IntKind.wrap IntKind.i64 s1) x10,
      EI .i64 (IntKind.wrap IntKind.i64 (Int.tdiv x4 256)) x8,
      EI .u8 (x4 % 256) x6,
      EI .i64 (IntKind.wrap IntKind.i64 (0 + x2)) x4,
      EI .i64 (IntKind.wrap IntKind.i64 s0) x2,
      Contract Try.prog 21 [(.c (.int .i64 n)), (.c (.int .i64 20))] [] 49 (.c (.int .i64 0)) [] []])
    mixed Try.func7 (by kernel_rfl) (by kernel_rfl) (by kernel_rfl) rfl (by kernel_rfl) ⟨.mk h147, c146.ro [(209, (1, true))] rfl (by kernel_rfl) rfl (by kernel_rfl) rfl rfl _, c129.use (by kernel_rfl) rfl rfl _ _, .mk h127, .mk h125, .mk h123, .mk h121, .mk h119, .mk h117, .mk h115, .mk h113, .mk h111, .mk h109, .mk h107, .mk h105, .mk h103, .mk h101, .mk h99, .mk h97, .mk h95, .mk h93, .mk h91, .mk h89, .mk h87, .mk h85, .mk h83, .mk h81, .mk h79, .mk h77, .mk h75, .mk h73, .mk h71, .mk h69, .mk h67, .mk h65, .mk h63, .mk h61, .mk h59, .mk h57, .mk h55, .mk h53, .mk h51, .mk h49, .mk h47, .mk h45, .mk h43, .mk h41, .mk h39, .mk h37, .mk h35, .mk h33, .mk h31, .mk h29, .mk h27, .mk h25, .mk h23, .mk h21, .mk h19, .mk h17, .mk h15, .mk h13, .mk h11, .mk h9, .mk h7, .mk h5, .mk h3, .mk h1, c0.use (by kernel_rfl) rfl rfl _ _, trivial⟩

theorem run7_1 (s0 s1 s2 s3 s4 s5 s6 s7 s8 s9 s10 s11 s12 s13 s14 s15 n x2 x4 x6 x8 x10 x12 x14 x16 x18 x20 x22 x24 x26 x28 x30 x32 x34 x36 x38 x40 x42 x44 x46 x48 x50 x52 x54 x56 x58 x60 x62 x64 x66 x68 x70 x72 x74 x76 x78 x80 x82 x84 x86 x88 x90 x92 x94 x96 x98 x100 x102 x104 x106 x108 x110 x112 x114 x116 x118 x120 x122 x124 x126 x128 r18_130 r18_131 r18_132 r18_133 r18_134 r18_135 r18_136 r18_137 r18_138 r18_139 r18_140 r18_141 r18_142 r18_143 r18_144 r18_145 : Int)
    (c0 : PureF Try.prog 21 [(.c (.int .i64 n)), (.c (.int .i64 20))] (.c (.int .i64 1)))
    (h1 : (IntKind.wrap IntKind.i64 s0) = x2)
    (h3 : (IntKind.wrap IntKind.i64 (1 + x2)) = x4)
    (h5 : (x4 % 256) = x6)
    (h7 : (IntKind.wrap IntKind.i64 (Int.tdiv x4 256)) = x8)
    (h9 : (IntKind.wrap IntKind.i64 s1) = x10)
    (h11 : (IntKind.wrap IntKind.i64 (x8 + x10)) = x12)
    (h13 : (x12 % 256) = x14)
    (h15 : (IntKind.wrap IntKind.i64 (Int.tdiv x12 256)) = x16)
    (h17 : (IntKind.wrap IntKind.i64 s2) = x18)
    (h19 : (IntKind.wrap IntKind.i64 (x16 + x18)) = x20)
    (h21 : (x20 % 256) = x22)
    (h23 : (IntKind.wrap IntKind.i64 (Int.tdiv x20 256)) = x24)
    (h25 : (IntKind.wrap IntKind.i64 s3) = x26)
    (h27 : (IntKind.wrap IntKind.i64 (x24 + x26)) = x28)
    (h29 : (x28 % 256) = x30)
    (h31 : (IntKind.wrap IntKind.i64 (Int.tdiv x28 256)) = x32)
    (h33 : (IntKind.wrap IntKind.i64 s4) = x34)
    (h35 : (IntKind.wrap IntKind.i64 (x32 + x34)) = x36)
    (h37 : (x36 % 256) = x38)
    (h39 : (IntKind.wrap IntKind.i64 (Int.tdiv x36 256)) = x40)
    (h41 : (IntKind.wrap IntKind.i64 s5) = x42)
    (h43 : (IntKind.wrap IntKind.i64 (x40 + x42)) = x44)
    (h45 : (x44 % 256) = x46)
    (h47 : (IntKind.wrap IntKind.i64 (Int.tdiv x44 256)) = x48)
    (h49 : (IntKind.wrap IntKind.i64 s6) = x50)
    (h51 : (IntKind.wrap IntKind.i64 (x48 + x50)) = x52)
    (h53 : (x52 % 256) = x54)
    (h55 : (IntKind.wrap IntKind.i64 (Int.tdiv x52 256)) = x56)
    (h57 : (IntKind.wrap IntKind.i64 s7) = x58)
    (h59 : (IntKind.wrap IntKind.i64 (x56 + x58)) = x60)
    (h61 : (x60 % 256) = x62)
    (h63 : (IntKind.wrap IntKind.i64 (Int.tdiv x60 256)) = x64)
    (h65 : (IntKind.wrap IntKind.i64 s8) = x66)
    (h67 : (IntKind.wrap IntKind.i64 (x64 + x66)) = x68)
    (h69 : (x68 % 256) = x70)
    (h71 : (IntKind.wrap IntKind.i64 (Int.tdiv x68 256)) = x72)
    (h73 : (IntKind.wrap IntKind.i64 s9) = x74)
    (h75 : (IntKind.wrap IntKind.i64 (x72 + x74)) = x76)
    (h77 : (x76 % 256) = x78)
    (h79 : (IntKind.wrap IntKind.i64 (Int.tdiv x76 256)) = x80)
    (h81 : (IntKind.wrap IntKind.i64 s10) = x82)
    (h83 : (IntKind.wrap IntKind.i64 (x80 + x82)) = x84)
    (h85 : (x84 % 256) = x86)
    (h87 : (IntKind.wrap IntKind.i64 (Int.tdiv x84 256)) = x88)
    (h89 : (IntKind.wrap IntKind.i64 s11) = x90)
    (h91 : (IntKind.wrap IntKind.i64 (x88 + x90)) = x92)
    (h93 : (x92 % 256) = x94)
    (h95 : (IntKind.wrap IntKind.i64 (Int.tdiv x92 256)) = x96)
    (h97 : (IntKind.wrap IntKind.i64 s12) = x98)
    (h99 : (IntKind.wrap IntKind.i64 (x96 + x98)) = x100)
    (h101 : (x100 % 256) = x102)
    (h103 : (IntKind.wrap IntKind.i64 (Int.tdiv x100 256)) = x104)
    (h105 : (IntKind.wrap IntKind.i64 s13) = x106)
    (h107 : (IntKind.wrap IntKind.i64 (x104 + x106)) = x108)
    (h109 : (x108 % 256) = x110)
    (h111 : (IntKind.wrap IntKind.i64 (Int.tdiv x108 256)) = x112)
    (h113 : (IntKind.wrap IntKind.i64 s14) = x114)
    (h115 : (IntKind.wrap IntKind.i64 (x112 + x114)) = x116)
    (h117 : (x116 % 256) = x118)
    (h119 : (IntKind.wrap IntKind.i64 (Int.tdiv x116 256)) = x120)
    (h121 : (IntKind.wrap IntKind.i64 s15) = x122)
    (h123 : (IntKind.wrap IntKind.i64 (x120 + x122)) = x124)
    (h125 : (x124 % 256) = x126)
    (h127 : (IntKind.wrap IntKind.i64 (Int.tdiv x124 256)) = x128)
    (c129 : PureF Try.prog 19 [] (.c (.bool (true))))
    (c146 : Contract0 Try.prog 18 [(.aggi .u8 [1, 0, 0, 0, 0, 0, 0, 0, 0, 0, 0, 0, 0, 0, 0, 0, s0, s1, s2, s3, s4, s5, s6, s7, s8, s9, s10, s11, s12, s13, s14, s15]), (.c (.sl 1 0 0 16 1))] [(1, (.one ⟨false, true, (.ints .u8 [1, 0, 0, 0, 0, 0, 0, 0, 0, 0, 0, 0, 0, 0, 0, 0])⟩))] 2 (.aggi .u8 [r18_130, r18_131, r18_132, r18_133, r18_134, r18_135, r18_136, r18_137, r18_138, r18_139, r18_140, r18_141, r18_142, r18_143, r18_144, r18_145]) [] [])
    (h147 : ([r18_130, r18_131, r18_132, r18_133, r18_134, r18_135, r18_136, r18_137, r18_138, r18_139, r18_140, r18_141, r18_142, r18_143, r18_144, r18_145] == List.take 16 (List.drop 0 (splice (splice (splice (splice (splice (splice (splice (splice (splice (splice (splice (splice (splice (splice (splice (splice (splice [0, 0, 0, 0, 0, 0, 0, 0, 0, 0, 0, 0, 0, 0, 0, 0] 0 (List.take 16 (List.drop 0 [s0, s1, s2, s3, s4, s5, s6, s7, s8, s9, s10, s11, s12, s13, s14, s15]))) 0 [x6]) 1 [x14]) 2 [x22]) 3 [x30]) 4 [x38]) 5 [x46]) 6 [x54]) 7 [x62]) 8 [x70]) 9 [x78]) 10 [x86]) 11 [x94]) 12 [x102]) 13 [x110]) 14 [x118]) 15 [x126]))) = true)   :
    PureF Try.prog 7 [(.aggi .u8 [s0, s1, s2, s3, s4, s5, s6, s7, s8, s9, s10, s11, s12, s13, s14, s15]), (.c (.int .i64 n))] (.c (.bool (true))) :=
  Contract0.of_frun (fn := Try.f7) (c := bodyOf Try.f7) (fuel := 5000) (k := kOf Try.prog Try.f7) (outs := []) (hs := [(3, ⟨.call [] (.c (.int .i64 1)) [] [], none⟩), (63, ⟨.auto, some (.c (.int .i64 x2))⟩), (64, ⟨.auto, some (.c (.int .i64 x4))⟩), (68, ⟨.auto, some (.c (.int .u8 x6))⟩), (72, ⟨.auto, some (.c (.int .i64 x8))⟩), (84, ⟨.auto, some (.c (.int .i64 x10))⟩), (85, ⟨.auto, some (.c (.int .i64 x12))⟩), (89, ⟨.auto, some (.c (.int .u8 x14))⟩), (93, ⟨.auto, some (.c (.int .i64 x16))⟩), (105, ⟨.auto, some (.c (.int .i64 x18))⟩), (106, ⟨.auto, some (.c (.int .i64 x20))⟩), (110, ⟨.auto, some (.c (.int .u8 x22))⟩), (114, ⟨.auto, some (.c (.int .i64 x24))⟩), (126, ⟨.auto, some (.c (.int .i64 x26))⟩), (127, ⟨.auto, some (.c (.int .i64 x28))⟩), (131, ⟨.auto, some (.c (.int .u8 x30))⟩), (135, ⟨.auto, some (.c (.int .i64 x32))⟩), (147, ⟨.auto, some (.c (.int .i64 x34))⟩), (148, ⟨.auto, some (.c (.int .i64 x36))⟩), (152, ⟨.auto, some (.c (.int .u8 x38))⟩), (156, ⟨.auto, some (.c (.int .i64 x40))⟩), (168, ⟨.auto, some (.c (.int .i64 x42))⟩), (169, ⟨.auto, some (.c (.int .i64 x44))⟩), (173, ⟨.auto, some (.c (.int .u8 x46))⟩), (177, ⟨.auto, some (.c (.int .i64 x48))⟩), (189, ⟨.auto, some (.c (.int .i64 x50))⟩), (190, ⟨.auto, some (.c (.int .i64 x52))⟩), (194, ⟨.auto, some (.c (.int .u8 x54))⟩), (198, ⟨.auto, some (.c (.int .i64 x56))⟩), (210, ⟨.auto, some (.c (.int .i64 x58))⟩), (211, ⟨.auto, some (.c (.int .i64 x60))⟩), (215, ⟨.auto, some (.c (.int .u8 x62))⟩), (219, ⟨.auto, some (.c (.int .i64 x64))⟩), (231, ⟨.auto, some (.c (.int .i64 x66))⟩), (232, ⟨.auto, some (.c (.int .i64 x68))⟩), (236, ⟨.auto, some (.c (.int .u8 x70))⟩), (240, ⟨.auto, some (.c (.int .i64 x72))⟩), (252, ⟨.auto, some (.c (.int .i64 x74))⟩), (253, ⟨.auto, some (.c (.int .i64 x76))⟩), (257, ⟨.auto, some (.c (.int .u8 x78))⟩), (261, ⟨.auto, some (.c (.int .i64 x80))⟩), (273, ⟨.auto, some (.c (.int .i64 x82))⟩), (274, ⟨.auto, some (.c (.int .i64 x84))⟩), (278, ⟨.auto, some (.c (.int .u8 x86))⟩), (282, ⟨.auto, some (.c (.int .i64 x88))⟩), (294, ⟨.auto, some (.c (.int .i64 x90))⟩), (295, ⟨.auto, some (.c (.int .i64 x92))⟩), (299, ⟨.auto, some (.c (.int .u8 x94))⟩), (303, ⟨.auto, some (.c (.int .i64 x96))⟩), (315, ⟨.auto, some (.c (.int .i64 x98))⟩), (316, ⟨.auto, some (.c (.int .i64 x100))⟩), (320, ⟨.auto, some (.c (.int .u8 x102))⟩), (324, ⟨.auto, some (.c (.int .i64 x104))⟩), (336, ⟨.auto, some (.c (.int .i64 x106))⟩), (337, ⟨.auto, some (.c (.int .i64 x108))⟩), (341, ⟨.auto, some (.c (.int .u8 x110))⟩), (345, ⟨.auto, some (.c (.int .i64 x112))⟩), (357, ⟨.auto, some (.c (.int .i64 x114))⟩), (358, ⟨.auto, some (.c (.int .i64 x116))⟩), (362, ⟨.auto, some (.c (.int .u8 x118))⟩), (366, ⟨.auto, some (.c (.int .i64 x120))⟩), (378, ⟨.auto, some (.c (.int .i64 x122))⟩), (379, ⟨.auto, some (.c (.int .i64 x124))⟩), (383, ⟨.auto, some (.c (.int .u8 x126))⟩), (387, ⟨.auto, some (.c (.int .i64 x128))⟩), (395, ⟨.call [] (.c (.bool (true))) [] [], none⟩), (399, ⟨.call [209] (.aggi .u8 [r18_130, r18_131, r18_132, r18_133, r18_134, r18_135, r18_136, r18_137, r18_138, r18_139, r18_140, r18_141, r18_142, r18_143, r18_144, r18_145]) [] [], none⟩), (401, ⟨.auto, some (.c (.bool (true)))⟩)])
    (cs := [EB ([r18_130, r18_131, r18_132, r18_133, r18_134, r18_135, r18_136, r18_137, r18_138, r18_139, r18_140, r18_141, r18_142, r18_143, r18_144, r18_145] == List.take 16 (List.drop 0 (splice (splice (splice (splice (splice (splice (splice (splice (splice (splice (splice (splice (splice (splice (splice (splice (splice [0, 0, 0, 0, 0, 0, 0, 0, 0, 0, 0, 0, 0, 0, 0, 0] 0 (List.take 16 (List.drop 0 [s0, s1, s2, s3, s4, s5, s6, s7, s8, s9, s10, s11, s12, s13, s14, s15]))) 0 [x6]) 1 [x14]) 2 [x22]) 3 [x30]) 4 [x38]) 5 [x46]) 6 [x54]) 7 [x62]) 8 [x70]) 9 [x78]) 10 [x86]) 11 [x94]) 12 [x102]) 13 [x110]) 14 [x118]) 15 [x126]))) true,
      Contract Try.prog 18 [(.aggi .u8 [1, 0, 0, 0, 0, 0, 0, 0, 0, 0, 0, 0, 0, 0, 0, 0, s0, s1, s2, s3, s4, s5, s6, s7, s8, s9, s10, s11, s12, s13, s14, s15]), (.c (.sl 209 0 0 16 1))] [(209, (.one ⟨true, true, (.ints .u8 [1, 0, 0, 0, 0, 0, 0, 0, 0, 0, 0, 0, 0, 0, 0, 0])⟩))] 6081 (.aggi .u8 [r18_130, r18_131, r18_132, r18_133, r18_134, r18_135, r18_136, r18_137, r18_138, r18_139, r18_140, r18_141, r18_142, r18_143, r18_144, r18_145]) [] [],
      Contract Try.prog 19 [] [] 6017 (.c (.bool (true))) [] [],
      EI .i64 (IntKind.wrap IntKind.i64 (Int.tdiv x124 256)) x128,
      EI .u8 (x124 % 256) x126,
      EI .i64 (IntKind.wrap IntKind.i64 (x120 + x122)) x124,
      EI .i64 (IntKind.wrap IntKind.i64 s15) x122,
      EI .i64 (IntKind.wrap IntKind.i64 (Int.tdiv x116 256)) x120,
      EI .u8 (x116 % 256) x118,
      EI .i64 (IntKind.wrap IntKind.i64 (x112 + x114)) x116,
      EI .i64 (IntKind.wrap IntKind.i64 s14) x114,
      EI .i64 (IntKind.wrap IntKind.i64 (Int.tdiv x108 256)) x112,
      EI .u8 (x108 % 256) x110,
      EI .i64 (IntKind.wrap IntKind.i64 (x104 + x106)) x108,
      EI .i64 (IntKind.wrap IntKind.i64 s13) x106,
      EI .i64 (IntKind.wrap IntKind.i64 (Int.tdiv x100 256)) x104,
      EI .u8 (x100 % 256) x102,
      EI .i64 (IntKind.wrap IntKind.i64 (x96 + x98)) x100,
      EI .i64 (IntKind.wrap IntKind.i64 s12) x98,
      EI .i64 (IntKind.wrap IntKind.i64 (Int.tdiv x92 256)) x96,
      EI .u8 (x92 % 256) x94,
      EI .i64 (IntKind.wrap IntKind.i64 (x88 + x90)) x92,
      EI .i64 (IntKind.wrap IntKind.i64 s11) x90,
      EI .i64 (IntKind.wrap IntKind.i64 (Int.tdiv x84 256)) x88,
      EI .u8 (x84 % 256) x86,
      EI .i64 (IntKind.wrap IntKind.i64 (x80 + x82)) x84,
      EI .i64 (IntKind.wrap IntKind.i64 s10) x82,
      EI .i64 (IntKind.wrap IntKind.i64 (Int.tdiv x76 256)) x80,
      EI .u8 (x76 % 256) x78,
      EI .i64 (IntKind.wrap IntKind.i64 (x72 + x74)) x76,
      EI .i64 (IntKind.wrap IntKind.i64 s9) x74,
      EI .i64 (IntKind.wrap IntKind.i64 (Int.tdiv x68 256)) x72,
      EI .u8 (x68 % 256) x70,
      EI .i64 (IntKind.wrap IntKind.i64 (x64 + x66)) x68,
      EI .i64 (IntKind.wrap IntKind.i64 s8) x66,
      EI .i64 (IntKind.wrap IntKind.i64 (Int.tdiv x60 256)) x64,
      EI .u8 (x60 % 256) x62,
      EI .i64 (IntKind.wrap IntKind.i64 (x56 + x58)) x60,
      EI .i64 (IntKind.wrap IntKind.i64 s7) x58,
      EI .i64 (IntKind.wrap IntKind.i64 (Int.tdiv x52 256)) x56,
      EI .u8 (x52 % 256) x54,
      EI .i64 (IntKind.wrap IntKind.i64 (x48 + x50)) x52,
      EI .i64 (IntKind.wrap IntKind.i64 s6) x50,
      EI .i64 (IntKind.wrap IntKind.i64 (Int.tdiv x44 256)) x48,
      EI .u8 (x44 % 256) x46,
      EI .i64 (IntKind.wrap IntKind.i64 (x40 + x42)) x44,
      EI .i64 (IntKind.wrap IntKind.i64 s5) x42,
      EI .i64 (IntKind.wrap IntKind.i64 (Int.tdiv x36 256)) x40,
      EI .u8 (x36 % 256) x38,
      EI .i64 (IntKind.wrap IntKind.i64 (x32 + x34)) x36,
      EI .i64 (IntKind.wrap IntKind.i64 s4) x34,
      EI .i64 (IntKind.wrap IntKind.i64 (Int.tdiv x28 256)) x32,
      EI .u8 (x28 % 256) x30,
      EI .i64 (IntKind.wrap IntKind.i64 (x24 + x26)) x28,
      EI .i64 (IntKind.wrap IntKind.i64 s3) x26,
      EI .i64 (IntKind.wrap IntKind.i64 (Int.tdiv x20 256)) x24,
      EI .u8 (x20 % 256) x22,
      EI .i64 (IntKind.wrap IntKind.i64 (x16 + x18)) x20,
      EI .i64 (IntKind.wrap IntKind.i64 s2) x18,
      EI .i64 (IntKind.wrap IntKind.i64 (Int.tdiv x12 256)) x16,
      EI .u8 (x12 % 256) x14,
      EI .i64 (IntKind.wrap IntKind.i64 (x8 + x10)) x12,
      EI .i64 (IntKind.wrap IntKind.i64 s1) x10,
      EI .i64 (IntKind.wrap IntKind.i64 (Int.tdiv x4 256)) x8,
      EI .u8 (x4 % 256) x6,
      EI .i64 (IntKind.wrap IntKind.i64 (1 + x2)) x4,
      EI .i64 (IntKind.wrap IntKind.i64 s0) x2,
      Contract Try.prog 21 [(.c (.int .i64 n)), (.c (.int .i64 20))] [] 49 (.c (.int .i64 1)) [] []])
    mixed Try.func7 (by kernel_rfl) (by kernel_rfl) (by kernel_rfl) rfl (by kernel_rfl) ⟨.mk h147, c146.ro [(209, (1, true))] rfl (by kernel_rfl) rfl (by kernel_rfl) rfl rfl _, c129.use (by kernel_rfl) rfl rfl _ _, .mk h127, .mk h125, .mk h123, .mk h121, .mk h119, .mk h117, .mk h115, .mk h113, .mk h111, .mk h109, .mk h107, .mk h105, .mk h103, .mk h101, .mk h99, .mk h97, .mk h95, .mk h93, .mk h91, .mk h89, .mk h87, .mk h85, .mk h83, .mk h81, .mk h79, .mk h77, .mk h75, .mk h73, .mk h71, .mk h69, .mk h67, .mk h65, .mk h63, .mk h61, .mk h59, .mk h57, .mk h55, .mk h53, .mk h51, .mk h49, .mk h47, .mk h45, .mk h43, .mk h41, .mk h39, .mk h37, .mk h35, .mk h33, .mk h31, .mk h29, .mk h27, .mk h25, .mk h23, .mk h21, .mk h19, .mk h17, .mk h15, .mk h13, .mk h11, .mk h9, .mk h7, .mk h5, .mk h3, .mk h1, c0.use (by kernel_rfl) rfl rfl _ _, trivial⟩

theorem run7_2 (s0 s1 s2 s3 s4 s5 s6 s7 s8 s9 s10 s11 s12 s13 s14 s15 n x2 x4 x6 x8 x10 x12 x14 x16 x18 x20 x22 x24 x26 x28 x30 x32 x34 x36 x38 x40 x42 x44 x46 x48 x50 x52 x54 x56 x58 x60 x62 x64 x66 x68 x70 x72 x74 x76 x78 x80 x82 x84 x86 x88 x90 x92 x94 x96 x98 x100 x102 x104 x106 x108 x110 x112 x114 x116 x118 x120 x122 x124 x126 x128 r18_130 r18_131 r18_132 r18_133 r18_134 r18_135 r18_136 r18_137 r18_138 r18_139 r18_140 r18_141 r18_142 r18_143 r18_144 r18_145 : Int)
    (c0 : PureF Try.prog 21 [(.c (.int .i64 n)), (.c (.int .i64 20))] (.c (.int .i64 2)))
    (h1 : (IntKind.wrap IntKind.i64 s0) = x2)
    (h3 : (IntKind.wrap IntKind.i64 (3 + x2)) = x4)
    (h5 : (x4 % 256) = x6)
    (h7 : (IntKind.wrap IntKind.i64 (Int.tdiv x4 256)) = x8)
    (h9 : (IntKind.wrap IntKind.i64 s1) = x10)
    (h11 : (IntKind.wrap IntKind.i64 (x8 + x10)) = x12)
    (h13 : (x12 % 256) = x14)
    (h15 : (IntKind.wrap IntKind.i64 (Int.tdiv x12 256)) = x16)
    (h17 : (IntKind.wrap IntKind.i64 s2) = x18)
    (h19 : (IntKind.wrap IntKind.i64 (x16 + x18)) = x20)
    (h21 : (x20 % 256) = x22)
    (h23 : (IntKind.wrap IntKind.i64 (Int.tdiv x20 256)) = x24)
    (h25 : (IntKind.wrap IntKind.i64 s3) = x26)
    (h27 : (IntKind.wrap IntKind.i64 (x24 + x26)) = x28)
    (h29 : (x28 % 256) = x30)
    (h31 : (IntKind.wrap IntKind.i64 (Int.tdiv x28 256)) = x32)
    (h33 : (IntKind.wrap IntKind.i64 s4) = x34)
    (h35 : (IntKind.wrap IntKind.i64 (x32 + x34)) = x36)
    (h37 : (x36 % 256) = x38)
    (h39 : (IntKind.wrap IntKind.i64 (Int.tdiv x36 256)) = x40)
    (h41 : (IntKind.wrap IntKind.i64 s5) = x42)
    (h43 : (IntKind.wrap IntKind.i64 (x40 + x42)) = x44)
    (h45 : (x44 % 256) = x46)
    (h47 : (IntKind.wrap IntKind.i64 (Int.tdiv x44 256)) = x48)
    (h49 : (IntKind.wrap IntKind.i64 s6) = x50)
    (h51 : (IntKind.wrap IntKind.i64 (x48 + x50)) = x52)
    (h53 : (x52 % 256) = x54)
    (h55 : (IntKind.wrap IntKind.i64 (Int.tdiv x52 256)) = x56)
    (h57 : (IntKind.wrap IntKind.i64 s7) = x58)
    (h59 : (IntKind.wrap IntKind.i64 (x56 + x58)) = x60)
    (h61 : (x60 % 256) = x62)
    (h63 : (IntKind.wrap IntKind.i64 (Int.tdiv x60 256)) = x64)
    (h65 : (IntKind.wrap IntKind.i64 s8) = x66)
    (h67 : (IntKind.wrap IntKind.i64 (x64 + x66)) = x68)
    (h69 : (x68 % 256) = x70)
    (h71 : (IntKind.wrap IntKind.i64 (Int.tdiv x68 256)) = x72)
    (h73 : (IntKind.wrap IntKind.i64 s9) = x74)
    (h75 : (IntKind.wrap IntKind.i64 (x72 + x74)) = x76)
    (h77 : (x76 % 256) = x78)
    (h79 : (IntKind.wrap IntKind.i64 (Int.tdiv x76 256)) = x80)
    (h81 : (IntKind.wrap IntKind.i64 s10) = x82)
    (h83 : (IntKind.wrap IntKind.i64 (x80 + x82)) = x84)
    (h85 : (x84 % 256) = x86)
    (h87 : (IntKind.wrap IntKind.i64 (Int.tdiv x84 256)) = x88)
    (h89 : (IntKind.wrap IntKind.i64 s11) = x90)
    (h91 : (IntKind.wrap IntKind.i64 (x88 + x90)) = x92)
    (h93 : (x92 % 256) = x94)
    (h95 : (IntKind.wrap IntKind.i64 (Int.tdiv x92 256)) = x96)
    (h97 : (IntKind.wrap IntKind.i64 s12) = x98)
    (h99 : (IntKind.wrap IntKind.i64 (x96 + x98)) = x100)
    (h101 : (x100 % 256) = x102)
    (h103 : (IntKind.wrap IntKind.i64 (Int.tdiv x100 256)) = x104)
    (h105 : (IntKind.wrap IntKind.i64 s13) = x106)
    (h107 : (IntKind.wrap IntKind.i64 (x104 + x106)) = x108)
    (h109 : (x108 % 256) = x110)
    (h111 : (IntKind.wrap IntKind.i64 (Int.tdiv x108 256)) = x112)
    (h113 : (IntKind.wrap IntKind.i64 s14) = x114)
    (h115 : (IntKind.wrap IntKind.i64 (x112 + x114)) = x116)
    (h117 : (x116 % 256) = x118)
    (h119 : (IntKind.wrap IntKind.i64 (Int.tdiv x116 256)) = x120)
    (h121 : (IntKind.wrap IntKind.i64 s15) = x122)
    (h123 : (IntKind.wrap IntKind.i64 (x120 + x122)) = x124)
    (h125 : (x124 % 256) = x126)
    (h127 : (IntKind.wrap IntKind.i64 (Int.tdiv x124 256)) = x128)
    (c129 : PureF Try.prog 19 [] (.c (.bool (true))))
    (c146 : Contract0 Try.prog 18 [(.aggi .u8 [1, 0, 0, 0, 0, 0, 0, 0, 0, 0, 0, 0, 0, 0, 0, 0, s0, s1, s2, s3, s4, s5, s6, s7, s8, s9, s10, s11, s12, s13, s14, s15]), (.c (.sl 1 0 0 32 1))] [(1, (.one ⟨false, true, (.ints .u8 [1, 0, 0, 0, 0, 0, 0, 0, 0, 0, 0, 0, 0, 0, 0, 0, 2, 0, 0, 0, 0, 0, 0, 0, 0, 0, 0, 0, 0, 0, 0, 0])⟩))] 2 (.aggi .u8 [r18_130, r18_131, r18_132, r18_133, r18_134, r18_135, r18_136, r18_137, r18_138, r18_139, r18_140, r18_141, r18_142, r18_143, r18_144, r18_145]) [] [])
    (h147 : ([r18_130, r18_131, r18_132, r18_133, r18_134, r18_135, r18_136, r18_137, r18_138, r18_139, r18_140, r18_141, r18_142, r18_143, r18_144, r18_145] == List.take 16 (List.drop 0 (splice (splice (splice (splice (splice (splice (splice (splice (splice (splice (splice (splice (splice (splice (splice (splice (splice [0, 0, 0, 0, 0, 0, 0, 0, 0, 0, 0, 0, 0, 0, 0, 0] 0 (List.take 16 (List.drop 0 [s0, s1, s2, s3, s4, s5, s6, s7, s8, s9, s10, s11, s12, s13, s14, s15]))) 0 [x6]) 1 [x14]) 2 [x22]) 3 [x30]) 4 [x38]) 5 [x46]) 6 [x54]) 7 [x62]) 8 [x70]) 9 [x78]) 10 [x86]) 11 [x94]) 12 [x102]) 13 [x110]) 14 [x118]) 15 [x126]))) = true)   :
    PureF Try.prog 7 [(.aggi .u8 [s0, s1, s2, s3, s4, s5, s6, s7, s8, s9, s10, s11, s12, s13, s14, s15]), (.c (.int .i64 n))] (.c (.bool (true))) :=
  Contract0.of_frun (fn := Try.f7) (c := bodyOf Try.f7) (fuel := 5000) (k := kOf Try.prog Try.f7) (outs := []) (hs := [(3, ⟨.call [] (.c (.int .i64 2)) [] [], none⟩), (83, ⟨.auto, some (.c (.int .i64 x2))⟩), (84, ⟨.auto, some (.c (.int .i64 x4))⟩), (88, ⟨.auto, some (.c (.int .u8 x6))⟩), (92, ⟨.auto, some (.c (.int .i64 x8))⟩), (104, ⟨.auto, some (.c (.int .i64 x10))⟩), (105, ⟨.auto, some (.c (.int .i64 x12))⟩), (109, ⟨.auto, some (.c (.int .u8 x14))⟩), (113, ⟨.auto, some (.c (.int .i64 x16))⟩), (125, ⟨.auto, some (.c (.int .i64 x18))⟩), (126, ⟨.auto, some (.c (.int .i64 x20))⟩), (130, ⟨.auto, some (.c (.int .u8 x22))⟩), (134, ⟨.auto, some (.c (.int .i64 x24))⟩), (146, ⟨.auto, some (.c (.int .i64 x26))⟩), (147, ⟨.auto, some (.c (.int .i64 x28))⟩), (151, ⟨.auto, some (.c (.int .u8 x30))⟩), (155, ⟨.auto, some (.c (.int .i64 x32))⟩), (167, ⟨.auto, some (.c (.int .i64 x34))⟩), (168, ⟨.auto, some (.c (.int .i64 x36))⟩), (172, ⟨.auto, some (.c (.int .u8 x38))⟩), (176, ⟨.auto, some (.c (.int .i64 x40))⟩), (188, ⟨.auto, some (.c (.int .i64 x42))⟩), (189, ⟨.auto, some (.c (.int .i64 x44))⟩), (193, ⟨.auto, some (.c (.int .u8 x46))⟩), (197, ⟨.auto, some (.c (.int .i64 x48))⟩), (209, ⟨.auto, some (.c (.int .i64 x50))⟩), (210, ⟨.auto, some (.c (.int .i64 x52))⟩), (214, ⟨.auto, some (.c (.int .u8 x54))⟩), (218, ⟨.auto, some (.c (.int .i64 x56))⟩), (230, ⟨.auto, some (.c (.int .i64 x58))⟩), (231, ⟨.auto, some (.c (.int .i64 x60))⟩), (235, ⟨.auto, some (.c (.int .u8 x62))⟩), (239, ⟨.auto, some (.c (.int .i64 x64))⟩), (251, ⟨.auto, some (.c (.int .i64 x66))⟩), (252, ⟨.auto, some (.c (.int .i64 x68))⟩), (256, ⟨.auto, some (.c (.int .u8 x70))⟩), (260, ⟨.auto, some (.c (.int .i64 x72))⟩), (272, ⟨.auto, some (.c (.int .i64 x74))⟩), (273, ⟨.auto, some (.c (.int .i64 x76))⟩), (277, ⟨.auto, some (.c (.int .u8 x78))⟩), (281, ⟨.auto, some (.c (.int .i64 x80))⟩), (293, ⟨.auto, some (.c (.int .i64 x82))⟩), (294, ⟨.auto, some (.c (.int .i64 x84))⟩), (298, ⟨.auto, some (.c (.int .u8 x86))⟩), (302, ⟨.auto, some (.c (.int .i64 x88))⟩), (314, ⟨.auto, some (.c (.int .i64 x90))⟩), (315, ⟨.auto, some (.c (.int .i64 x92))⟩), (319, ⟨.auto, some (.c (.int .u8 x94))⟩), (323, ⟨.auto, some (.c (.int .i64 x96))⟩), (335, ⟨.auto, some (.c (.int .i64 x98))⟩), (336, ⟨.auto, some (.c (.int .i64 x100))⟩), (340, ⟨.auto, some (.c (.int .u8 x102))⟩), (344, ⟨.auto, some (.c (.int .i64 x104))⟩), (356, ⟨.auto, some (.c (.int .i64 x106))⟩), (357, ⟨.auto, some (.c (.int .i64 x108))⟩), (361, ⟨.auto, some (.c (.int .u8 x110))⟩), (365, ⟨.auto, some (.c (.int .i64 x112))⟩), (377, ⟨.auto, some (.c (.int .i64 x114))⟩), (378, ⟨.auto, some (.c (.int .i64 x116))⟩), (382, ⟨.auto, some (.c (.int .u8 x118))⟩), (386, ⟨.auto, some (.c (.int .i64 x120))⟩), (398, ⟨.auto, some (.c (.int .i64 x122))⟩), (399, ⟨.auto, some (.c (.int .i64 x124))⟩), (403, ⟨.auto, some (.c (.int .u8 x126))⟩), (407, ⟨.auto, some (.c (.int .i64 x128))⟩), (415, ⟨.call [] (.c (.bool (true))) [] [], none⟩), (419, ⟨.call [209] (.aggi .u8 [r18_130, r18_131, r18_132, r18_133, r18_134, r18_135, r18_136, r18_137, r18_138, r18_139, r18_140, r18_141, r18_142, r18_143, r18_144, r18_145]) [] [], none⟩), (421, ⟨.auto, some (.c (.bool (true)))⟩)])
    (cs := [EB ([r18_130, r18_131, r18_132, r18_133, r18_134, r18_135, r18_136, r18_137, r18_138, r18_139, r18_140, r18_141, r18_142, r18_143, r18_144, r18_145] == List.take 16 (List.drop 0 (splice (splice (splice (splice (splice (splice (splice (splice (splice (splice (splice (splice (splice (splice (splice (splice (splice [0, 0, 0, 0, 0, 0, 0, 0, 0, 0, 0, 0, 0, 0, 0, 0] 0 (List.take 16 (List.drop 0 [s0, s1, s2, s3, s4, s5, s6, s7, s8, s9, s10, s11, s12, s13, s14, s15]))) 0 [x6]) 1 [x14]) 2 [x22]) 3 [x30]) 4 [x38]) 5 [x46]) 6 [x54]) 7 [x62]) 8 [x70]) 9 [x78]) 10 [x86]) 11 [x94]) 12 [x102]) 13 [x110]) 14 [x118]) 15 [x126]))) true,
      Contract Try.prog 18 [(.aggi .u8 [1, 0, 0, 0, 0, 0, 0, 0, 0, 0, 0, 0, 0, 0, 0, 0, s0, s1, s2, s3, s4, s5, s6, s7, s8, s9, s10, s11, s12, s13, s14, s15]), (.c (.sl 209 0 0 32 1))] [(209, (.one ⟨true, true, (.ints .u8 [1, 0, 0, 0, 0, 0, 0, 0, 0, 0, 0, 0, 0, 0, 0, 0, 2, 0, 0, 0, 0, 0, 0, 0, 0, 0, 0, 0, 0, 0, 0, 0])⟩))] 6385 (.aggi .u8 [r18_130, r18_131, r18_132, r18_133, r18_134, r18_135, r18_136, r18_137, r18_138, r18_139, r18_140, r18_141, r18_142, r18_143, r18_144, r18_145]) [] [],
      Contract Try.prog 19 [] [] 6321 (.c (.bool (true))) [] [],
      EI .i64 (IntKind.wrap IntKind.i64 (Int.tdiv x124 256)) x128,
      EI .u8 (x124 % 256) x126,
      EI .i64 (IntKind.wrap IntKind.i64 (x120 + x122)) x124,
      EI .i64 (IntKind.wrap IntKind.i64 s15) x122,
      EI .i64 (IntKind.wrap IntKind.i64 (Int.tdiv x116 256)) x120,
      EI .u8 (x116 % 256) x118,
      EI .i64 (IntKind.wrap IntKind.i64 (x112 + x114)) x116,
      EI .i64 (IntKind.wrap IntKind.i64 s14) x114,
      EI .i64 (IntKind.wrap IntKind.i64 (Int.tdiv x108 256)) x112,
      EI .u8 (x108 % 256) x110,
      EI .i64 (IntKind.wrap IntKind.i64 (x104 + x106)) x108,
      EI .i64 (IntKind.wrap IntKind.i64 s13) x106,
      EI .i64 (IntKind.wrap IntKind.i64 (Int.tdiv x100 256)) x104,
      EI .u8 (x100 % 256) x102,
      EI .i64 (IntKind.wrap IntKind.i64 (x96 + x98)) x100,
      EI .i64 (IntKind.wrap IntKind.i64 s12) x98,
      EI .i64 (IntKind.wrap IntKind.i64 (Int.tdiv x92 256)) x96,
      EI .u8 (x92 % 256) x94,
      EI .i64 (IntKind.wrap IntKind.i64 (x88 + x90)) x92,
      EI .i64 (IntKind.wrap IntKind.i64 s11) x90,
      EI .i64 (IntKind.wrap IntKind.i64 (Int.tdiv x84 256)) x88,
      EI .u8 (x84 % 256) x86,
      EI .i64 (IntKind.wrap IntKind.i64 (x80 + x82)) x84,
      EI .i64 (IntKind.wrap IntKind.i64 s10) x82,
      EI .i64 (IntKind.wrap IntKind.i64 (Int.tdiv x76 256)) x80,
      EI .u8 (x76 % 256) x78,
      EI .i64 (IntKind.wrap IntKind.i64 (x72 + x74)) x76,
      EI .i64 (IntKind.wrap IntKind.i64 s9) x74,
      EI .i64 (IntKind.wrap IntKind.i64 (Int.tdiv x68 256)) x72,
      EI .u8 (x68 % 256) x70,
      EI .i64 (IntKind.wrap IntKind.i64 (x64 + x66)) x68,
      EI .i64 (IntKind.wrap IntKind.i64 s8) x66,
      EI .i64 (IntKind.wrap IntKind.i64 (Int.tdiv x60 256)) x64,
      EI .u8 (x60 % 256) x62,
      EI .i64 (IntKind.wrap IntKind.i64 (x56 + x58)) x60,
      EI .i64 (IntKind.wrap IntKind.i64 s7) x58,
      EI .i64 (IntKind.wrap IntKind.i64 (Int.tdiv x52 256)) x56,
      EI .u8 (x52 % 256) x54,
      EI .i64 (IntKind.wrap IntKind.i64 (x48 + x50)) x52,
      EI .i64 (IntKind.wrap IntKind.i64 s6) x50,
      EI .i64 (IntKind.wrap IntKind.i64 (Int.tdiv x44 256)) x48,
      EI .u8 (x44 % 256) x46,
      EI .i64 (IntKind.wrap IntKind.i64 (x40 + x42)) x44,
      EI .i64 (IntKind.wrap IntKind.i64 s5) x42,
      EI .i64 (IntKind.wrap IntKind.i64 (Int.tdiv x36 256)) x40,
      EI .u8 (x36 % 256) x38,
      EI .i64 (IntKind.wrap IntKind.i64 (x32 + x34)) x36,
      EI .i64 (IntKind.wrap IntKind.i64 s4) x34,
      EI .i64 (IntKind.wrap IntKind.i64 (Int.tdiv x28 256)) x32,
      EI .u8 (x28 % 256) x30,
      EI .i64 (IntKind.wrap IntKind.i64 (x24 + x26)) x28,
      EI .i64 (IntKind.wrap IntKind.i64 s3) x26,
      EI .i64 (IntKind.wrap IntKind.i64 (Int.tdiv x20 256)) x24,
      EI .u8 (x20 % 256) x22,
      EI .i64 (IntKind.wrap IntKind.i64 (x16 + x18)) x20,
      EI .i64 (IntKind.wrap IntKind.i64 s2) x18,
      EI .i64 (IntKind.wrap IntKind.i64 (Int.tdiv x12 256)) x16,
      EI .u8 (x12 % 256) x14,
      EI .i64 (IntKind.wrap IntKind.i64 (x8 + x10)) x12,
      EI .i64 (IntKind.wrap IntKind.i64 s1) x10,
      EI .i64 (IntKind.wrap IntKind.i64 (Int.tdiv x4 256)) x8,
      EI .u8 (x4 % 256) x6,
      EI .i64 (IntKind.wrap IntKind.i64 (3 + x2)) x4,
      EI .i64 (IntKind.wrap IntKind.i64 s0) x2,
      Contract Try.prog 21 [(.c (.int .i64 n)), (.c (.int .i64 20))] [] 49 (.c (.int .i64 2)) [] []])
    mixed Try.func7 (by kernel_rfl) (by kernel_rfl) (by kernel_rfl) rfl (by kernel_rfl) ⟨.mk h147, c146.ro [(209, (1, true))] rfl (by kernel_rfl) rfl (by kernel_rfl) rfl rfl _, c129.use (by kernel_rfl) rfl rfl _ _, .mk h127, .mk h125, .mk h123, .mk h121, .mk h119, .mk h117, .mk h115, .mk h113, .mk h111, .mk h109, .mk h107, .mk h105, .mk h103, .mk h101, .mk h99, .mk h97, .mk h95, .mk h93, .mk h91, .mk h89, .mk h87, .mk h85, .mk h83, .mk h81, .mk h79, .mk h77, .mk h75, .mk h73, .mk h71, .mk h69, .mk h67, .mk h65, .mk h63, .mk h61, .mk h59, .mk h57, .mk h55, .mk h53, .mk h51, .mk h49, .mk h47, .mk h45, .mk h43, .mk h41, .mk h39, .mk h37, .mk h35, .mk h33, .mk h31, .mk h29, .mk h27, .mk h25, .mk h23, .mk h21, .mk h19, .mk h17, .mk h15, .mk h13, .mk h11, .mk h9, .mk h7, .mk h5, .mk h3, .mk h1, c0.use (by kernel_rfl) rfl rfl _ _, trivial⟩

theorem run7_3 (s0 s1 s2 s3 s4 s5 s6 s7 s8 s9 s10 s11 s12 s13 s14 s15 n x2 x4 x6 x8 x10 x12 x14 x16 x18 x20 x22 x24 x26 x28 x30 x32 x34 x36 x38 x40 x42 x44 x46 x48 x50 x52 x54 x56 x58 x60 x62 x64 x66 x68 x70 x72 x74 x76 x78 x80 x82 x84 x86 x88 x90 x92 x94 x96 x98 x100 x102 x104 x106 x108 x110 x112 x114 x116 x118 x120 x122 x124 x126 x128 r18_130 r18_131 r18_132 r18_133 r18_134 r18_135 r18_136 r18_137 r18_138 r18_139 r18_140 r18_141 r18_142 r18_143 r18_144 r18_145 : Int)
    (c0 : PureF Try.prog 21 [(.c (.int .i64 n)), (.c (.int .i64 20))] (.c (.int .i64 3)))
    (h1 : (IntKind.wrap IntKind.i64 s0) = x2)
    (h3 : (IntKind.wrap IntKind.i64 (6 + x2)) = x4)
    (h5 : (x4 % 256) = x6)
    (h7 : (IntKind.wrap IntKind.i64 (Int.tdiv x4 256)) = x8)
    (h9 : (IntKind.wrap IntKind.i64 s1) = x10)
    (h11 : (IntKind.wrap IntKind.i64 (x8 + x10)) = x12)
    (h13 : (x12 % 256) = x14)
    (h15 : (IntKind.wrap IntKind.i64 (Int.tdiv x12 256)) = x16)
    (h17 : (IntKind.wrap IntKind.i64 s2) = x18)
    (h19 : (IntKind.wrap IntKind.i64 (x16 + x18)) = x20)
    (h21 : (x20 % 256) = x22)
    (h23 : (IntKind.wrap IntKind.i64 (Int.tdiv x20 256)) = x24)
    (h25 : (IntKind.wrap IntKind.i64 s3) = x26)
    (h27 : (IntKind.wrap IntKind.i64 (x24 + x26)) = x28)
    (h29 : (x28 % 256) = x30)
    (h31 : (IntKind.wrap IntKind.i64 (Int.tdiv x28 256)) = x32)
    (h33 : (IntKind.wrap IntKind.i64 s4) = x34)
    (h35 : (IntKind.wrap IntKind.i64 (x32 + x34)) = x36)
    (h37 : (x36 % 256) = x38)
    (h39 : (IntKind.wrap IntKind.i64 (Int.tdiv x36 256)) = x40)
    (h41 : (IntKind.wrap IntKind.i64 s5) = x42)
    (h43 : (IntKind.wrap IntKind.i64 (x40 + x42)) = x44)
    (h45 : (x44 % 256) = x46)
    (h47 : (IntKind.wrap IntKind.i64 (Int.tdiv x44 256)) = x48)
    (h49 : (IntKind.wrap IntKind.i64 s6) = x50)
    (h51 : (IntKind.wrap IntKind.i64 (x48 + x50)) = x52)
    (h53 : (x52 % 256) = x54)
    (h55 : (IntKind.wrap IntKind.i64 (Int.tdiv x52 256)) = x56)
    (h57 : (IntKind.wrap IntKind.i64 s7) = x58)
    (h59 : (IntKind.wrap IntKind.i64 (x56 + x58)) = x60)
    (h61 : (x60 % 256) = x62)
    (h63 : (IntKind.wrap IntKind.i64 (Int.tdiv x60 256)) = x64)
    (h65 : (IntKind.wrap IntKind.i64 s8) = x66)
    (h67 : (IntKind.wrap IntKind.i64 (x64 + x66)) = x68)
    (h69 : (x68 % 256) = x70)
    (h71 : (IntKind.wrap IntKind.i64 (Int.tdiv x68 256)) = x72)
    (h73 : (IntKind.wrap IntKind.i64 s9) = x74)
    (h75 : (IntKind.wrap IntKind.i64 (x72 + x74)) = x76)
    (h77 : (x76 % 256) = x78)
    (h79 : (IntKind.wrap IntKind.i64 (Int.tdiv x76 256)) = x80)
    (h81 : (IntKind.wrap IntKind.i64 s10) = x82)
    (h83 : (IntKind.wrap IntKind.i64 (x80 + x82)) = x84)
    (h85 : (x84 % 256) = x86)
    (h87 : (IntKind.wrap IntKind.i64 (Int.tdiv x84 256)) = x88)
    (h89 : (IntKind.wrap IntKind.i64 s11) = x90)
    (h91 : (IntKind.wrap IntKind.i64 (x88 + x90)) = x92)
    (h93 : (x92 % 256) = x94)
    (h95 : (IntKind.wrap IntKind.i64 (Int.tdiv x92 256)) = x96)
    (h97 : (IntKind.wrap IntKind.i64 s12) = x98)
    (h99 : (IntKind.wrap IntKind.i64 (x96 + x98)) = x100)
    (h101 : (x100 % 256) = x102)
    (h103 : (IntKind.wrap IntKind.i64 (Int.tdiv x100 256)) = x104)
    (h105 : (IntKind.wrap IntKind.i64 s13) = x106)
    (h107 : (IntKind.wrap IntKind.i64 (x104 + x106)) = x108)
    (h109 : (x108 % 256) = x110)
    (h111 : (IntKind.wrap IntKind.i64 (Int.tdiv x108 256)) = x112)
    (h113 : (IntKind.wrap IntKind.i64 s14) = x114)
    (h115 : (IntKind.wrap IntKind.i64 (x112 + x114)) = x116)
    (h117 : (x116 % 256) = x118)
    (h119 : (IntKind.wrap IntKind.i64 (Int.tdiv x116 256)) = x120)
    (h121 : (IntKind.wrap IntKind.i64 s15) = x122)
    (h123 : (IntKind.wrap IntKind.i64 (x120 + x122)) = x124)
    (h125 : (x124 % 256) = x126)
    (h127 : (IntKind.wrap IntKind.i64 (Int.tdiv x124 256)) = x128)
    (c129 : PureF Try.prog 19 [] (.c (.bool (true))))
    (c146 : Contract0 Try.prog 18 [(.aggi .u8 [1, 0, 0, 0, 0, 0, 0, 0, 0, 0, 0, 0, 0, 0, 0, 0, s0, s1, s2, s3, s4, s5, s6, s7, s8, s9, s10, s11, s12, s13, s14, s15]), (.c (.sl 1 0 0 48 1))] [(1, (.one ⟨false, true, (.ints .u8 [1, 0, 0, 0, 0, 0, 0, 0, 0, 0, 0, 0, 0, 0, 0, 0, 2, 0, 0, 0, 0, 0, 0, 0, 0, 0, 0, 0, 0, 0, 0, 0, 3, 0, 0, 0, 0, 0, 0, 0, 0, 0, 0, 0, 0, 0, 0, 0])⟩))] 2 (.aggi .u8 [r18_130, r18_131, r18_132, r18_133, r18_134, r18_135, r18_136, r18_137, r18_138, r18_139, r18_140, r18_141, r18_142, r18_143, r18_144, r18_145]) [] [])
    (h147 : ([r18_130, r18_131, r18_132, r18_133, r18_134, r18_135, r18_136, r18_137, r18_138, r18_139, r18_140, r18_141, r18_142, r18_143, r18_144, r18_145] == List.take 16 (List.drop 0 (splice (splice (splice (splice (splice (splice (splice (splice (splice (splice (splice (splice (splice (splice (splice (splice (splice [0, 0, 0, 0, 0, 0, 0, 0, 0, 0, 0, 0, 0, 0, 0, 0] 0 (List.take 16 (List.drop 0 [s0, s1, s2, s3, s4, s5, s6, s7, s8, s9, s10, s11, s12, s13, s14, s15]))) 0 [x6]) 1 [x14]) 2 [x22]) 3 [x30]) 4 [x38]) 5 [x46]) 6 [x54]) 7 [x62]) 8 [x70]) 9 [x78]) 10 [x86]) 11 [x94]) 12 [x102]) 13 [x110]) 14 [x118]) 15 [x126]))) = true)   :
    PureF Try.prog 7 [(.aggi .u8 [s0, s1, s2, s3, s4, s5, s6, s7, s8, s9, s10, s11, s12, s13, s14, s15]), (.c (.int .i64 n))] (.c (.bool (true))) :=
  Contract0.of_frun (fn := Try.f7) (c := bodyOf Try.f7) (fuel := 5000) (k := kOf Try.prog Try.f7) (outs := []) (hs := [(3, ⟨.call [] (.c (.int .i64 3)) [] [], none⟩), (103, ⟨.auto, some (.c (.int .i64 x2))⟩), (104, ⟨.auto, some (.c (.int .i64 x4))⟩), (108, ⟨.auto, some (.c (.int .u8 x6))⟩), (112, ⟨.auto, some (.c (.int .i64 x8))⟩), (124, ⟨.auto, some (.c (.int .i64 x10))⟩), (125, ⟨.auto, some (.c (.int .i64 x12))⟩), (129, ⟨.auto, some (.c (.int .u8 x14))⟩), (133, ⟨.auto, some (.c (.int .i64 x16))⟩), (145, ⟨.auto, some (.c (.int .i64 x18))⟩), (146, ⟨.auto, some (.c (.int .i64 x20))⟩), (150, ⟨.auto, some (.c (.int .u8 x22))⟩), (154, ⟨.auto, some (.c (.int .i64 x24))⟩), (166, ⟨.auto, some (.c (.int .i64 x26))⟩), (167, ⟨.auto, some (.c (.int .i64 x28))⟩), (171, ⟨.auto, some (.c (.int .u8 x30))⟩), (175, ⟨.auto, some (.c (.int .i64 x32))⟩), (187, ⟨.auto, some (.c (.int .i64 x34))⟩), (188, ⟨.auto, some (.c (.int .i64 x36))⟩), (192, ⟨.auto, some (.c (.int .u8 x38))⟩), (196, ⟨.auto, some (.c (.int .i64 x40))⟩), (208, ⟨.auto, some (.c (.int .i64 x42))⟩), (209, ⟨.auto, some (.c (.int .i64 x44))⟩), (213, ⟨.auto, some (.c (.int .u8 x46))⟩), (217, ⟨.auto, some (.c (.int .i64 x48))⟩), (229, ⟨.auto, some (.c (.int .i64 x50))⟩), (230, ⟨.auto, some (.c (.int .i64 x52))⟩), (234, ⟨.auto, some (.c (.int .u8 x54))⟩), (238, ⟨.auto, some (.c (.int .i64 x56))⟩), (250, ⟨.auto, some (.c (.int .i64 x58))⟩), (251, ⟨.auto, some (.c (.int .i64 x60))⟩), (255, ⟨.auto, some (.c (.int .u8 x62))⟩), (259, ⟨.auto, some (.c (.int .i64 x64))⟩), (271, ⟨.auto, some (.c (.int .i64 x66))⟩), (272, ⟨.auto, some (.c (.int .i64 x68))⟩), (276, ⟨.auto, some (.c (.int .u8 x70))⟩), (280, ⟨.auto, some (.c (.int .i64 x72))⟩), (292, ⟨.auto, some (.c (.int .i64 x74))⟩), (293, ⟨.auto, some (.c (.int .i64 x76))⟩), (297, ⟨.auto, some (.c (.int .u8 x78))⟩), (301, ⟨.auto, some (.c (.int .i64 x80))⟩), (313, ⟨.auto, some (.c (.int .i64 x82))⟩), (314, ⟨.auto, some (.c (.int .i64 x84))⟩), (318, ⟨.auto, some (.c (.int .u8 x86))⟩), (322, ⟨.auto, some (.c (.int .i64 x88))⟩), (334, ⟨.auto, some (.c (.int .i64 x90))⟩), (335, ⟨.auto, some (.c (.int .i64 x92))⟩), (339, ⟨.auto, some (.c (.int .u8 x94))⟩), (343, ⟨.auto, some (.c (.int .i64 x96))⟩), (355, ⟨.auto, some (.c (.int .i64 x98))⟩), (356, ⟨.auto, some (.c (.int .i64 x100))⟩), (360, ⟨.auto, some (.c (.int .u8 x102))⟩), (364, ⟨.auto, some (.c (.int .i64 x104))⟩), (376, ⟨.auto, some (.c (.int .i64 x106))⟩), (377, ⟨.auto, some (.c (.int .i64 x108))⟩), (381, ⟨.auto, some (.c (.int .u8 x110))⟩), (385, ⟨.auto, some (.c (.int .i64 x112))⟩), (397, ⟨.auto, some (.c (.int .i64 x114))⟩), (398, ⟨.auto, some (.c (.int .i64 x116))⟩), (402, ⟨.auto, some (.c (.int .u8 x118))⟩), (406, ⟨.auto, some (.c (.int .i64 x120))⟩), (418, ⟨.auto, some (.c (.int .i64 x122))⟩), (419, ⟨.auto, some (.c (.int .i64 x124))⟩), (423, ⟨.auto, some (.c (.int .u8 x126))⟩), (427, ⟨.auto, some (.c (.int .i64 x128))⟩), (435, ⟨.call [] (.c (.bool (true))) [] [], none⟩), (439, ⟨.call [209] (.aggi .u8 [r18_130, r18_131, r18_132, r18_133, r18_134, r18_135, r18_136, r18_137, r18_138, r18_139, r18_140, r18_141, r18_142, r18_143, r18_144, r18_145]) [] [], none⟩), (441, ⟨.auto, some (.c (.bool (true)))⟩)])
    (cs := [EB ([r18_130, r18_131, r18_132, r18_133, r18_134, r18_135, r18_136, r18_137, r18_138, r18_139, r18_140, r18_141, r18_142, r18_143, r18_144, r18_145] == List.take 16 (List.drop 0 (splice (splice (splice (splice (splice (splice (splice (splice (splice (splice (splice (splice (splice (splice (splice (splice (splice [0, 0, 0, 0, 0, 0, 0, 0, 0, 0, 0, 0, 0, 0, 0, 0] 0 (List.take 16 (List.drop 0 [s0, s1, s2, s3, s4, s5, s6, s7, s8, s9, s10, s11, s12, s13, s14, s15]))) 0 [x6]) 1 [x14]) 2 [x22]) 3 [x30]) 4 [x38]) 5 [x46]) 6 [x54]) 7 [x62]) 8 [x70]) 9 [x78]) 10 [x86]) 11 [x94]) 12 [x102]) 13 [x110]) 14 [x118]) 15 [x126]))) true,
      Contract Try.prog 18 [(.aggi .u8 [1, 0, 0, 0, 0, 0, 0, 0, 0, 0, 0, 0, 0, 0, 0, 0, s0, s1, s2, s3, s4, s5, s6, s7, s8, s9, s10, s11, s12, s13, s14, s15]), (.c (.sl 209 0 0 48 1))] [(209, (.one ⟨true, true, (.ints .u8 [1, 0, 0, 0, 0, 0, 0, 0, 0, 0, 0, 0, 0, 0, 0, 0, 2, 0, 0, 0, 0, 0, 0, 0, 0, 0, 0, 0, 0, 0, 0, 0, 3, 0, 0, 0, 0, 0, 0, 0, 0, 0, 0, 0, 0, 0, 0, 0])⟩))] 6689 (.aggi .u8 [r18_130, r18_131, r18_132, r18_133, r18_134, r18_135, r18_136, r18_137, r18_138, r18_139, r18_140, r18_141, r18_142, r18_143, r18_144, r18_145]) [] [],
      Contract Try.prog 19 [] [] 6625 (.c (.bool (true))) [] [],
      EI .i64 (IntKind.wrap IntKind.i64 (Int.tdiv x124 256)) x128,
      EI .u8 (x124 % 256) x126,
      EI .i64 (IntKind.wrap IntKind.i64 (x120 + x122)) x124,
      EI .i64 (IntKind.wrap IntKind.i64 s15) x122,
      EI .i64 (IntKind.wrap IntKind.i64 (Int.tdiv x116 256)) x120,
      EI .u8 (x116 % 256) x118,
      EI .i64 (IntKind.wrap IntKind.i64 (x112 + x114)) x116,
      EI .i64 (IntKind.wrap IntKind.i64 s14) x114,
      EI .i64 (IntKind.wrap IntKind.i64 (Int.tdiv x108 256)) x112,
      EI .u8 (x108 % 256) x110,
      EI .i64 (IntKind.wrap IntKind.i64 (x104 + x106)) x108,
      EI .i64 (IntKind.wrap IntKind.i64 s13) x106,
      EI .i64 (IntKind.wrap IntKind.i64 (Int.tdiv x100 256)) x104,
      EI .u8 (x100 % 256) x102,
      EI .i64 (IntKind.wrap IntKind.i64 (x96 + x98)) x100,
      EI .i64 (IntKind.wrap IntKind.i64 s12) x98,
      EI .i64 (IntKind.wrap IntKind.i64 (Int.tdiv x92 256)) x96,
      EI .u8 (x92 % 256) x94,
      EI .i64 (IntKind.wrap IntKind.i64 (x88 + x90)) x92,
      EI .i64 (IntKind.wrap IntKind.i64 s11) x90,
      EI .i64 (IntKind.wrap IntKind.i64 (Int.tdiv x84 256)) x88,
      EI .u8 (x84 % 256) x86,
      EI .i64 (IntKind.wrap IntKind.i64 (x80 + x82)) x84,
      EI .i64 (IntKind.wrap IntKind.i64 s10) x82,
      EI .i64 (IntKind.wrap IntKind.i64 (Int.tdiv x76 256)) x80,
      EI .u8 (x76 % 256) x78,
      EI .i64 (IntKind.wrap IntKind.i64 (x72 + x74)) x76,
      EI .i64 (IntKind.wrap IntKind.i64 s9) x74,
      EI .i64 (IntKind.wrap IntKind.i64 (Int.tdiv x68 256)) x72,
      EI .u8 (x68 % 256) x70,
      EI .i64 (IntKind.wrap IntKind.i64 (x64 + x66)) x68,
      EI .i64 (IntKind.wrap IntKind.i64 s8) x66,
      EI .i64 (IntKind.wrap IntKind.i64 (Int.tdiv x60 256)) x64,
      EI .u8 (x60 % 256) x62,
      EI .i64 (IntKind.wrap IntKind.i64 (x56 + x58)) x60,
      EI .i64 (IntKind.wrap IntKind.i64 s7) x58,
      EI .i64 (IntKind.wrap IntKind.i64 (Int.tdiv x52 256)) x56,
      EI .u8 (x52 % 256) x54,
      EI .i64 (IntKind.wrap IntKind.i64 (x48 + x50)) x52,
      EI .i64 (IntKind.wrap IntKind.i64 s6) x50,
      EI .i64 (IntKind.wrap IntKind.i64 (Int.tdiv x44 256)) x48,
      EI .u8 (x44 % 256) x46,
      EI .i64 (IntKind.wrap IntKind.i64 (x40 + x42)) x44,
      EI .i64 (IntKind.wrap IntKind.i64 s5) x42,
      EI .i64 (IntKind.wrap IntKind.i64 (Int.tdiv x36 256)) x40,
      EI .u8 (x36 % 256) x38,
      EI .i64 (IntKind.wrap IntKind.i64 (x32 + x34)) x36,
      EI .i64 (IntKind.wrap IntKind.i64 s4) x34,
      EI .i64 (IntKind.wrap IntKind.i64 (Int.tdiv x28 256)) x32,
      EI .u8 (x28 % 256) x30,
      EI .i64 (IntKind.wrap IntKind.i64 (x24 + x26)) x28,
      EI .i64 (IntKind.wrap IntKind.i64 s3) x26,
      EI .i64 (IntKind.wrap IntKind.i64 (Int.tdiv x20 256)) x24,
      EI .u8 (x20 % 256) x22,
      EI .i64 (IntKind.wrap IntKind.i64 (x16 + x18)) x20,
      EI .i64 (IntKind.wrap IntKind.i64 s2) x18,
      EI .i64 (IntKind.wrap IntKind.i64 (Int.tdiv x12 256)) x16,
      EI .u8 (x12 % 256) x14,
      EI .i64 (IntKind.wrap IntKind.i64 (x8 + x10)) x12,
      EI .i64 (IntKind.wrap IntKind.i64 s1) x10,
      EI .i64 (IntKind.wrap IntKind.i64 (Int.tdiv x4 256)) x8,
      EI .u8 (x4 % 256) x6,
      EI .i64 (IntKind.wrap IntKind.i64 (6 + x2)) x4,
      EI .i64 (IntKind.wrap IntKind.i64 s0) x2,
      Contract Try.prog 21 [(.c (.int .i64 n)), (.c (.int .i64 20))] [] 49 (.c (.int .i64 3)) [] []])
    mixed Try.func7 (by kernel_rfl) (by kernel_rfl) (by kernel_rfl) rfl (by kernel_rfl) ⟨.mk h147, c146.ro [(209, (1, true))] rfl (by kernel_rfl) rfl (by kernel_rfl) rfl rfl _, c129.use (by kernel_rfl) rfl rfl _ _, .mk h127, .mk h125, .mk h123, .mk h121, .mk h119, .mk h117, .mk h115, .mk h113, .mk h111, .mk h109, .mk h107, .mk h105, .mk h103, .mk h101, .mk h99, .mk h97, .mk h95, .mk h93, .mk h91, .mk h89, .mk h87, .mk h85, .mk h83, .mk h81, .mk h79, .mk h77, .mk h75, .mk h73, .mk h71, .mk h69, .mk h67, .mk h65, .mk h63, .mk h61, .mk h59, .mk h57, .mk h55, .mk h53, .mk h51, .mk h49, .mk h47, .mk h45, .mk h43, .mk h41, .mk h39, .mk h37, .mk h35, .mk h33, .mk h31, .mk h29, .mk h27, .mk h25, .mk h23, .mk h21, .mk h19, .mk h17, .mk h15, .mk h13, .mk h11, .mk h9, .mk h7, .mk h5, .mk h3, .mk h1, c0.use (by kernel_rfl) rfl rfl _ _, trivial⟩

theorem run7_4 (s0 s1 s2 s3 s4 s5 s6 s7 s8 s9 s10 s11 s12 s13 s14 s15 n x2 x4 x6 x8 x10 x12 x14 x16 x18 x20 x22 x24 x26 x28 x30 x32 x34 x36 x38 x40 x42 x44 x46 x48 x50 x52 x54 x56 x58 x60 x62 x64 x66 x68 x70 x72 x74 x76 x78 x80 x82 x84 x86 x88 x90 x92 x94 x96 x98 x100 x102 x104 x106 x108 x110 x112 x114 x116 x118 x120 x122 x124 x126 x128 r18_130 r18_131 r18_132 r18_133 r18_134 r18_135 r18_136 r18_137 r18_138 r18_139 r18_140 r18_141 r18_142 r18_143 r18_144 r18_145 : Int)
    (c0 : PureF Try.prog 21 [(.c (.int .i64 n)), (.c (.int .i64 20))] (.c (.int .i64 4)))
    (h1 : (IntKind.wrap IntKind.i64 s0) = x2)
    (h3 : (IntKind.wrap IntKind.i64 (15 + x2)) = x4)
    (h5 : (x4 % 256) = x6)
    (h7 : (IntKind.wrap IntKind.i64 (Int.tdiv x4 256)) = x8)
    (h9 : (IntKind.wrap IntKind.i64 s1) = x10)
    (h11 : (IntKind.wrap IntKind.i64 (x8 + x10)) = x12)
    (h13 : (x12 % 256) = x14)
    (h15 : (IntKind.wrap IntKind.i64 (Int.tdiv x12 256)) = x16)
    (h17 : (IntKind.wrap IntKind.i64 s2) = x18)
    (h19 : (IntKind.wrap IntKind.i64 (x16 + x18)) = x20)
    (h21 : (x20 % 256) = x22)
    (h23 : (IntKind.wrap IntKind.i64 (Int.tdiv x20 256)) = x24)
    (h25 : (IntKind.wrap IntKind.i64 s3) = x26)
    (h27 : (IntKind.wrap IntKind.i64 (x24 + x26)) = x28)
    (h29 : (x28 % 256) = x30)
    (h31 : (IntKind.wrap IntKind.i64 (Int.tdiv x28 256)) = x32)
    (h33 : (IntKind.wrap IntKind.i64 s4) = x34)
    (h35 : (IntKind.wrap IntKind.i64 (x32 + x34)) = x36)
    (h37 : (x36 % 256) = x38)
    (h39 : (IntKind.wrap IntKind.i64 (Int.tdiv x36 256)) = x40)
    (h41 : (IntKind.wrap IntKind.i64 s5) = x42)
    (h43 : (IntKind.wrap IntKind.i64 (x40 + x42)) = x44)
    (h45 : (x44 % 256) = x46)
    (h47 : (IntKind.wrap IntKind.i64 (Int.tdiv x44 256)) = x48)
    (h49 : (IntKind.wrap IntKind.i64 s6) = x50)
    (h51 : (IntKind.wrap IntKind.i64 (x48 + x50)) = x52)
    (h53 : (x52 % 256) = x54)
    (h55 : (IntKind.wrap IntKind.i64 (Int.tdiv x52 256)) = x56)
    (h57 : (IntKind.wrap IntKind.i64 s7) = x58)
    (h59 : (IntKind.wrap IntKind.i64 (x56 + x58)) = x60)
    (h61 : (x60 % 256) = x62)
    (h63 : (IntKind.wrap IntKind.i64 (Int.tdiv x60 256)) = x64)
    (h65 : (IntKind.wrap IntKind.i64 s8) = x66)
    (h67 : (IntKind.wrap IntKind.i64 (x64 + x66)) = x68)
    (h69 : (x68 % 256) = x70)
    (h71 : (IntKind.wrap IntKind.i64 (Int.tdiv x68 256)) = x72)
    (h73 : (IntKind.wrap IntKind.i64 s9) = x74)
    (h75 : (IntKind.wrap IntKind.i64 (x72 + x74)) = x76)
    (h77 : (x76 % 256) = x78)
    (h79 : (IntKind.wrap IntKind.i64 (Int.tdiv x76 256)) = x80)
    (h81 : (IntKind.wrap IntKind.i64 s10) = x82)
    (h83 : (IntKind.wrap IntKind.i64 (x80 + x82)) = x84)
    (h85 : (x84 % 256) = x86)
    (h87 : (IntKind.wrap IntKind.i64 (Int.tdiv x84 256)) = x88)
    (h89 : (IntKind.wrap IntKind.i64 s11) = x90)
    (h91 : (IntKind.wrap IntKind.i64 (x88 + x90)) = x92)
    (h93 : (x92 % 256) = x94)
    (h95 : (IntKind.wrap IntKind.i64 (Int.tdiv x92 256)) = x96)
    (h97 : (IntKind.wrap IntKind.i64 s12) = x98)
    (h99 : (IntKind.wrap IntKind.i64 (x96 + x98)) = x100)
    (h101 : (x100 % 256) = x102)
    (h103 : (IntKind.wrap IntKind.i64 (Int.tdiv x100 256)) = x104)
    (h105 : (IntKind.wrap IntKind.i64 s13) = x106)
    (h107 : (IntKind.wrap IntKind.i64 (x104 + x106)) = x108)
    (h109 : (x108 % 256) = x110)
    (h111 : (IntKind.wrap IntKind.i64 (Int.tdiv x108 256)) = x112)
    (h113 : (IntKind.wrap IntKind.i64 s14) = x114)
    (h115 : (IntKind.wrap IntKind.i64 (x112 + x114)) = x116)
    (h117 : (x116 % 256) = x118)
    (h119 : (IntKind.wrap IntKind.i64 (Int.tdiv x116 256)) = x120)
    (h121 : (IntKind.wrap IntKind.i64 s15) = x122)
    (h123 : (IntKind.wrap IntKind.i64 (x120 + x122)) = x124)
    (h125 : (x124 % 256) = x126)
    (h127 : (IntKind.wrap IntKind.i64 (Int.tdiv x124 256)) = x128)
    (c129 : PureF Try.prog 19 [] (.c (.bool (true))))
    (c146 : Contract0 Try.prog 18 [(.aggi .u8 [1, 0, 0, 0, 0, 0, 0, 0, 0, 0, 0, 0, 0, 0, 0, 0, s0, s1, s2, s3, s4, s5, s6, s7, s8, s9, s10, s11, s12, s13, s14, s15]), (.c (.sl 1 0 0 64 1))] [(1, (.one ⟨false, true, (.ints .u8 [1, 0, 0, 0, 0, 0, 0, 0, 0, 0, 0, 0, 0, 0, 0, 0, 2, 0, 0, 0, 0, 0, 0, 0, 0, 0, 0, 0, 0, 0, 0, 0, 3, 0, 0, 0, 0, 0, 0, 0, 0, 0, 0, 0, 0, 0, 0, 0, 4, 0, 0, 0, 0, 0, 0, 0, 0, 0, 0, 0, 0, 0, 0, 0])⟩))] 2 (.aggi .u8 [r18_130, r18_131, r18_132, r18_133, r18_134, r18_135, r18_136, r18_137, r18_138, r18_139, r18_140, r18_141, r18_142, r18_143, r18_144, r18_145]) [] [])
    (h147 : ([r18_130, r18_131, r18_132, r18_133, r18_134, r18_135, r18_136, r18_137, r18_138, r18_139, r18_140, r18_141, r18_142, r18_143, r18_144, r18_145] == List.take 16 (List.drop 0 (splice (splice (splice (splice (splice (splice (splice (splice (splice (splice (splice (splice (splice (splice (splice (splice (splice [0, 0, 0, 0, 0, 0, 0, 0, 0, 0, 0, 0, 0, 0, 0, 0] 0 (List.take 16 (List.drop 0 [s0, s1, s2, s3, s4, s5, s6, s7, s8, s9, s10, s11, s12, s13, s14, s15]))) 0 [x6]) 1 [x14]) 2 [x22]) 3 [x30]) 4 [x38]) 5 [x46]) 6 [x54]) 7 [x62]) 8 [x70]) 9 [x78]) 10 [x86]) 11 [x94]) 12 [x102]) 13 [x110]) 14 [x118]) 15 [x126]))) = true)   :
    PureF Try.prog 7 [(.aggi .u8 [s0, s1, s2, s3, s4, s5, s6, s7, s8, s9, s10, s11, s12, s13, s14, s15]), (.c (.int .i64 n))] (.c (.bool (true))) :=
  Contract0.of_frun (fn := Try.f7) (c := bodyOf Try.f7) (fuel := 5000) (k := kOf Try.prog Try.f7) (outs := []) (hs := [(3, ⟨.call [] (.c (.int .i64 4)) [] [], none⟩), (123, ⟨.auto, some (.c (.int .i64 x2))⟩), (124, ⟨.auto, some (.c (.int .i64 x4))⟩), (128, ⟨.auto, some (.c (.int .u8 x6))⟩), (132, ⟨.auto, some (.c (.int .i64 x8))⟩), (144, ⟨.auto, some (.c (.int .i64 x10))⟩), (145, ⟨.auto, some (.c (.int .i64 x12))⟩), (149, ⟨.auto, some (.c (.int .u8 x14))⟩), (153, ⟨.auto, some (.c (.int .i64 x16))⟩), (165, ⟨.auto, some (.c (.int .i64 x18))⟩), (166, ⟨.auto, some (.c (.int .i64 x20))⟩), (170, ⟨.auto, some (.c (.int .u8 x22))⟩), (174, ⟨.auto, some (.c (.int .i64 x24))⟩), (186, ⟨.auto, some (.c (.int .i64 x26))⟩), (187, ⟨.auto, some (.c (.int .i64 x28))⟩), (191, ⟨.auto, some (.c (.int .u8 x30))⟩), (195, ⟨.auto, some (.c (.int .i64 x32))⟩), (207, ⟨.auto, some (.c (.int .i64 x34))⟩), (208, ⟨.auto, some (.c (.int .i64 x36))⟩), (212, ⟨.auto, some (.c (.int .u8 x38))⟩), (216, ⟨.auto, some (.c (.int .i64 x40))⟩), (228, ⟨.auto, some (.c (.int .i64 x42))⟩), (229, ⟨.auto, some (.c (.int .i64 x44))⟩), (233, ⟨.auto, some (.c (.int .u8 x46))⟩), (237, ⟨.auto, some (.c (.int .i64 x48))⟩), (249, ⟨.auto, some (.c (.int .i64 x50))⟩), (250, ⟨.auto, some (.c (.int .i64 x52))⟩), (254, ⟨.auto, some (.c (.int .u8 x54))⟩), (258, ⟨.auto, some (.c (.int .i64 x56))⟩), (270, ⟨.auto, some (.c (.int .i64 x58))⟩), (271, ⟨.auto, some (.c (.int .i64 x60))⟩), (275, ⟨.auto, some (.c (.int .u8 x62))⟩), (279, ⟨.auto, some (.c (.int .i64 x64))⟩), (291, ⟨.auto, some (.c (.int .i64 x66))⟩), (292, ⟨.auto, some (.c (.int .i64 x68))⟩), (296, ⟨.auto, some (.c (.int .u8 x70))⟩), (300, ⟨.auto, some (.c (.int .i64 x72))⟩), (312, ⟨.auto, some (.c (.int .i64 x74))⟩), (313, ⟨.auto, some (.c (.int .i64 x76))⟩), (317, ⟨.auto, some (.c (.int .u8 x78))⟩), (321, ⟨.auto, some (.c (.int .i64 x80))⟩), (333, ⟨.auto, some (.c (.int .i64 x82))⟩), (334, ⟨.auto, some (.c (.int .i64 x84))⟩), (338, ⟨.auto, some (.c (.int .u8 x86))⟩), (342, ⟨.auto, some (.c (.int .i64 x88))⟩), (354, ⟨.auto, some (.c (.int .i64 x90))⟩), (355, ⟨.auto, some (.c (.int .i64 x92))⟩), (359, ⟨.auto, some (.c (.int .u8 x94))⟩), (363, ⟨.auto, some (.c (.int .i64 x96))⟩), (375, ⟨.auto, some (.c (.int .i64 x98))⟩), (376, ⟨.auto, some (.c (.int .i64 x100))⟩), (380, ⟨.auto, some (.c (.int .u8 x102))⟩), (384, ⟨.auto, some (.c (.int .i64 x104))⟩), (396, ⟨.auto, some (.c (.int .i64 x106))⟩), (397, ⟨.auto, some (.c (.int .i64 x108))⟩), (401, ⟨.auto, some (.c (.int .u8 x110))⟩), (405, ⟨.auto, some (.c (.int .i64 x112))⟩), (417, ⟨.auto, some (.c (.int .i64 x114))⟩), (418, ⟨.auto, some (.c (.int .i64 x116))⟩), (422, ⟨.auto, some (.c (.int .u8 x118))⟩), (426, ⟨.auto, some (.c (.int .i64 x120))⟩), (438, ⟨.auto, some (.c (.int .i64 x122))⟩), (439, ⟨.auto, some (.c (.int .i64 x124))⟩), (443, ⟨.auto, some (.c (.int .u8 x126))⟩), (447, ⟨.auto, some (.c (.int .i64 x128))⟩), (455, ⟨.call [] (.c (.bool (true))) [] [], none⟩), (459, ⟨.call [209] (.aggi .u8 [r18_130, r18_131, r18_132, r18_133, r18_134, r18_135, r18_136, r18_137, r18_138, r18_139, r18_140, r18_141, r18_142, r18_143, r18_144, r18_145]) [] [], none⟩), (461, ⟨.auto, some (.c (.bool (true)))⟩)])
    (cs := [EB ([r18_130, r18_131, r18_132, r18_133, r18_134, r18_135, r18_136, r18_137, r18_138, r18_139, r18_140, r18_141, r18_142, r18_143, r18_144, r18_145] == List.take 16 (List.drop 0 (splice (splice (splice (splice (splice (splice (splice (splice (splice (splice (splice (splice (splice (splice (splice (splice (splice [0, 0, 0, 0, 0, 0, 0, 0, 0, 0, 0, 0, 0, 0, 0, 0] 0 (List.take 16 (List.drop 0 [s0, s1, s2, s3, s4, s5, s6, s7, s8, s9, s10, s11, s12, s13, s14, s15]))) 0 [x6]) 1 [x14]) 2 [x22]) 3 [x30]) 4 [x38]) 5 [x46]) 6 [x54]) 7 [x62]) 8 [x70]) 9 [x78]) 10 [x86]) 11 [x94]) 12 [x102]) 13 [x110]) 14 [x118]) 15 [x126]))) true,
      Contract Try.prog 18 [(.aggi .u8 [1, 0, 0, 0, 0, 0, 0, 0, 0, 0, 0, 0, 0, 0, 0, 0, s0, s1, s2, s3, s4, s5, s6, s7, s8, s9, s10, s11, s12, s13, s14, s15]), (.c (.sl 209 0 0 64 1))] [(209, (.one ⟨true, true, (.ints .u8 [1, 0, 0, 0, 0, 0, 0, 0, 0, 0, 0, 0, 0, 0, 0, 0, 2, 0, 0, 0, 0, 0, 0, 0, 0, 0, 0, 0, 0, 0, 0, 0, 3, 0, 0, 0, 0, 0, 0, 0, 0, 0, 0, 0, 0, 0, 0, 0, 4, 0, 0, 0, 0, 0, 0, 0, 0, 0, 0, 0, 0, 0, 0, 0])⟩))] 6993 (.aggi .u8 [r18_130, r18_131, r18_132, r18_133, r18_134, r18_135, r18_136, r18_137, r18_138, r18_139, r18_140, r18_141, r18_142, r18_143, r18_144, r18_145]) [] [],
      Contract Try.prog 19 [] [] 6929 (.c (.bool (true))) [] [],
      EI .i64 (IntKind.wrap IntKind.i64 (Int.tdiv x124 256)) x128,
      EI .u8 (x124 % 256) x126,
      EI .i64 (IntKind.wrap IntKind.i64 (x120 + x122)) x124,
      EI .i64 (IntKind.wrap IntKind.i64 s15) x122,
      EI .i64 (IntKind.wrap IntKind.i64 (Int.tdiv x116 256)) x120,
      EI .u8 (x116 % 256) x118,
      EI .i64 (IntKind.wrap IntKind.i64 (x112 + x114)) x116,
      EI .i64 (IntKind.wrap IntKind.i64 s14) x114,
      EI .i64 (IntKind.wrap IntKind.i64 (Int.tdiv x108 256)) x112,
      EI .u8 (x108 % 256) x110,
      EI .i64 (IntKind.wrap IntKind.i64 (x104 + x106)) x108,
      EI .i64 (IntKind.wrap IntKind.i64 s13) x106,
      EI .i64 (IntKind.wrap IntKind.i64 (Int.tdiv x100 256)) x104,
      EI .u8 (x100 % 256) x102,
      EI .i64 (IntKind.wrap IntKind.i64 (x96 + x98)) x100,
      EI .i64 (IntKind.wrap IntKind.i64 s12) x98,
      EI .i64 (IntKind.wrap IntKind.i64 (Int.tdiv x92 256)) x96,
      EI .u8 (x92 % 256) x94,
      EI .i64 (IntKind.wrap IntKind.i64 (x88 + x90)) x92,
      EI .i64 (IntKind.wrap IntKind.i64 s11) x90,
      EI .i64 (IntKind.wrap IntKind.i64 (Int.tdiv x84 256)) x88,
      EI .u8 (x84 % 256) x86,
      EI .i64 (IntKind.wrap IntKind.i64 (x80 + x82)) x84,
      EI .i64 (IntKind.wrap IntKind.i64 s10) x82,
      EI .i64 (IntKind.wrap IntKind.i64 (Int.tdiv x76 256)) x80,
      EI .u8 (x76 % 256) x78,
      EI .i64 (IntKind.wrap IntKind.i64 (x72 + x74)) x76,
      EI .i64 (IntKind.wrap IntKind.i64 s9) x74,
      EI .i64 (IntKind.wrap IntKind.i64 (Int.tdiv x68 256)) x72,
      EI .u8 (x68 % 256) x70,
      EI .i64 (IntKind.wrap IntKind.i64 (x64 + x66)) x68,
      EI .i64 (IntKind.wrap IntKind.i64 s8) x66,
      EI .i64 (IntKind.wrap IntKind.i64 (Int.tdiv x60 256)) x64,
      EI .u8 (x60 % 256) x62,
      EI .i64 (IntKind.wrap IntKind.i64 (x56 + x58)) x60,
      EI .i64 (IntKind.wrap IntKind.i64 s7) x58,
      EI .i64 (IntKind.wrap IntKind.i64 (Int.tdiv x52 256)) x56,
      EI .u8 (x52 % 256) x54,
      EI .i64 (IntKind.wrap IntKind.i64 (x48 + x50)) x52,
      EI .i64 (IntKind.wrap IntKind.i64 s6) x50,
      EI .i64 (IntKind.wrap IntKind.i64 (Int.tdiv x44 256)) x48,
      EI .u8 (x44 % 256) x46,
      EI .i64 (IntKind.wrap IntKind.i64 (x40 + x42)) x44,
      EI .i64 (IntKind.wrap IntKind.i64 s5) x42,
      EI .i64 (IntKind.wrap IntKind.i64 (Int.tdiv x36 256)) x40,
      EI .u8 (x36 % 256) x38,
      EI .i64 (IntKind.wrap IntKind.i64 (x32 + x34)) x36,
      EI .i64 (IntKind.wrap IntKind.i64 s4) x34,
      EI .i64 (IntKind.wrap IntKind.i64 (Int.tdiv x28 256)) x32,
      EI .u8 (x28 % 256) x30,
      EI .i64 (IntKind.wrap IntKind.i64 (x24 + x26)) x28,
      EI .i64 (IntKind.wrap IntKind.i64 s3) x26,
      EI .i64 (IntKind.wrap IntKind.i64 (Int.tdiv x20 256)) x24,
      EI .u8 (x20 % 256) x22,
      EI .i64 (IntKind.wrap IntKind.i64 (x16 + x18)) x20,
      EI .i64 (IntKind.wrap IntKind.i64 s2) x18,
      EI .i64 (IntKind.wrap IntKind.i64 (Int.tdiv x12 256)) x16,
      EI .u8 (x12 % 256) x14,
      EI .i64 (IntKind.wrap IntKind.i64 (x8 + x10)) x12,
      EI .i64 (IntKind.wrap IntKind.i64 s1) x10,
      EI .i64 (IntKind.wrap IntKind.i64 (Int.tdiv x4 256)) x8,
      EI .u8 (x4 % 256) x6,
      EI .i64 (IntKind.wrap IntKind.i64 (15 + x2)) x4,
      EI .i64 (IntKind.wrap IntKind.i64 s0) x2,
      Contract Try.prog 21 [(.c (.int .i64 n)), (.c (.int .i64 20))] [] 49 (.c (.int .i64 4)) [] []])
    mixed Try.func7 (by kernel_rfl) (by kernel_rfl) (by kernel_rfl) rfl (by kernel_rfl) ⟨.mk h147, c146.ro [(209, (1, true))] rfl (by kernel_rfl) rfl (by kernel_rfl) rfl rfl _, c129.use (by kernel_rfl) rfl rfl _ _, .mk h127, .mk h125, .mk h123, .mk h121, .mk h119, .mk h117, .mk h115, .mk h113, .mk h111, .mk h109, .mk h107, .mk h105, .mk h103, .mk h101, .mk h99, .mk h97, .mk h95, .mk h93, .mk h91, .mk h89, .mk h87, .mk h85, .mk h83, .mk h81, .mk h79, .mk h77, .mk h75, .mk h73, .mk h71, .mk h69, .mk h67, .mk h65, .mk h63, .mk h61, .mk h59, .mk h57, .mk h55, .mk h53, .mk h51, .mk h49, .mk h47, .mk h45, .mk h43, .mk h41, .mk h39, .mk h37, .mk h35, .mk h33, .mk h31, .mk h29, .mk h27, .mk h25, .mk h23, .mk h21, .mk h19, .mk h17, .mk h15, .mk h13, .mk h11, .mk h9, .mk h7, .mk h5, .mk h3, .mk h1, c0.use (by kernel_rfl) rfl rfl _ _, trivial⟩

theorem run7_5 (s0 s1 s2 s3 s4 s5 s6 s7 s8 s9 s10 s11 s12 s13 s14 s15 n x2 x4 x6 x8 x10 x12 x14 x16 x18 x20 x22 x24 x26 x28 x30 x32 x34 x36 x38 x40 x42 x44 x46 x48 x50 x52 x54 x56 x58 x60 x62 x64 x66 x68 x70 x72 x74 x76 x78 x80 x82 x84 x86 x88 x90 x92 x94 x96 x98 x100 x102 x104 x106 x108 x110 x112 x114 x116 x118 x120 x122 x124 x126 x128 r18_130 r18_131 r18_132 r18_133 r18_134 r18_135 r18_136 r18_137 r18_138 r18_139 r18_140 r18_141 r18_142 r18_143 r18_144 r18_145 : Int)
    (c0 : PureF Try.prog 21 [(.c (.int .i64 n)), (.c (.int .i64 20))] (.c (.int .i64 5)))
    (h1 : (IntKind.wrap IntKind.i64 s0) = x2)
    (h3 : (IntKind.wrap IntKind.i64 (20 + x2)) = x4)
    (h5 : (x4 % 256) = x6)
    (h7 : (IntKind.wrap IntKind.i64 (Int.tdiv x4 256)) = x8)
    (h9 : (IntKind.wrap IntKind.i64 s1) = x10)
    (h11 : (IntKind.wrap IntKind.i64 (x8 + x10)) = x12)
    (h13 : (x12 % 256) = x14)
    (h15 : (IntKind.wrap IntKind.i64 (Int.tdiv x12 256)) = x16)
    (h17 : (IntKind.wrap IntKind.i64 s2) = x18)
    (h19 : (IntKind.wrap IntKind.i64 (x16 + x18)) = x20)
    (h21 : (x20 % 256) = x22)
    (h23 : (IntKind.wrap IntKind.i64 (Int.tdiv x20 256)) = x24)
    (h25 : (IntKind.wrap IntKind.i64 s3) = x26)
    (h27 : (IntKind.wrap IntKind.i64 (x24 + x26)) = x28)
    (h29 : (x28 % 256) = x30)
    (h31 : (IntKind.wrap IntKind.i64 (Int.tdiv x28 256)) = x32)
    (h33 : (IntKind.wrap IntKind.i64 s4) = x34)
    (h35 : (IntKind.wrap IntKind.i64 (x32 + x34)) = x36)
    (h37 : (x36 % 256) = x38)
    (h39 : (IntKind.wrap IntKind.i64 (Int.tdiv x36 256)) = x40)
    (h41 : (IntKind.wrap IntKind.i64 s5) = x42)
    (h43 : (IntKind.wrap IntKind.i64 (x40 + x42)) = x44)
    (h45 : (x44 % 256) = x46)
    (h47 : (IntKind.wrap IntKind.i64 (Int.tdiv x44 256)) = x48)
    (h49 : (IntKind.wrap IntKind.i64 s6) = x50)
    (h51 : (IntKind.wrap IntKind.i64 (x48 + x50)) = x52)
    (h53 : (x52 % 256) = x54)
    (h55 : (IntKind.wrap IntKind.i64 (Int.tdiv x52 256)) = x56)
    (h57 : (IntKind.wrap IntKind.i64 s7) = x58)
    (h59 : (IntKind.wrap IntKind.i64 (x56 + x58)) = x60)
    (h61 : (x60 % 256) = x62)
    (h63 : (IntKind.wrap IntKind.i64 (Int.tdiv x60 256)) = x64)
    (h65 : (IntKind.wrap IntKind.i64 s8) = x66)
    (h67 : (IntKind.wrap IntKind.i64 (x64 + x66)) = x68)
    (h69 : (x68 % 256) = x70)
    (h71 : (IntKind.wrap IntKind.i64 (Int.tdiv x68 256)) = x72)
    (h73 : (IntKind.wrap IntKind.i64 s9) = x74)
    (h75 : (IntKind.wrap IntKind.i64 (x72 + x74)) = x76)
    (h77 : (x76 % 256) = x78)
    (h79 : (IntKind.wrap IntKind.i64 (Int.tdiv x76 256)) = x80)
    (h81 : (IntKind.wrap IntKind.i64 s10) = x82)
    (h83 : (IntKind.wrap IntKind.i64 (x80 + x82)) = x84)
    (h85 : (x84 % 256) = x86)
    (h87 : (IntKind.wrap IntKind.i64 (Int.tdiv x84 256)) = x88)
    (h89 : (IntKind.wrap IntKind.i64 s11) = x90)
    (h91 : (IntKind.wrap IntKind.i64 (x88 + x90)) = x92)
    (h93 : (x92 % 256) = x94)
    (h95 : (IntKind.wrap IntKind.i64 (Int.tdiv x92 256)) = x96)
    (h97 : (IntKind.wrap IntKind.i64 s12) = x98)
    (h99 : (IntKind.wrap IntKind.i64 (x96 + x98)) = x100)
    (h101 : (x100 % 256) = x102)
    (h103 : (IntKind.wrap IntKind.i64 (Int.tdiv x100 256)) = x104)
    (h105 : (IntKind.wrap IntKind.i64 s13) = x106)
    (h107 : (IntKind.wrap IntKind.i64 (x104 + x106)) = x108)
    (h109 : (x108 % 256) = x110)
    (h111 : (IntKind.wrap IntKind.i64 (Int.tdiv x108 256)) = x112)
    (h113 : (IntKind.wrap IntKind.i64 s14) = x114)
    (h115 : (IntKind.wrap IntKind.i64 (x112 + x114)) = x116)
    (h117 : (x116 % 256) = x118)
    (h119 : (IntKind.wrap IntKind.i64 (Int.tdiv x116 256)) = x120)
    (h121 : (IntKind.wrap IntKind.i64 s15) = x122)
    (h123 : (IntKind.wrap IntKind.i64 (x120 + x122)) = x124)
    (h125 : (x124 % 256) = x126)
    (h127 : (IntKind.wrap IntKind.i64 (Int.tdiv x124 256)) = x128)
    (c129 : PureF Try.prog 19 [] (.c (.bool (true))))
    (c146 : Contract0 Try.prog 18 [(.aggi .u8 [1, 0, 0, 0, 0, 0, 0, 0, 0, 0, 0, 0, 0, 0, 0, 0, s0, s1, s2, s3, s4, s5, s6, s7, s8, s9, s10, s11, s12, s13, s14, s15]), (.c (.sl 1 0 0 80 1))] [(1, (.one ⟨false, true, (.ints .u8 [1, 0, 0, 0, 0, 0, 0, 0, 0, 0, 0, 0, 0, 0, 0, 0, 2, 0, 0, 0, 0, 0, 0, 0, 0, 0, 0, 0, 0, 0, 0, 0, 3, 0, 0, 0, 0, 0, 0, 0, 0, 0, 0, 0, 0, 0, 0, 0, 4, 0, 0, 0, 0, 0, 0, 0, 0, 0, 0, 0, 0, 0, 0, 0, 5, 0, 0, 0, 0, 0, 0, 0, 0, 0, 0, 0, 0, 0, 0, 0])⟩))] 2 (.aggi .u8 [r18_130, r18_131, r18_132, r18_133, r18_134, r18_135, r18_136, r18_137, r18_138, r18_139, r18_140, r18_141, r18_142, r18_143, r18_144, r18_145]) [] [])
    (h147 : ([r18_130, r18_131, r18_132, r18_133, r18_134, r18_135, r18_136, r18_137, r18_138, r18_139, r18_140, r18_141, r18_142, r18_143, r18_144, r18_145] == List.take 16 (List.drop 0 (splice (splice (splice (splice (splice (splice (splice (splice (splice (splice (splice (splice (splice (splice (splice (splice (splice [0, 0, 0, 0, 0, 0, 0, 0, 0, 0, 0, 0, 0, 0, 0, 0] 0 (List.take 16 (List.drop 0 [s0, s1, s2, s3, s4, s5, s6, s7, s8, s9, s10, s11, s12, s13, s14, s15]))) 0 [x6]) 1 [x14]) 2 [x22]) 3 [x30]) 4 [x38]) 5 [x46]) 6 [x54]) 7 [x62]) 8 [x70]) 9 [x78]) 10 [x86]) 11 [x94]) 12 [x102]) 13 [x110]) 14 [x118]) 15 [x126]))) = true)   :
    PureF Try.prog 7 [(.aggi .u8 [s0, s1, s2, s3, s4, s5, s6, s7, s8, s9, s10, s11, s12, s13, s14, s15]), (.c (.int .i64 n))] (.c (.bool (true))) :=
  Contract0.of_frun (fn := Try.f7) (c := bodyOf Try.f7) (fuel := 5000) (k := kOf Try.prog Try.f7) (outs := []) (hs := [(3, ⟨.call [] (.c (.int .i64 5)) [] [], none⟩), (143, ⟨.auto, some (.c (.int .i64 x2))⟩), (144, ⟨.auto, some (.c (.int .i64 x4))⟩), (148, ⟨.auto, some (.c (.int .u8 x6))⟩), (152, ⟨.auto, some (.c (.int .i64 x8))⟩), (164, ⟨.auto, some (.c (.int .i64 x10))⟩), (165, ⟨.auto, some (.c (.int .i64 x12))⟩), (169, ⟨.auto, some (.c (.int .u8 x14))⟩), (173, ⟨.auto, some (.c (.int .i64 x16))⟩), (185, ⟨.auto, some (.c (.int .i64 x18))⟩), (186, ⟨.auto, some (.c (.int .i64 x20))⟩), (190, ⟨.auto, some (.c (.int .u8 x22))⟩), (194, ⟨.auto, some (.c (.int .i64 x24))⟩), (206, ⟨.auto, some (.c (.int .i64 x26))⟩), (207, ⟨.auto, some (.c (.int .i64 x28))⟩), (211, ⟨.auto, some (.c (.int .u8 x30))⟩), (215, ⟨.auto, some (.c (.int .i64 x32))⟩), (227, ⟨.auto, some (.c (.int .i64 x34))⟩), (228, ⟨.auto, some (.c (.int .i64 x36))⟩), (232, ⟨.auto, some (.c (.int .u8 x38))⟩), (236, ⟨.auto, some (.c (.int .i64 x40))⟩), (248, ⟨.auto, some (.c (.int .i64 x42))⟩), (249, ⟨.auto, some (.c (.int .i64 x44))⟩), (253, ⟨.auto, some (.c (.int .u8 x46))⟩), (257, ⟨.auto, some (.c (.int .i64 x48))⟩), (269, ⟨.auto, some (.c (.int .i64 x50))⟩), (270, ⟨.auto, some (.c (.int .i64 x52))⟩), (274, ⟨.auto, some (.c (.int .u8 x54))⟩), (278, ⟨.auto, some (.c (.int .i64 x56))⟩), (290, ⟨.auto, some (.c (.int .i64 x58))⟩), (291, ⟨.auto, some (.c (.int .i64 x60))⟩), (295, ⟨.auto, some (.c (.int .u8 x62))⟩), (299, ⟨.auto, some (.c (.int .i64 x64))⟩), (311, ⟨.auto, some (.c (.int .i64 x66))⟩), (312, ⟨.auto, some (.c (.int .i64 x68))⟩), (316, ⟨.auto, some (.c (.int .u8 x70))⟩), (320, ⟨.auto, some (.c (.int .i64 x72))⟩), (332, ⟨.auto, some (.c (.int .i64 x74))⟩), (333, ⟨.auto, some (.c (.int .i64 x76))⟩), (337, ⟨.auto, some (.c (.int .u8 x78))⟩), (341, ⟨.auto, some (.c (.int .i64 x80))⟩), (353, ⟨.auto, some (.c (.int .i64 x82))⟩), (354, ⟨.auto, some (.c (.int .i64 x84))⟩), (358, ⟨.auto, some (.c (.int .u8 x86))⟩), (362, ⟨.auto, some (.c (.int .i64 x88))⟩), (374, ⟨.auto, some (.c (.int .i64 x90))⟩), (375, ⟨.auto, some (.c (.int .i64 x92))⟩), (379, ⟨.auto, some (.c (.int .u8 x94))⟩), (383, ⟨.auto, some (.c (.int .i64 x96))⟩), (395, ⟨.auto, some (.c (.int .i64 x98))⟩), (396, ⟨.auto, some (.c (.int .i64 x100))⟩), (400, ⟨.auto, some (.c (.int .u8 x102))⟩), (404, ⟨.auto, some (.c (.int .i64 x104))⟩), (416, ⟨.auto, some (.c (.int .i64 x106))⟩), (417, ⟨.auto, some (.c (.int .i64 x108))⟩), (421, ⟨.auto, some (.c (.int .u8 x110))⟩), (425, ⟨.auto, some (.c (.int .i64 x112))⟩), (437, ⟨.auto, some (.c (.int .i64 x114))⟩), (438, ⟨.auto, some (.c (.int .i64 x116))⟩), (442, ⟨.auto, some (.c (.int .u8 x118))⟩), (446, ⟨.auto, some (.c (.int .i64 x120))⟩), (458, ⟨.auto, some (.c (.int .i64 x122))⟩), (459, ⟨.auto, some (.c (.int .i64 x124))⟩), (463, ⟨.auto, some (.c (.int .u8 x126))⟩), (467, ⟨.auto, some (.c (.int .i64 x128))⟩), (475, ⟨.call [] (.c (.bool (true))) [] [], none⟩), (479, ⟨.call [209] (.aggi .u8 [r18_130, r18_131, r18_132, r18_133, r18_134, r18_135, r18_136, r18_137, r18_138, r18_139, r18_140, r18_141, r18_142, r18_143, r18_144, r18_145]) [] [], none⟩), (481, ⟨.auto, some (.c (.bool (true)))⟩)])
    (cs := [EB ([r18_130, r18_131, r18_132, r18_133, r18_134, r18_135, r18_136, r18_137, r18_138, r18_139, r18_140, r18_141, r18_142, r18_143, r18_144, r18_145] == List.take 16 (List.drop 0 (splice (splice (splice (splice (splice (splice (splice (splice (splice (splice (splice (splice (splice (splice (splice (splice (splice [0, 0, 0, 0, 0, 0, 0, 0, 0, 0, 0, 0, 0, 0, 0, 0] 0 (List.take 16 (List.drop 0 [s0, s1, s2, s3, s4, s5, s6, s7, s8, s9, s10, s11, s12, s13, s14, s15]))) 0 [x6]) 1 [x14]) 2 [x22]) 3 [x30]) 4 [x38]) 5 [x46]) 6 [x54]) 7 [x62]) 8 [x70]) 9 [x78]) 10 [x86]) 11 [x94]) 12 [x102]) 13 [x110]) 14 [x118]) 15 [x126]))) true,
      Contract Try.prog 18 [(.aggi .u8 [1, 0, 0, 0, 0, 0, 0, 0, 0, 0, 0, 0, 0, 0, 0, 0, s0, s1, s2, s3, s4, s5, s6, s7, s8, s9, s10, s11, s12, s13, s14, s15]), (.c (.sl 209 0 0 80 1))] [(209, (.one ⟨true, true, (.ints .u8 [1, 0, 0, 0, 0, 0, 0, 0, 0, 0, 0, 0, 0, 0, 0, 0, 2, 0, 0, 0, 0, 0, 0, 0, 0, 0, 0, 0, 0, 0, 0, 0, 3, 0, 0, 0, 0, 0, 0, 0, 0, 0, 0, 0, 0, 0, 0, 0, 4, 0, 0, 0, 0, 0, 0, 0, 0, 0, 0, 0, 0, 0, 0, 0, 5, 0, 0, 0, 0, 0, 0, 0, 0, 0, 0, 0, 0, 0, 0, 0])⟩))] 7297 (.aggi .u8 [r18_130, r18_131, r18_132, r18_133, r18_134, r18_135, r18_136, r18_137, r18_138, r18_139, r18_140, r18_141, r18_142, r18_143, r18_144, r18_145]) [] [],
      Contract Try.prog 19 [] [] 7233 (.c (.bool (true))) [] [],
      EI .i64 (IntKind.wrap IntKind.i64 (Int.tdiv x124 256)) x128,
      EI .u8 (x124 % 256) x126,
      EI .i64 (IntKind.wrap IntKind.i64 (x120 + x122)) x124,
      EI .i64 (IntKind.wrap IntKind.i64 s15) x122,
      EI .i64 (IntKind.wrap IntKind.i64 (Int.tdiv x116 256)) x120,
      EI .u8 (x116 % 256) x118,
      EI .i64 (IntKind.wrap IntKind.i64 (x112 + x114)) x116,
      EI .i64 (IntKind.wrap IntKind.i64 s14) x114,
      EI .i64 (IntKind.wrap IntKind.i64 (Int.tdiv x108 256)) x112,
      EI .u8 (x108 % 256) x110,
      EI .i64 (IntKind.wrap IntKind.i64 (x104 + x106)) x108,
      EI .i64 (IntKind.wrap IntKind.i64 s13) x106,
      EI .i64 (IntKind.wrap IntKind.i64 (Int.tdiv x100 256)) x104,
      EI .u8 (x100 % 256) x102,
      EI .i64 (IntKind.wrap IntKind.i64 (x96 + x98)) x100,
      EI .i64 (IntKind.wrap IntKind.i64 s12) x98,
      EI .i64 (IntKind.wrap IntKind.i64 (Int.tdiv x92 256)) x96,
      EI .u8 (x92 % 256) x94,
      EI .i64 (IntKind.wrap IntKind.i64 (x88 + x90)) x92,
      EI .i64 (IntKind.wrap IntKind.i64 s11) x90,
      EI .i64 (IntKind.wrap IntKind.i64 (Int.tdiv x84 256)) x88,
      EI .u8 (x84 % 256) x86,
      EI .i64 (IntKind.wrap IntKind.i64 (x80 + x82)) x84,
      EI .i64 (IntKind.wrap IntKind.i64 s10) x82,
      EI .i64 (IntKind.wrap IntKind.i64 (Int.tdiv x76 256)) x80,
      EI .u8 (x76 % 256) x78,
      EI .i64 (IntKind.wrap IntKind.i64 (x72 + x74)) x76,
      EI .i64 (IntKind.wrap IntKind.i64 s9) x74,
      EI .i64 (IntKind.wrap IntKind.i64 (Int.tdiv x68 256)) x72,
      EI .u8 (x68 % 256) x70,
      EI .i64 (IntKind.wrap IntKind.i64 (x64 + x66)) x68,
      EI .i64 (IntKind.wrap IntKind.i64 s8) x66,
      EI .i64 (IntKind.wrap IntKind.i64 (Int.tdiv x60 256)) x64,
      EI .u8 (x60 % 256) x62,
      EI .i64 (IntKind.wrap IntKind.i64 (x56 + x58)) x60,
      EI .i64 (IntKind.wrap IntKind.i64 s7) x58,
      EI .i64 (IntKind.wrap IntKind.i64 (Int.tdiv x52 256)) x56,
      EI .u8 (x52 % 256) x54,
      EI .i64 (IntKind.wrap IntKind.i64 (x48 + x50)) x52,
      EI .i64 (IntKind.wrap IntKind.i64 s6) x50,
      EI .i64 (IntKind.wrap IntKind.i64 (Int.tdiv x44 256)) x48,
      EI .u8 (x44 % 256) x46,
      EI .i64 (IntKind.wrap IntKind.i64 (x40 + x42)) x44,
      EI .i64 (IntKind.wrap IntKind.i64 s5) x42,
      EI .i64 (IntKind.wrap IntKind.i64 (Int.tdiv x36 256)) x40,
      EI .u8 (x36 % 256) x38,
      EI .i64 (IntKind.wrap IntKind.i64 (x32 + x34)) x36,
      EI .i64 (IntKind.wrap IntKind.i64 s4) x34,
      EI .i64 (IntKind.wrap IntKind.i64 (Int.tdiv x28 256)) x32,
      EI .u8 (x28 % 256) x30,
      EI .i64 (IntKind.wrap IntKind.i64 (x24 + x26)) x28,
      EI .i64 (IntKind.wrap IntKind.i64 s3) x26,
      EI .i64 (IntKind.wrap IntKind.i64 (Int.tdiv x20 256)) x24,
      EI .u8 (x20 % 256) x22,
      EI .i64 (IntKind.wrap IntKind.i64 (x16 + x18)) x20,
      EI .i64 (IntKind.wrap IntKind.i64 s2) x18,
      EI .i64 (IntKind.wrap IntKind.i64 (Int.tdiv x12 256)) x16,
      EI .u8 (x12 % 256) x14,
      EI .i64 (IntKind.wrap IntKind.i64 (x8 + x10)) x12,
      EI .i64 (IntKind.wrap IntKind.i64 s1) x10,
      EI .i64 (IntKind.wrap IntKind.i64 (Int.tdiv x4 256)) x8,
      EI .u8 (x4 % 256) x6,
      EI .i64 (IntKind.wrap IntKind.i64 (20 + x2)) x4,
      EI .i64 (IntKind.wrap IntKind.i64 s0) x2,
      Contract Try.prog 21 [(.c (.int .i64 n)), (.c (.int .i64 20))] [] 49 (.c (.int .i64 5)) [] []])
    mixed Try.func7 (by kernel_rfl) (by kernel_rfl) (by kernel_rfl) rfl (by kernel_rfl) ⟨.mk h147, c146.ro [(209, (1, true))] rfl (by kernel_rfl) rfl (by kernel_rfl) rfl rfl _, c129.use (by kernel_rfl) rfl rfl _ _, .mk h127, .mk h125, .mk h123, .mk h121, .mk h119, .mk h117, .mk h115, .mk h113, .mk h111, .mk h109, .mk h107, .mk h105, .mk h103, .mk h101, .mk h99, .mk h97, .mk h95, .mk h93, .mk h91, .mk h89, .mk h87, .mk h85, .mk h83, .mk h81, .mk h79, .mk h77, .mk h75, .mk h73, .mk h71, .mk h69, .mk h67, .mk h65, .mk h63, .mk h61, .mk h59, .mk h57, .mk h55, .mk h53, .mk h51, .mk h49, .mk h47, .mk h45, .mk h43, .mk h41, .mk h39, .mk h37, .mk h35, .mk h33, .mk h31, .mk h29, .mk h27, .mk h25, .mk h23, .mk h21, .mk h19, .mk h17, .mk h15, .mk h13, .mk h11, .mk h9, .mk h7, .mk h5, .mk h3, .mk h1, c0.use (by kernel_rfl) rfl rfl _ _, trivial⟩

theorem run7_6 (s0 s1 s2 s3 s4 s5 s6 s7 s8 s9 s10 s11 s12 s13 s14 s15 n x2 x4 x6 x8 x10 x12 x14 x16 x18 x20 x22 x24 x26 x28 x30 x32 x34 x36 x38 x40 x42 x44 x46 x48 x50 x52 x54 x56 x58 x60 x62 x64 x66 x68 x70 x72 x74 x76 x78 x80 x82 x84 x86 x88 x90 x92 x94 x96 x98 x100 x102 x104 x106 x108 x110 x112 x114 x116 x118 x120 x122 x124 x126 x128 r18_130 r18_131 r18_132 r18_133 r18_134 r18_135 r18_136 r18_137 r18_138 r18_139 r18_140 r18_141 r18_142 r18_143 r18_144 r18_145 : Int)
    (c0 : PureF Try.prog 21 [(.c (.int .i64 n)), (.c (.int .i64 20))] (.c (.int .i64 6)))
    (h1 : (IntKind.wrap IntKind.i64 s0) = x2)
    (h3 : (IntKind.wrap IntKind.i64 (26 + x2)) = x4)
    (h5 : (x4 % 256) = x6)
    (h7 : (IntKind.wrap IntKind.i64 (Int.tdiv x4 256)) = x8)
    (h9 : (IntKind.wrap IntKind.i64 s1) = x10)
    (h11 : (IntKind.wrap IntKind.i64 (x8 + x10)) = x12)
    (h13 : (x12 % 256) = x14)
    (h15 : (IntKind.wrap IntKind.i64 (Int.tdiv x12 256)) = x16)
    (h17 : (IntKind.wrap IntKind.i64 s2) = x18)
    (h19 : (IntKind.wrap IntKind.i64 (x16 + x18)) = x20)
    (h21 : (x20 % 256) = x22)
    (h23 : (IntKind.wrap IntKind.i64 (Int.tdiv x20 256)) = x24)
    (h25 : (IntKind.wrap IntKind.i64 s3) = x26)
    (h27 : (IntKind.wrap IntKind.i64 (x24 + x26)) = x28)
    (h29 : (x28 % 256) = x30)
    (h31 : (IntKind.wrap IntKind.i64 (Int.tdiv x28 256)) = x32)
    (h33 : (IntKind.wrap IntKind.i64 s4) = x34)
    (h35 : (IntKind.wrap IntKind.i64 (x32 + x34)) = x36)
    (h37 : (x36 % 256) = x38)
    (h39 : (IntKind.wrap IntKind.i64 (Int.tdiv x36 256)) = x40)
    (h41 : (IntKind.wrap IntKind.i64 s5) = x42)
    (h43 : (IntKind.wrap IntKind.i64 (x40 + x42)) = x44)
    (h45 : (x44 % 256) = x46)
    (h47 : (IntKind.wrap IntKind.i64 (Int.tdiv x44 256)) = x48)
    (h49 : (IntKind.wrap IntKind.i64 s6) = x50)
    (h51 : (IntKind.wrap IntKind.i64 (x48 + x50)) = x52)
    (h53 : (x52 % 256) = x54)
    (h55 : (IntKind.wrap IntKind.i64 (Int.tdiv x52 256)) = x56)
    (h57 : (IntKind.wrap IntKind.i64 s7) = x58)
    (h59 : (IntKind.wrap IntKind.i64 (x56 + x58)) = x60)
    (h61 : (x60 % 256) = x62)
    (h63 : (IntKind.wrap IntKind.i64 (Int.tdiv x60 256)) = x64)
    (h65 : (IntKind.wrap IntKind.i64 s8) = x66)
    (h67 : (IntKind.wrap IntKind.i64 (x64 + x66)) = x68)
    (h69 : (x68 % 256) = x70)
    (h71 : (IntKind.wrap IntKind.i64 (Int.tdiv x68 256)) = x72)
    (h73 : (IntKind.wrap IntKind.i64 s9) = x74)
    (h75 : (IntKind.wrap IntKind.i64 (x72 + x74)) = x76)
    (h77 : (x76 % 256) = x78)
    (h79 : (IntKind.wrap IntKind.i64 (Int.tdiv x76 256)) = x80)
    (h81 : (IntKind.wrap IntKind.i64 s10) = x82)
    (h83 : (IntKind.wrap IntKind.i64 (x80 + x82)) = x84)
    (h85 : (x84 % 256) = x86)
    (h87 : (IntKind.wrap IntKind.i64 (Int.tdiv x84 256)) = x88)
    (h89 : (IntKind.wrap IntKind.i64 s11) = x90)
    (h91 : (IntKind.wrap IntKind.i64 (x88 + x90)) = x92)
    (h93 : (x92 % 256) = x94)
    (h95 : (IntKind.wrap IntKind.i64 (Int.tdiv x92 256)) = x96)
    (h97 : (IntKind.wrap IntKind.i64 s12) = x98)
    (h99 : (IntKind.wrap IntKind.i64 (x96 + x98)) = x100)
    (h101 : (x100 % 256) = x102)
    (h103 : (IntKind.wrap IntKind.i64 (Int.tdiv x100 256)) = x104)
    (h105 : (IntKind.wrap IntKind.i64 s13) = x106)
    (h107 : (IntKind.wrap IntKind.i64 (x104 + x106)) = x108)
    (h109 : (x108 % 256) = x110)
    (h111 : (IntKind.wrap IntKind.i64 (Int.tdiv x108 256)) = x112)
    (h113 : (IntKind.wrap IntKind.i64 s14) = x114)
    (h115 : (IntKind.wrap IntKind.i64 (x112 + x114)) = x116)
    (h117 : (x116 % 256) = x118)
    (h119 : (IntKind.wrap IntKind.i64 (Int.tdiv x116 256)) = x120)
    (h121 : (IntKind.wrap IntKind.i64 s15) = x122)
    (h123 : (IntKind.wrap IntKind.i64 (x120 + x122)) = x124)
    (h125 : (x124 % 256) = x126)
    (h127 : (IntKind.wrap IntKind.i64 (Int.tdiv x124 256)) = x128)
    (c129 : PureF Try.prog 19 [] (.c (.bool (true))))
    (c146 : Contract0 Try.prog 18 [(.aggi .u8 [1, 0, 0, 0, 0, 0, 0, 0, 0, 0, 0, 0, 0, 0, 0, 0, s0, s1, s2, s3, s4, s5, s6, s7, s8, s9, s10, s11, s12, s13, s14, s15]), (.c (.sl 1 0 0 96 1))] [(1, (.one ⟨false, true, (.ints .u8 [1, 0, 0, 0, 0, 0, 0, 0, 0, 0, 0, 0, 0, 0, 0, 0, 2, 0, 0, 0, 0, 0, 0, 0, 0, 0, 0, 0, 0, 0, 0, 0, 3, 0, 0, 0, 0, 0, 0, 0, 0, 0, 0, 0, 0, 0, 0, 0, 4, 0, 0, 0, 0, 0, 0, 0, 0, 0, 0, 0, 0, 0, 0, 0, 5, 0, 0, 0, 0, 0, 0, 0, 0, 0, 0, 0, 0, 0, 0, 0, 6, 0, 0, 0, 0, 0, 0, 0, 0, 0, 0, 0, 0, 0, 0, 0])⟩))] 2 (.aggi .u8 [r18_130, r18_131, r18_132, r18_133, r18_134, r18_135, r18_136, r18_137, r18_138, r18_139, r18_140, r18_141, r18_142, r18_143, r18_144, r18_145]) [] [])
    (h147 : ([r18_130, r18_131, r18_132, r18_133, r18_134, r18_135, r18_136, r18_137, r18_138, r18_139, r18_140, r18_141, r18_142, r18_143, r18_144, r18_145] == List.take 16 (List.drop 0 (splice (splice (splice (splice (splice (splice (splice (splice (splice (splice (splice (splice (splice (splice (splice (splice (splice [0, 0, 0, 0, 0, 0, 0, 0, 0, 0, 0, 0, 0, 0, 0, 0] 0 (List.take 16 (List.drop 0 [s0, s1, s2, s3, s4, s5, s6, s7, s8, s9, s10, s11, s12, s13, s14, s15]))) 0 [x6]) 1 [x14]) 2 [x22]) 3 [x30]) 4 [x38]) 5 [x46]) 6 [x54]) 7 [x62]) 8 [x70]) 9 [x78]) 10 [x86]) 11 [x94]) 12 [x102]) 13 [x110]) 14 [x118]) 15 [x126]))) = true)   :
    PureF Try.prog 7 [(.aggi .u8 [s0, s1, s2, s3, s4, s5, s6, s7, s8, s9, s10, s11, s12, s13, s14, s15]), (.c (.int .i64 n))] (.c (.bool (true))) :=
  Contract0.of_frun (fn := Try.f7) (c := bodyOf Try.f7) (fuel := 5000) (k := kOf Try.prog Try.f7) (outs := []) (hs := [(3, ⟨.call [] (.c (.int .i64 6)) [] [], none⟩), (163, ⟨.auto, some (.c (.int .i64 x2))⟩), (164, ⟨.auto, some (.c (.int .i64 x4))⟩), (168, ⟨.auto, some (.c (.int .u8 x6))⟩), (172, ⟨.auto, some (.c (.int .i64 x8))⟩), (184, ⟨.auto, some (.c (.int .i64 x10))⟩), (185, ⟨.auto, some (.c (.int .i64 x12))⟩), (189, ⟨.auto, some (.c (.int .u8 x14))⟩), (193, ⟨.auto, some (.c (.int .i64 x16))⟩), (205, ⟨.auto, some (.c (.int .i64 x18))⟩), (206, ⟨.auto, some (.c (.int .i64 x20))⟩), (210, ⟨.auto, some (.c (.int .u8 x22))⟩), (214, ⟨.auto, some (.c (.int .i64 x24))⟩), (226, ⟨.auto, some (.c (.int .i64 x26))⟩), (227, ⟨.auto, some (.c (.int .i64 x28))⟩), (231, ⟨.auto, some (.c (.int .u8 x30))⟩), (235, ⟨.auto, some (.c (.int .i64 x32))⟩), (247, ⟨.auto, some (.c (.int .i64 x34))⟩), (248, ⟨.auto, some (.c (.int .i64 x36))⟩), (252, ⟨.auto, some (.c (.int .u8 x38))⟩), (256, ⟨.auto, some (.c (.int .i64 x40))⟩), (268, ⟨.auto, some (.c (.int .i64 x42))⟩), (269, ⟨.auto, some (.c (.int .i64 x44))⟩), (273, ⟨.auto, some (.c (.int .u8 x46))⟩), (277, ⟨.auto, some (.c (.int .i64 x48))⟩), (289, ⟨.auto, some (.c (.int .i64 x50))⟩), (290, ⟨.auto, some (.c (.int .i64 x52))⟩), (294, ⟨.auto, some (.c (.int .u8 x54))⟩), (298, ⟨.auto, some (.c (.int .i64 x56))⟩), (310, ⟨.auto, some (.c (.int .i64 x58))⟩), (311, ⟨.auto, some (.c (.int .i64 x60))⟩), (315, ⟨.auto, some (.c (.int .u8 x62))⟩), (319, ⟨.auto, some (.c (.int .i64 x64))⟩), (331, ⟨.auto, some (.c (.int .i64 x66))⟩), (332, ⟨.auto, some (.c (.int .i64 x68))⟩), (336, ⟨.auto, some (.c (.int .u8 x70))⟩), (340, ⟨.auto, some (.c (.int .i64 x72))⟩), (352, ⟨.auto, some (.c (.int .i64 x74))⟩), (353, ⟨.auto, some (.c (.int .i64 x76))⟩), (357, ⟨.auto, some (.c (.int .u8 x78))⟩), (361, ⟨.auto, some (.c (.int .i64 x80))⟩), (373, ⟨.auto, some (.c (.int .i64 x82))⟩), (374, ⟨.auto, some (.c (.int .i64 x84))⟩), (378, ⟨.auto, some (.c (.int .u8 x86))⟩), (382, ⟨.auto, some (.c (.int .i64 x88))⟩), (394, ⟨.auto, some (.c (.int .i64 x90))⟩), (395, ⟨.auto, some (.c (.int .i64 x92))⟩), (399, ⟨.auto, some (.c (.int .u8 x94))⟩), (403, ⟨.auto, some (.c (.int .i64 x96))⟩), (415, ⟨.auto, some (.c (.int .i64 x98))⟩), (416, ⟨.auto, some (.c (.int .i64 x100))⟩), (420, ⟨.auto, some (.c (.int .u8 x102))⟩), (424, ⟨.auto, some (.c (.int .i64 x104))⟩), (436, ⟨.auto, some (.c (.int .i64 x106))⟩), (437, ⟨.auto, some (.c (.int .i64 x108))⟩), (441, ⟨.auto, some (.c (.int .u8 x110))⟩), (445, ⟨.auto, some (.c (.int .i64 x112))⟩), (457, ⟨.auto, some (.c (.int .i64 x114))⟩), (458, ⟨.auto, some (.c (.int .i64 x116))⟩), (462, ⟨.auto, some (.c (.int .u8 x118))⟩), (466, ⟨.auto, some (.c (.int .i64 x120))⟩), (478, ⟨.auto, some (.c (.int .i64 x122))⟩), (479, ⟨.auto, some (.c (.int .i64 x124))⟩), (483, ⟨.auto, some (.c (.int .u8 x126))⟩), (487, ⟨.auto, some (.c (.int .i64 x128))⟩), (495, ⟨.call [] (.c (.bool (true))) [] [], none⟩), (499, ⟨.call [209] (.aggi .u8 [r18_130, r18_131, r18_132, r18_133, r18_134, r18_135, r18_136, r18_137, r18_138, r18_139, r18_140, r18_141, r18_142, r18_143, r18_144, r18_145]) [] [], none⟩), (501, ⟨.auto, some (.c (.bool (true)))⟩)])
    (cs := [EB ([r18_130, r18_131, r18_132, r18_133, r18_134, r18_135, r18_136, r18_137, r18_138, r18_139, r18_140, r18_141, r18_142, r18_143, r18_144, r18_145] == List.take 16 (List.drop 0 (splice (splice (splice (splice (splice (splice (splice (splice (splice (splice (splice (splice (splice (splice (splice (splice (splice [0, 0, 0, 0, 0, 0, 0, 0, 0, 0, 0, 0, 0, 0, 0, 0] 0 (List.take 16 (List.drop 0 [s0, s1, s2, s3, s4, s5, s6, s7, s8, s9, s10, s11, s12, s13, s14, s15]))) 0 [x6]) 1 [x14]) 2 [x22]) 3 [x30]) 4 [x38]) 5 [x46]) 6 [x54]) 7 [x62]) 8 [x70]) 9 [x78]) 10 [x86]) 11 [x94]) 12 [x102]) 13 [x110]) 14 [x118]) 15 [x126]))) true,
      Contract Try.prog 18 [(.aggi .u8 [1, 0, 0, 0, 0, 0, 0, 0, 0, 0, 0, 0, 0, 0, 0, 0, s0, s1, s2, s3, s4, s5, s6, s7, s8, s9, s10, s11, s12, s13, s14, s15]), (.c (.sl 209 0 0 96 1))] [(209, (.one ⟨true, true, (.ints .u8 [1, 0, 0, 0, 0, 0, 0, 0, 0, 0, 0, 0, 0, 0, 0, 0, 2, 0, 0, 0, 0, 0, 0, 0, 0, 0, 0, 0, 0, 0, 0, 0, 3, 0, 0, 0, 0, 0, 0, 0, 0, 0, 0, 0, 0, 0, 0, 0, 4, 0, 0, 0, 0, 0, 0, 0, 0, 0, 0, 0, 0, 0, 0, 0, 5, 0, 0, 0, 0, 0, 0, 0, 0, 0, 0, 0, 0, 0, 0, 0, 6, 0, 0, 0, 0, 0, 0, 0, 0, 0, 0, 0, 0, 0, 0, 0])⟩))] 7601 (.aggi .u8 [r18_130, r18_131, r18_132, r18_133, r18_134, r18_135, r18_136, r18_137, r18_138, r18_139, r18_140, r18_141, r18_142, r18_143, r18_144, r18_145]) [] [],
      Contract Try.prog 19 [] [] 7537 (.c (.bool (true))) [] [],
      EI .i64 (IntKind.wrap IntKind.i64 (Int.tdiv x124 256)) x128,
      EI .u8 (x124 % 256) x126,
      EI .i64 (IntKind.wrap IntKind.i64 (x120 + x122)) x124,
      EI .i64 (IntKind.wrap IntKind.i64 s15) x122,
      EI .i64 (IntKind.wrap IntKind.i64 (Int.tdiv x116 256)) x120,
      EI .u8 (x116 % 256) x118,
      EI .i64 (IntKind.wrap IntKind.i64 (x112 + x114)) x116,
      EI .i64 (IntKind.wrap IntKind.i64 s14) x114,
      EI .i64 (IntKind.wrap IntKind.i64 (Int.tdiv x108 256)) x112,
      EI .u8 (x108 % 256) x110,
      EI .i64 (IntKind.wrap IntKind.i64 (x104 + x106)) x108,
      EI .i64 (IntKind.wrap IntKind.i64 s13) x106,
      EI .i64 (IntKind.wrap IntKind.i64 (Int.tdiv x100 256)) x104,
      EI .u8 (x100 % 256) x102,
      EI .i64 (IntKind.wrap IntKind.i64 (x96 + x98)) x100,
      EI .i64 (IntKind.wrap IntKind.i64 s12) x98,
      EI .i64 (IntKind.wrap IntKind.i64 (Int.tdiv x92 256)) x96,
      EI .u8 (x92 % 256) x94,
      EI .i64 (IntKind.wrap IntKind.i64 (x88 + x90)) x92,
      EI .i64 (IntKind.wrap IntKind.i64 s11) x90,
      EI .i64 (IntKind.wrap IntKind.i64 (Int.tdiv x84 256)) x88,
      EI .u8 (x84 % 256) x86,
      EI .i64 (IntKind.wrap IntKind.i64 (x80 + x82)) x84,
      EI .i64 (IntKind.wrap IntKind.i64 s10) x82,
      EI .i64 (IntKind.wrap IntKind.i64 (Int.tdiv x76 256)) x80,
      EI .u8 (x76 % 256) x78,
      EI .i64 (IntKind.wrap IntKind.i64 (x72 + x74)) x76,
      EI .i64 (IntKind.wrap IntKind.i64 s9) x74,
      EI .i64 (IntKind.wrap IntKind.i64 (Int.tdiv x68 256)) x72,
      EI .u8 (x68 % 256) x70,
      EI .i64 (IntKind.wrap IntKind.i64 (x64 + x66)) x68,
      EI .i64 (IntKind.wrap IntKind.i64 s8) x66,
      EI .i64 (IntKind.wrap IntKind.i64 (Int.tdiv x60 256)) x64,
      EI .u8 (x60 % 256) x62,
      EI .i64 (IntKind.wrap IntKind.i64 (x56 + x58)) x60,
      EI .i64 (IntKind.wrap IntKind.i64 s7) x58,
      EI .i64 (IntKind.wrap IntKind.i64 (Int.tdiv x52 256)) x56,
      EI .u8 (x52 % 256) x54,
      EI .i64 (IntKind.wrap IntKind.i64 (x48 + x50)) x52,
      EI .i64 (IntKind.wrap IntKind.i64 s6) x50,
      EI .i64 (IntKind.wrap IntKind.i64 (Int.tdiv x44 256)) x48,
      EI .u8 (x44 % 256) x46,
      EI .i64 (IntKind.wrap IntKind.i64 (x40 + x42)) x44,
      EI .i64 (IntKind.wrap IntKind.i64 s5) x42,
      EI .i64 (IntKind.wrap IntKind.i64 (Int.tdiv x36 256)) x40,
      EI .u8 (x36 % 256) x38,
      EI .i64 (IntKind.wrap IntKind.i64 (x32 + x34)) x36,
      EI .i64 (IntKind.wrap IntKind.i64 s4) x34,
      EI .i64 (IntKind.wrap IntKind.i64 (Int.tdiv x28 256)) x32,
      EI .u8 (x28 % 256) x30,
      EI .i64 (IntKind.wrap IntKind.i64 (x24 + x26)) x28,
      EI .i64 (IntKind.wrap IntKind.i64 s3) x26,
      EI .i64 (IntKind.wrap IntKind.i64 (Int.tdiv x20 256)) x24,
      EI .u8 (x20 % 256) x22,
      EI .i64 (IntKind.wrap IntKind.i64 (x16 + x18)) x20,
      EI .i64 (IntKind.wrap IntKind.i64 s2) x18,
      EI .i64 (IntKind.wrap IntKind.i64 (Int.tdiv x12 256)) x16,
      EI .u8 (x12 % 256) x14,
      EI .i64 (IntKind.wrap IntKind.i64 (x8 + x10)) x12,
      EI .i64 (IntKind.wrap IntKind.i64 s1) x10,
      EI .i64 (IntKind.wrap IntKind.i64 (Int.tdiv x4 256)) x8,
      EI .u8 (x4 % 256) x6,
      EI .i64 (IntKind.wrap IntKind.i64 (26 + x2)) x4,
      EI .i64 (IntKind.wrap IntKind.i64 s0) x2,
      Contract Try.prog 21 [(.c (.int .i64 n)), (.c (.int .i64 20))] [] 49 (.c (.int .i64 6)) [] []])
    mixed Try.func7 (by kernel_rfl) (by kernel_rfl) (by kernel_rfl) rfl (by kernel_rfl) ⟨.mk h147, c146.ro [(209, (1, true))] rfl (by kernel_rfl) rfl (by kernel_rfl) rfl rfl _, c129.use (by kernel_rfl) rfl rfl _ _, .mk h127, .mk h125, .mk h123, .mk h121, .mk h119, .mk h117, .mk h115, .mk h113, .mk h111, .mk h109, .mk h107, .mk h105, .mk h103, .mk h101, .mk h99, .mk h97, .mk h95, .mk h93, .mk h91, .mk h89, .mk h87, .mk h85, .mk h83, .mk h81, .mk h79, .mk h77, .mk h75, .mk h73, .mk h71, .mk h69, .mk h67, .mk h65, .mk h63, .mk h61, .mk h59, .mk h57, .mk h55, .mk h53, .mk h51, .mk h49, .mk h47, .mk h45, .mk h43, .mk h41, .mk h39, .mk h37, .mk h35, .mk h33, .mk h31, .mk h29, .mk h27, .mk h25, .mk h23, .mk h21, .mk h19, .mk h17, .mk h15, .mk h13, .mk h11, .mk h9, .mk h7, .mk h5, .mk h3, .mk h1, c0.use (by kernel_rfl) rfl rfl _ _, trivial⟩

theorem run7_7 (s0 s1 s2 s3 s4 s5 s6 s7 s8 s9 s10 s11 s12 s13 s14 s15 n x2 x4 x6 x8 x10 x12 x14 x16 x18 x20 x22 x24 x26 x28 x30 x32 x34 x36 x38 x40 x42 x44 x46 x48 x50 x52 x54 x56 x58 x60 x62 x64 x66 x68 x70 x72 x74 x76 x78 x80 x82 x84 x86 x88 x90 x92 x94 x96 x98 x100 x102 x104 x106 x108 x110 x112 x114 x116 x118 x120 x122 x124 x126 x128 r18_130 r18_131 r18_132 r18_133 r18_134 r18_135 r18_136 r18_137 r18_138 r18_139 r18_140 r18_141 r18_142 r18_143 r18_144 r18_145 : Int)
    (c0 : PureF Try.prog 21 [(.c (.int .i64 n)), (.c (.int .i64 20))] (.c (.int .i64 7)))
    (h1 : (IntKind.wrap IntKind.i64 s0) = x2)
    (h3 : (IntKind.wrap IntKind.i64 (33 + x2)) = x4)
    (h5 : (x4 % 256) = x6)
    (h7 : (IntKind.wrap IntKind.i64 (Int.tdiv x4 256)) = x8)
    (h9 : (IntKind.wrap IntKind.i64 s1) = x10)
    (h11 : (IntKind.wrap IntKind.i64 (x8 + x10)) = x12)
    (h13 : (x12 % 256) = x14)
    (h15 : (IntKind.wrap IntKind.i64 (Int.tdiv x12 256)) = x16)
    (h17 : (IntKind.wrap IntKind.i64 s2) = x18)
    (h19 : (IntKind.wrap IntKind.i64 (x16 + x18)) = x20)
    (h21 : (x20 % 256) = x22)
    (h23 : (IntKind.wrap IntKind.i64 (Int.tdiv x20 256)) = x24)
    (h25 : (IntKind.wrap IntKind.i64 s3) = x26)
    (h27 : (IntKind.wrap IntKind.i64 (x24 + x26)) = x28)
    (h29 : (x28 % 256) = x30)
    (h31 : (IntKind.wrap IntKind.i64 (Int.tdiv x28 256)) = x32)
    (h33 : (IntKind.wrap IntKind.i64 s4) = x34)
    (h35 : (IntKind.wrap IntKind.i64 (x32 + x34)) = x36)
    (h37 : (x36 % 256) = x38)
    (h39 : (IntKind.wrap IntKind.i64 (Int.tdiv x36 256)) = x40)
    (h41 : (IntKind.wrap IntKind.i64 s5) = x42)
    (h43 : (IntKind.wrap IntKind.i64 (x40 + x42)) = x44)
    (h45 : (x44 % 256) = x46)
    (h47 : (IntKind.wrap IntKind.i64 (Int.tdiv x44 256)) = x48)
    (h49 : (IntKind.wrap IntKind.i64 s6) = x50)
    (h51 : (IntKind.wrap IntKind.i64 (x48 + x50)) = x52)
    (h53 : (x52 % 256) = x54)
    (h55 : (IntKind.wrap IntKind.i64 (Int.tdiv x52 256)) = x56)
    (h57 : (IntKind.wrap IntKind.i64 s7) = x58)
    (h59 : (IntKind.wrap IntKind.i64 (x56 + x58)) = x60)
    (h61 : (x60 % 256) = x62)
    (h63 : (IntKind.wrap IntKind.i64 (Int.tdiv x60 256)) = x64)
    (h65 : (IntKind.wrap IntKind.i64 s8) = x66)
    (h67 : (IntKind.wrap IntKind.i64 (x64 + x66)) = x68)
    (h69 : (x68 % 256) = x70)
    (h71 : (IntKind.wrap IntKind.i64 (Int.tdiv x68 256)) = x72)
    (h73 : (IntKind.wrap IntKind.i64 s9) = x74)
    (h75 : (IntKind.wrap IntKind.i64 (x72 + x74)) = x76)
    (h77 : (x76 % 256) = x78)
    (h79 : (IntKind.wrap IntKind.i64 (Int.tdiv x76 256)) = x80)
    (h81 : (IntKind.wrap IntKind.i64 s10) = x82)
    (h83 : (IntKind.wrap IntKind.i64 (x80 + x82)) = x84)
    (h85 : (x84 % 256) = x86)
    (h87 : (IntKind.wrap IntKind.i64 (Int.tdiv x84 256)) = x88)
    (h89 : (IntKind.wrap IntKind.i64 s11) = x90)
    (h91 : (IntKind.wrap IntKind.i64 (x88 + x90)) = x92)
    (h93 : (x92 % 256) = x94)
    (h95 : (IntKind.wrap IntKind.i64 (Int.tdiv x92 256)) = x96)
    (h97 : (IntKind.wrap IntKind.i64 s12) = x98)
    (h99 : (IntKind.wrap IntKind.i64 (x96 + x98)) = x100)
    (h101 : (x100 % 256) = x102)
    (h103 : (IntKind.wrap IntKind.i64 (Int.tdiv x100 256)) = x104)
    (h105 : (IntKind.wrap IntKind.i64 s13) = x106)
    (h107 : (IntKind.wrap IntKind.i64 (x104 + x106)) = x108)
    (h109 : (x108 % 256) = x110)
    (h111 : (IntKind.wrap IntKind.i64 (Int.tdiv x108 256)) = x112)
    (h113 : (IntKind.wrap IntKind.i64 s14) = x114)
    (h115 : (IntKind.wrap IntKind.i64 (x112 + x114)) = x116)
    (h117 : (x116 % 256) = x118)
    (h119 : (IntKind.wrap IntKind.i64 (Int.tdiv x116 256)) = x120)
    (h121 : (IntKind.wrap IntKind.i64 s15) = x122)
    (h123 : (IntKind.wrap IntKind.i64 (x120 + x122)) = x124)
    (h125 : (x124 % 256) = x126)
    (h127 : (IntKind.wrap IntKind.i64 (Int.tdiv x124 256)) = x128)
    (c129 : PureF Try.prog 19 [] (.c (.bool (true))))
    (c146 : Contract0 Try.prog 18 [(.aggi .u8 [1, 0, 0, 0, 0, 0, 0, 0, 0, 0, 0, 0, 0, 0, 0, 0, s0, s1, s2, s3, s4, s5, s6, s7, s8, s9, s10, s11, s12, s13, s14, s15]), (.c (.sl 1 0 0 112 1))] [(1, (.one ⟨false, true, (.ints .u8 [1, 0, 0, 0, 0, 0, 0, 0, 0, 0, 0, 0, 0, 0, 0, 0, 2, 0, 0, 0, 0, 0, 0, 0, 0, 0, 0, 0, 0, 0, 0, 0, 3, 0, 0, 0, 0, 0, 0, 0, 0, 0, 0, 0, 0, 0, 0, 0, 4, 0, 0, 0, 0, 0, 0, 0, 0, 0, 0, 0, 0, 0, 0, 0, 5, 0, 0, 0, 0, 0, 0, 0, 0, 0, 0, 0, 0, 0, 0, 0, 6, 0, 0, 0, 0, 0, 0, 0, 0, 0, 0, 0, 0, 0, 0, 0, 7, 0, 0, 0, 0, 0, 0, 0, 0, 0, 0, 0, 0, 0, 0, 0])⟩))] 2 (.aggi .u8 [r18_130, r18_131, r18_132, r18_133, r18_134, r18_135, r18_136, r18_137, r18_138, r18_139, r18_140, r18_141, r18_142, r18_143, r18_144, r18_145]) [] [])
    (h147 : ([r18_130, r18_131, r18_132, r18_133, r18_134, r18_135, r18_136, r18_137, r18_138, r18_139, r18_140, r18_141, r18_142, r18_143, r18_144, r18_145] == List.take 16 (List.drop 0 (splice (splice (splice (splice (splice (splice (splice (splice (splice (splice (splice (splice (splice (splice (splice (splice (splice [0, 0, 0, 0, 0, 0, 0, 0, 0, 0, 0, 0, 0, 0, 0, 0] 0 (List.take 16 (List.drop 0 [s0, s1, s2, s3, s4, s5, s6, s7, s8, s9, s10, s11, s12, s13, s14, s15]))) 0 [x6]) 1 [x14]) 2 [x22]) 3 [x30]) 4 [x38]) 5 [x46]) 6 [x54]) 7 [x62]) 8 [x70]) 9 [x78]) 10 [x86]) 11 [x94]) 12 [x102]) 13 [x110]) 14 [x118]) 15 [x126]))) = true)   :
    PureF Try.prog 7 [(.aggi .u8 [s0, s1, s2, s3, s4, s5, s6, s7, s8, s9, s10, s11, s12, s13, s14, s15]), (.c (.int .i64 n))] (.c (.bool (true))) :=
  Contract0.of_frun (fn := Try.f7) (c := bodyOf Try.f7) (fuel := 5000) (k := kOf Try.prog Try.f7) (outs := []) (hs := [(3, ⟨.call [] (.c (.int .i64 7)) [] [], none⟩), (183, ⟨.auto, some (.c (.int .i64 x2))⟩), (184, ⟨.auto, some (.c (.int .i64 x4))⟩), (188, ⟨.auto, some (.c (.int .u8 x6))⟩), (192, ⟨.auto, some (.c (.int .i64 x8))⟩), (204, ⟨.auto, some (.c (.int .i64 x10))⟩), (205, ⟨.auto, some (.c (.int .i64 x12))⟩), (209, ⟨.auto, some (.c (.int .u8 x14))⟩), (213, ⟨.auto, some (.c (.int .i64 x16))⟩), (225, ⟨.auto, some (.c (.int .i64 x18))⟩), (226, ⟨.auto, some (.c (.int .i64 x20))⟩), (230, ⟨.auto, some (.c (.int .u8 x22))⟩), (234, ⟨.auto, some (.c (.int .i64 x24))⟩), (246, ⟨.auto, some (.c (.int .i64 x26))⟩), (247, ⟨.auto, some (.c (.int .i64 x28))⟩), (251, ⟨.auto, some (.c (.int .u8 x30))⟩), (255, ⟨.auto, some (.c (.int .i64 x32))⟩), (267, ⟨.auto, some (.c (.int .i64 x34))⟩), (268, ⟨.auto, some (.c (.int .i64 x36))⟩), (272, ⟨.auto, some (.c (.int .u8 x38))⟩), (276, ⟨.auto, some (.c (.int .i64 x40))⟩), (288, ⟨.auto, some (.c (.int .i64 x42))⟩), (289, ⟨.auto, some (.c (.int .i64 x44))⟩), (293, ⟨.auto, some (.c (.int .u8 x46))⟩), (297, ⟨.auto, some (.c (.int .i64 x48))⟩), (309, ⟨.auto, some (.c (.int .i64 x50))⟩), (310, ⟨.auto, some (.c (.int .i64 x52))⟩), (314, ⟨.auto, some (.c (.int .u8 x54))⟩), (318, ⟨.auto, some (.c (.int .i64 x56))⟩), (330, ⟨.auto, some (.c (.int .i64 x58))⟩), (331, ⟨.auto, some (.c (.int .i64 x60))⟩), (335, ⟨.auto, some (.c (.int .u8 x62))⟩), (339, ⟨.auto, some (.c (.int .i64 x64))⟩), (351, ⟨.auto, some (.c (.int .i64 x66))⟩), (352, ⟨.auto, some (.c (.int .i64 x68))⟩), (356, ⟨.auto, some (.c (.int .u8 x70))⟩), (360, ⟨.auto, some (.c (.int .i64 x72))⟩), (372, ⟨.auto, some (.c (.int .i64 x74))⟩), (373, ⟨.auto, some (.c (.int .i64 x76))⟩), (377, ⟨.auto, some (.c (.int .u8 x78))⟩), (381, ⟨.auto, some (.c (.int .i64 x80))⟩), (393, ⟨.auto, some (.c (.int .i64 x82))⟩), (394, ⟨.auto, some (.c (.int .i64 x84))⟩), (398, ⟨.auto, some (.c (.int .u8 x86))⟩), (402, ⟨.auto, some (.c (.int .i64 x88))⟩), (414, ⟨.auto, some (.c (.int .i64 x90))⟩), (415, ⟨.auto, some (.c (.int .i64 x92))⟩), (419, ⟨.auto, some (.c (.int .u8 x94))⟩), (423, ⟨.auto, some (.c (.int .i64 x96))⟩), (435, ⟨.auto, some (.c (.int .i64 x98))⟩), (436, ⟨.auto, some (.c (.int .i64 x100))⟩), (440, ⟨.auto, some (.c (.int .u8 x102))⟩), (444, ⟨.auto, some (.c (.int .i64 x104))⟩), (456, ⟨.auto, some (.c (.int .i64 x106))⟩), (457, ⟨.auto, some (.c (.int .i64 x108))⟩), (461, ⟨.auto, some (.c (.int .u8 x110))⟩), (465, ⟨.auto, some (.c (.int .i64 x112))⟩), (477, ⟨.auto, some (.c (.int .i64 x114))⟩), (478, ⟨.auto, some (.c (.int .i64 x116))⟩), (482, ⟨.auto, some (.c (.int .u8 x118))⟩), (486, ⟨.auto, some (.c (.int .i64 x120))⟩), (498, ⟨.auto, some (.c (.int .i64 x122))⟩), (499, ⟨.auto, some (.c (.int .i64 x124))⟩), (503, ⟨.auto, some (.c (.int .u8 x126))⟩), (507, ⟨.auto, some (.c (.int .i64 x128))⟩), (515, ⟨.call [] (.c (.bool (true))) [] [], none⟩), (519, ⟨.call [209] (.aggi .u8 [r18_130, r18_131, r18_132, r18_133, r18_134, r18_135, r18_136, r18_137, r18_138, r18_139, r18_140, r18_141, r18_142, r18_143, r18_144, r18_145]) [] [], none⟩), (521, ⟨.auto, some (.c (.bool (true)))⟩)])
    (cs := [EB ([r18_130, r18_131, r18_132, r18_133, r18_134, r18_135, r18_136, r18_137, r18_138, r18_139, r18_140, r18_141, r18_142, r18_143, r18_144, r18_145] == List.take 16 (List.drop 0 (splice (splice (splice (splice (splice (splice (splice (splice (splice (splice (splice (splice (splice (splice (splice (splice (splice [0, 0, 0, 0, 0, 0, 0, 0, 0, 0, 0, 0, 0, 0, 0, 0] 0 (List.take 16 (List.drop 0 [s0, s1, s2, s3, s4, s5, s6, s7, s8, s9, s10, s11, s12, s13, s14, s15]))) 0 [x6]) 1 [x14]) 2 [x22]) 3 [x30]) 4 [x38]) 5 [x46]) 6 [x54]) 7 [x62]) 8 [x70]) 9 [x78]) 10 [x86]) 11 [x94]) 12 [x102]) 13 [x110]) 14 [x118]) 15 [x126]))) true,
      Contract Try.prog 18 [(.aggi .u8 [1, 0, 0, 0, 0, 0, 0, 0, 0, 0, 0, 0, 0, 0, 0, 0, s0, s1, s2, s3, s4, s5, s6, s7, s8, s9, s10, s11, s12, s13, s14, s15]), (.c (.sl 209 0 0 112 1))] [(209, (.one ⟨true, true, (.ints .u8 [1, 0, 0, 0, 0, 0, 0, 0, 0, 0, 0, 0, 0, 0, 0, 0, 2, 0, 0, 0, 0, 0, 0, 0, 0, 0, 0, 0, 0, 0, 0, 0, 3, 0, 0, 0, 0, 0, 0, 0, 0, 0, 0, 0, 0, 0, 0, 0, 4, 0, 0, 0, 0, 0, 0, 0, 0, 0, 0, 0, 0, 0, 0, 0, 5, 0, 0, 0, 0, 0, 0, 0, 0, 0, 0, 0, 0, 0, 0, 0, 6, 0, 0, 0, 0, 0, 0, 0, 0, 0, 0, 0, 0, 0, 0, 0, 7, 0, 0, 0, 0, 0, 0, 0, 0, 0, 0, 0, 0, 0, 0, 0])⟩))] 7905 (.aggi .u8 [r18_130, r18_131, r18_132, r18_133, r18_134, r18_135, r18_136, r18_137, r18_138, r18_139, r18_140, r18_141, r18_142, r18_143, r18_144, r18_145]) [] [],
      Contract Try.prog 19 [] [] 7841 (.c (.bool (true))) [] [],
      EI .i64 (IntKind.wrap IntKind.i64 (Int.tdiv x124 256)) x128,
      EI .u8 (x124 % 256) x126,
      EI .i64 (IntKind.wrap IntKind.i64 (x120 + x122)) x124,
      EI .i64 (IntKind.wrap IntKind.i64 s15) x122,
      EI .i64 (IntKind.wrap IntKind.i64 (Int.tdiv x116 256)) x120,
      EI .u8 (x116 % 256) x118,
      EI .i64 (IntKind.wrap IntKind.i64 (x112 + x114)) x116,
      EI .i64 (IntKind.wrap IntKind.i64 s14) x114,
      EI .i64 (IntKind.wrap IntKind.i64 (Int.tdiv x108 256)) x112,
      EI .u8 (x108 % 256) x110,
      EI .i64 (IntKind.wrap IntKind.i64 (x104 + x106)) x108,
      EI .i64 (IntKind.wrap IntKind.i64 s13) x106,
      EI .i64 (IntKind.wrap IntKind.i64 (Int.tdiv x100 256)) x104,
      EI .u8 (x100 % 256) x102,
      EI .i64 (IntKind.wrap IntKind.i64 (x96 + x98)) x100,
      EI .i64 (IntKind.wrap IntKind.i64 s12) x98,
      EI .i64 (IntKind.wrap IntKind.i64 (Int.tdiv x92 256)) x96,
      EI .u8 (x92 % 256) x94,
      EI .i64 (IntKind.wrap IntKind.i64 (x88 + x90)) x92,
      EI .i64 (IntKind.wrap IntKind.i64 s11) x90,
      EI .i64 (IntKind.wrap IntKind.i64 (Int.tdiv x84 256)) x88,
      EI .u8 (x84 % 256) x86,
      EI .i64 (IntKind.wrap IntKind.i64 (x80 + x82)) x84,
      EI .i64 (IntKind.wrap IntKind.i64 s10) x82,
      EI .i64 (IntKind.wrap IntKind.i64 (Int.tdiv x76 256)) x80,
      EI .u8 (x76 % 256) x78,
      EI .i64 (IntKind.wrap IntKind.i64 (x72 + x74)) x76,
      EI .i64 (IntKind.wrap IntKind.i64 s9) x74,
      EI .i64 (IntKind.wrap IntKind.i64 (Int.tdiv x68 256)) x72,
      EI .u8 (x68 % 256) x70,
      EI .i64 (IntKind.wrap IntKind.i64 (x64 + x66)) x68,
      EI .i64 (IntKind.wrap IntKind.i64 s8) x66,
      EI .i64 (IntKind.wrap IntKind.i64 (Int.tdiv x60 256)) x64,
      EI .u8 (x60 % 256) x62,
      EI .i64 (IntKind.wrap IntKind.i64 (x56 + x58)) x60,
      EI .i64 (IntKind.wrap IntKind.i64 s7) x58,
      EI .i64 (IntKind.wrap IntKind.i64 (Int.tdiv x52 256)) x56,
      EI .u8 (x52 % 256) x54,
      EI .i64 (IntKind.wrap IntKind.i64 (x48 + x50)) x52,
      EI .i64 (IntKind.wrap IntKind.i64 s6) x50,
      EI .i64 (IntKind.wrap IntKind.i64 (Int.tdiv x44 256)) x48,
      EI .u8 (x44 % 256) x46,
      EI .i64 (IntKind.wrap IntKind.i64 (x40 + x42)) x44,
      EI .i64 (IntKind.wrap IntKind.i64 s5) x42,
      EI .i64 (IntKind.wrap IntKind.i64 (Int.tdiv x36 256)) x40,
      EI .u8 (x36 % 256) x38,
      EI .i64 (IntKind.wrap IntKind.i64 (x32 + x34)) x36,
      EI .i64 (IntKind.wrap IntKind.i64 s4) x34,
      EI .i64 (IntKind.wrap IntKind.i64 (Int.tdiv x28 256)) x32,
      EI .u8 (x28 % 256) x30,
      EI .i64 (IntKind.wrap IntKind.i64 (x24 + x26)) x28,
      EI .i64 (IntKind.wrap IntKind.i64 s3) x26,
      EI .i64 (IntKind.wrap IntKind.i64 (Int.tdiv x20 256)) x24,
      EI .u8 (x20 % 256) x22,
      EI .i64 (IntKind.wrap IntKind.i64 (x16 + x18)) x20,
      EI .i64 (IntKind.wrap IntKind.i64 s2) x18,
      EI .i64 (IntKind.wrap IntKind.i64 (Int.tdiv x12 256)) x16,
      EI .u8 (x12 % 256) x14,
      EI .i64 (IntKind.wrap IntKind.i64 (x8 + x10)) x12,
      EI .i64 (IntKind.wrap IntKind.i64 s1) x10,
      EI .i64 (IntKind.wrap IntKind.i64 (Int.tdiv x4 256)) x8,
      EI .u8 (x4 % 256) x6,
      EI .i64 (IntKind.wrap IntKind.i64 (33 + x2)) x4,
      EI .i64 (IntKind.wrap IntKind.i64 s0) x2,
      Contract Try.prog 21 [(.c (.int .i64 n)), (.c (.int .i64 20))] [] 49 (.c (.int .i64 7)) [] []])
    mixed Try.func7 (by kernel_rfl) (by kernel_rfl) (by kernel_rfl) rfl (by kernel_rfl) ⟨.mk h147, c146.ro [(209, (1, true))] rfl (by kernel_rfl) rfl (by kernel_rfl) rfl rfl _, c129.use (by kernel_rfl) rfl rfl _ _, .mk h127, .mk h125, .mk h123, .mk h121, .mk h119, .mk h117, .mk h115, .mk h113, .mk h111, .mk h109, .mk h107, .mk h105, .mk h103, .mk h101, .mk h99, .mk h97, .mk h95, .mk h93, .mk h91, .mk h89, .mk h87, .mk h85, .mk h83, .mk h81, .mk h79, .mk h77, .mk h75, .mk h73, .mk h71, .mk h69, .mk h67, .mk h65, .mk h63, .mk h61, .mk h59, .mk h57, .mk h55, .mk h53, .mk h51, .mk h49, .mk h47, .mk h45, .mk h43, .mk h41, .mk h39, .mk h37, .mk h35, .mk h33, .mk h31, .mk h29, .mk h27, .mk h25, .mk h23, .mk h21, .mk h19, .mk h17, .mk h15, .mk h13, .mk h11, .mk h9, .mk h7, .mk h5, .mk h3, .mk h1, c0.use (by kernel_rfl) rfl rfl _ _, trivial⟩

theorem run7_8 (s0 s1 s2 s3 s4 s5 s6 s7 s8 s9 s10 s11 s12 s13 s14 s15 n x2 x4 x6 x8 x10 x12 x14 x16 x18 x20 x22 x24 x26 x28 x30 x32 x34 x36 x38 x40 x42 x44 x46 x48 x50 x52 x54 x56 x58 x60 x62 x64 x66 x68 x70 x72 x74 x76 x78 x80 x82 x84 x86 x88 x90 x92 x94 x96 x98 x100 x102 x104 x106 x108 x110 x112 x114 x116 x118 x120 x122 x124 x126 x128 r18_130 r18_131 r18_132 r18_133 r18_134 r18_135 r18_136 r18_137 r18_138 r18_139 r18_140 r18_141 r18_142 r18_143 r18_144 r18_145 : Int)
    (c0 : PureF Try.prog 21 [(.c (.int .i64 n)), (.c (.int .i64 20))] (.c (.int .i64 8)))
    (h1 : (IntKind.wrap IntKind.i64 s0) = x2)
    (h3 : (IntKind.wrap IntKind.i64 (46 + x2)) = x4)
    (h5 : (x4 % 256) = x6)
    (h7 : (IntKind.wrap IntKind.i64 (Int.tdiv x4 256)) = x8)
    (h9 : (IntKind.wrap IntKind.i64 s1) = x10)
    (h11 : (IntKind.wrap IntKind.i64 (x8 + x10)) = x12)
    (h13 : (x12 % 256) = x14)
    (h15 : (IntKind.wrap IntKind.i64 (Int.tdiv x12 256)) = x16)
    (h17 : (IntKind.wrap IntKind.i64 s2) = x18)
    (h19 : (IntKind.wrap IntKind.i64 (x16 + x18)) = x20)
    (h21 : (x20 % 256) = x22)
    (h23 : (IntKind.wrap IntKind.i64 (Int.tdiv x20 256)) = x24)
    (h25 : (IntKind.wrap IntKind.i64 s3) = x26)
    (h27 : (IntKind.wrap IntKind.i64 (x24 + x26)) = x28)
    (h29 : (x28 % 256) = x30)
    (h31 : (IntKind.wrap IntKind.i64 (Int.tdiv x28 256)) = x32)
    (h33 : (IntKind.wrap IntKind.i64 s4) = x34)
    (h35 : (IntKind.wrap IntKind.i64 (x32 + x34)) = x36)
    (h37 : (x36 % 256) = x38)
    (h39 : (IntKind.wrap IntKind.i64 (Int.tdiv x36 256)) = x40)
    (h41 : (IntKind.wrap IntKind.i64 s5) = x42)
    (h43 : (IntKind.wrap IntKind.i64 (x40 + x42)) = x44)
    (h45 : (x44 % 256) = x46)
    (h47 : (IntKind.wrap IntKind.i64 (Int.tdiv x44 256)) = x48)
    (h49 : (IntKind.wrap IntKind.i64 s6) = x50)
    (h51 : (IntKind.wrap IntKind.i64 (x48 + x50)) = x52)
    (h53 : (x52 % 256) = x54)
    (h55 : (IntKind.wrap IntKind.i64 (Int.tdiv x52 256)) = x56)
    (h57 : (IntKind.wrap IntKind.i64 s7) = x58)
    (h59 : (IntKind.wrap IntKind.i64 (x56 + x58)) = x60)
    (h61 : (x60 % 256) = x62)
    (h63 : (IntKind.wrap IntKind.i64 (Int.tdiv x60 256)) = x64)
    (h65 : (IntKind.wrap IntKind.i64 s8) = x66)
    (h67 : (IntKind.wrap IntKind.i64 (x64 + x66)) = x68)
    (h69 : (x68 % 256) = x70)
    (h71 : (IntKind.wrap IntKind.i64 (Int.tdiv x68 256)) = x72)
    (h73 : (IntKind.wrap IntKind.i64 s9) = x74)
    (h75 : (IntKind.wrap IntKind.i64 (x72 + x74)) = x76)
    (h77 : (x76 % 256) = x78)
    (h79 : (IntKind.wrap IntKind.i64 (Int.tdiv x76 256)) = x80)
    (h81 : (IntKind.wrap IntKind.i64 s10) = x82)
    (h83 : (IntKind.wrap IntKind.i64 (x80 + x82)) = x84)
    (h85 : (x84 % 256) = x86)
    (h87 : (IntKind.wrap IntKind.i64 (Int.tdiv x84 256)) = x88)
    (h89 : (IntKind.wrap IntKind.i64 s11) = x90)
    (h91 : (IntKind.wrap IntKind.i64 (x88 + x90)) = x92)
    (h93 : (x92 % 256) = x94)
    (h95 : (IntKind.wrap IntKind.i64 (Int.tdiv x92 256)) = x96)
    (h97 : (IntKind.wrap IntKind.i64 s12) = x98)
    (h99 : (IntKind.wrap IntKind.i64 (x96 + x98)) = x100)
    (h101 : (x100 % 256) = x102)
    (h103 : (IntKind.wrap IntKind.i64 (Int.tdiv x100 256)) = x104)
    (h105 : (IntKind.wrap IntKind.i64 s13) = x106)
    (h107 : (IntKind.wrap IntKind.i64 (x104 + x106)) = x108)
    (h109 : (x108 % 256) = x110)
    (h111 : (IntKind.wrap IntKind.i64 (Int.tdiv x108 256)) = x112)
    (h113 : (IntKind.wrap IntKind.i64 s14) = x114)
    (h115 : (IntKind.wrap IntKind.i64 (x112 + x114)) = x116)
    (h117 : (x116 % 256) = x118)
    (h119 : (IntKind.wrap IntKind.i64 (Int.tdiv x116 256)) = x120)
    (h121 : (IntKind.wrap IntKind.i64 s15) = x122)
    (h123 : (IntKind.wrap IntKind.i64 (x120 + x122)) = x124)
    (h125 : (x124 % 256) = x126)
    (h127 : (IntKind.wrap IntKind.i64 (Int.tdiv x124 256)) = x128)
    (c129 : PureF Try.prog 19 [] (.c (.bool (true))))
    (c146 : Contract0 Try.prog 18 [(.aggi .u8 [1, 0, 0, 0, 0, 0, 0, 0, 0, 0, 0, 0, 0, 0, 0, 0, s0, s1, s2, s3, s4, s5, s6, s7, s8, s9, s10, s11, s12, s13, s14, s15]), (.c (.sl 1 0 0 128 1))] [(1, (.one ⟨false, true, (.ints .u8 [1, 0, 0, 0, 0, 0, 0, 0, 0, 0, 0, 0, 0, 0, 0, 0, 2, 0, 0, 0, 0, 0, 0, 0, 0, 0, 0, 0, 0, 0, 0, 0, 3, 0, 0, 0, 0, 0, 0, 0, 0, 0, 0, 0, 0, 0, 0, 0, 4, 0, 0, 0, 0, 0, 0, 0, 0, 0, 0, 0, 0, 0, 0, 0, 5, 0, 0, 0, 0, 0, 0, 0, 0, 0, 0, 0, 0, 0, 0, 0, 6, 0, 0, 0, 0, 0, 0, 0, 0, 0, 0, 0, 0, 0, 0, 0, 7, 0, 0, 0, 0, 0, 0, 0, 0, 0, 0, 0, 0, 0, 0, 0, 8, 0, 0, 0, 0, 0, 0, 0, 0, 0, 0, 0, 0, 0, 0, 0])⟩))] 2 (.aggi .u8 [r18_130, r18_131, r18_132, r18_133, r18_134, r18_135, r18_136, r18_137, r18_138, r18_139, r18_140, r18_141, r18_142, r18_143, r18_144, r18_145]) [] [])
    (h147 : ([r18_130, r18_131, r18_132, r18_133, r18_134, r18_135, r18_136, r18_137, r18_138, r18_139, r18_140, r18_141, r18_142, r18_143, r18_144, r18_145] == List.take 16 (List.drop 0 (splice (splice (splice (splice (splice (splice (splice (splice (splice (splice (splice (splice (splice (splice (splice (splice (splice [0, 0, 0, 0, 0, 0, 0, 0, 0, 0, 0, 0, 0, 0, 0, 0] 0 (List.take 16 (List.drop 0 [s0, s1, s2, s3, s4, s5, s6, s7, s8, s9, s10, s11, s12, s13, s14, s15]))) 0 [x6]) 1 [x14]) 2 [x22]) 3 [x30]) 4 [x38]) 5 [x46]) 6 [x54]) 7 [x62]) 8 [x70]) 9 [x78]) 10 [x86]) 11 [x94]) 12 [x102]) 13 [x110]) 14 [x118]) 15 [x126]))) = true)   :
    PureF Try.prog 7 [(.aggi .u8 [s0, s1, s2, s3, s4, s5, s6, s7, s8, s9, s10, s11, s12, s13, s14, s15]), (.c (.int .i64 n))] (.c (.bool (true))) :=
  Contract0.of_frun (fn := Try.f7) (c := bodyOf Try.f7) (fuel := 5000) (k := kOf Try.prog Try.f7) (outs := []) (hs := [(3, ⟨.call [] (.c (.int .i64 8)) [] [], none⟩), (203, ⟨.auto, some (.c (.int .i64 x2))⟩), (204, ⟨.auto, some (.c (.int .i64 x4))⟩), (208, ⟨.auto, some (.c (.int .u8 x6))⟩), (212, ⟨.auto, some (.c (.int .i64 x8))⟩), (224, ⟨.auto, some (.c (.int .i64 x10))⟩), (225, ⟨.auto, some (.c (.int .i64 x12))⟩), (229, ⟨.auto, some (.c (.int .u8 x14))⟩), (233, ⟨.auto, some (.c (.int .i64 x16))⟩), (245, ⟨.auto, some (.c (.int .i64 x18))⟩), (246, ⟨.auto, some (.c (.int .i64 x20))⟩), (250, ⟨.auto, some (.c (.int .u8 x22))⟩), (254, ⟨.auto, some (.c (.int .i64 x24))⟩), (266, ⟨.auto, some (.c (.int .i64 x26))⟩), (267, ⟨.auto, some (.c (.int .i64 x28))⟩), (271, ⟨.auto, some (.c (.int .u8 x30))⟩), (275, ⟨.auto, some (.c (.int .i64 x32))⟩), (287, ⟨.auto, some (.c (.int .i64 x34))⟩), (288, ⟨.auto, some (.c (.int .i64 x36))⟩), (292, ⟨.auto, some (.c (.int .u8 x38))⟩), (296, ⟨.auto, some (.c (.int .i64 x40))⟩), (308, ⟨.auto, some (.c (.int .i64 x42))⟩), (309, ⟨.auto, some (.c (.int .i64 x44))⟩), (313, ⟨.auto, some (.c (.int .u8 x46))⟩), (317, ⟨.auto, some (.c (.int .i64 x48))⟩), (329, ⟨.auto, some (.c (.int .i64 x50))⟩), (330, ⟨.auto, some (.c (.int .i64 x52))⟩), (334, ⟨.auto, some (.c (.int .u8 x54))⟩), (338, ⟨.auto, some (.c (.int .i64 x56))⟩), (350, ⟨.auto, some (.c (.int .i64 x58))⟩), (351, ⟨.auto, some (.c (.int .i64 x60))⟩), (355, ⟨.auto, some (.c (.int .u8 x62))⟩), (359, ⟨.auto, some (.c (.int .i64 x64))⟩), (371, ⟨.auto, some (.c (.int .i64 x66))⟩), (372, ⟨.auto, some (.c (.int .i64 x68))⟩), (376, ⟨.auto, some (.c (.int .u8 x70))⟩), (380, ⟨.auto, some (.c (.int .i64 x72))⟩), (392, ⟨.auto, some (.c (.int .i64 x74))⟩), (393, ⟨.auto, some (.c (.int .i64 x76))⟩), (397, ⟨.auto, some (.c (.int .u8 x78))⟩), (401, ⟨.auto, some (.c (.int .i64 x80))⟩), (413, ⟨.auto, some (.c (.int .i64 x82))⟩), (414, ⟨.auto, some (.c (.int .i64 x84))⟩), (418, ⟨.auto, some (.c (.int .u8 x86))⟩), (422, ⟨.auto, some (.c (.int .i64 x88))⟩), (434, ⟨.auto, some (.c (.int .i64 x90))⟩), (435, ⟨.auto, some (.c (.int .i64 x92))⟩), (439, ⟨.auto, some (.c (.int .u8 x94))⟩), (443, ⟨.auto, some (.c (.int .i64 x96))⟩), (455, ⟨.auto, some (.c (.int .i64 x98))⟩), (456, ⟨.auto, some (.c (.int .i64 x100))⟩), (460, ⟨.auto, some (.c (.int .u8 x102))⟩), (464, ⟨.auto, some (.c (.int .i64 x104))⟩), (476, ⟨.auto, some (.c (.int .i64 x106))⟩), (477, ⟨.auto, some (.c (.int .i64 x108))⟩), (481, ⟨.auto, some (.c (.int .u8 x110))⟩), (485, ⟨.auto, some (.c (.int .i64 x112))⟩), (497, ⟨.auto, some (.c (.int .i64 x114))⟩), (498, ⟨.auto, some (.c (.int .i64 x116))⟩), (502, ⟨.auto, some (.c (.int .u8 x118))⟩), (506, ⟨.auto, some (.c (.int .i64 x120))⟩), (518, ⟨.auto, some (.c (.int .i64 x122))⟩), (519, ⟨.auto, some (.c (.int .i64 x124))⟩), (523, ⟨.auto, some (.c (.int .u8 x126))⟩), (527, ⟨.auto, some (.c (.int .i64 x128))⟩), (535, ⟨.call [] (.c (.bool (true))) [] [], none⟩), (539, ⟨.call [209] (.aggi .u8 [r18_130, r18_131, r18_132, r18_133, r18_134, r18_135, r18_136, r18_137, r18_138, r18_139, r18_140, r18_141, r18_142, r18_143, r18_144, r18_145]) [] [], none⟩), (541, ⟨.auto, some (.c (.bool (true)))⟩)])
    (cs := [EB ([r18_130, r18_131, r18_132, r18_133, r18_134, r18_135, r18_136, r18_137, r18_138, r18_139, r18_140, r18_141, r18_142, r18_143, r18_144, r18_145] == List.take 16 (List.drop 0 (splice (splice (splice (splice (splice (splice (splice (splice (splice (splice (splice (splice (splice (splice (splice (splice (splice [0, 0, 0, 0, 0, 0, 0, 0, 0, 0, 0, 0, 0, 0, 0, 0] 0 (List.take 16 (List.drop 0 [s0, s1, s2, s3, s4, s5, s6, s7, s8, s9, s10, s11, s12, s13, s14, s15]))) 0 [x6]) 1 [x14]) 2 [x22]) 3 [x30]) 4 [x38]) 5 [x46]) 6 [x54]) 7 [x62]) 8 [x70]) 9 [x78]) 10 [x86]) 11 [x94]) 12 [x102]) 13 [x110]) 14 [x118]) 15 [x126]))) true,
      Contract Try.prog 18 [(.aggi .u8 [1, 0, 0, 0, 0, 0, 0, 0, 0, 0, 0, 0, 0, 0, 0, 0, s0, s1, s2, s3, s4, s5, s6, s7, s8, s9, s10, s11, s12, s13, s14, s15]), (.c (.sl 209 0 0 128 1))] [(209, (.one ⟨true, true, (.ints .u8 [1, 0, 0, 0, 0, 0, 0, 0, 0, 0, 0, 0, 0, 0, 0, 0, 2, 0, 0, 0, 0, 0, 0, 0, 0, 0, 0, 0, 0, 0, 0, 0, 3, 0, 0, 0, 0, 0, 0, 0, 0, 0, 0, 0, 0, 0, 0, 0, 4, 0, 0, 0, 0, 0, 0, 0, 0, 0, 0, 0, 0, 0, 0, 0, 5, 0, 0, 0, 0, 0, 0, 0, 0, 0, 0, 0, 0, 0, 0, 0, 6, 0, 0, 0, 0, 0, 0, 0, 0, 0, 0, 0, 0, 0, 0, 0, 7, 0, 0, 0, 0, 0, 0, 0, 0, 0, 0, 0, 0, 0, 0, 0, 8, 0, 0, 0, 0, 0, 0, 0, 0, 0, 0, 0, 0, 0, 0, 0])⟩))] 8209 (.aggi .u8 [r18_130, r18_131, r18_132, r18_133, r18_134, r18_135, r18_136, r18_137, r18_138, r18_139, r18_140, r18_141, r18_142, r18_143, r18_144, r18_145]) [] [],
      Contract Try.prog 19 [] [] 8145 (.c (.bool (true))) [] [],
      EI .i64 (IntKind.wrap IntKind.i64 (Int.tdiv x124 256)) x128,
      EI .u8 (x124 % 256) x126,
      EI .i64 (IntKind.wrap IntKind.i64 (x120 + x122)) x124,
      EI .i64 (IntKind.wrap IntKind.i64 s15) x122,
      EI .i64 (IntKind.wrap IntKind.i64 (Int.tdiv x116 256)) x120,
      EI .u8 (x116 % 256) x118,
      EI .i64 (IntKind.wrap IntKind.i64 (x112 + x114)) x116,
      EI .i64 (IntKind.wrap IntKind.i64 s14) x114,
      EI .i64 (IntKind.wrap IntKind.i64 (Int.tdiv x108 256)) x112,
      EI .u8 (x108 % 256) x110,
      EI .i64 (IntKind.wrap IntKind.i64 (x104 + x106)) x108,
      EI .i64 (IntKind.wrap IntKind.i64 s13) x106,
      EI .i64 (IntKind.wrap IntKind.i64 (Int.tdiv x100 256)) x104,
      EI .u8 (x100 % 256) x102,
      EI .i64 (IntKind.wrap IntKind.i64 (x96 + x98)) x100,
      EI .i64 (IntKind.wrap IntKind.i64 s12) x98,
      EI .i64 (IntKind.wrap IntKind.i64 (Int.tdiv x92 256)) x96,
      EI .u8 (x92 % 256) x94,
      EI .i64 (IntKind.wrap IntKind.i64 (x88 + x90)) x92,
      EI .i64 (IntKind.wrap IntKind.i64 s11) x90,
      EI .i64 (IntKind.wrap IntKind.i64 (Int.tdiv x84 256)) x88,
      EI .u8 (x84 % 256) x86,
      EI .i64 (IntKind.wrap IntKind.i64 (x80 + x82)) x84,
      EI .i64 (IntKind.wrap IntKind.i64 s10) x82,
      EI .i64 (IntKind.wrap IntKind.i64 (Int.tdiv x76 256)) x80,
      EI .u8 (x76 % 256) x78,
      EI .i64 (IntKind.wrap IntKind.i64 (x72 + x74)) x76,
      EI .i64 (IntKind.wrap IntKind.i64 s9) x74,
      EI .i64 (IntKind.wrap IntKind.i64 (Int.tdiv x68 256)) x72,
      EI .u8 (x68 % 256) x70,
      EI .i64 (IntKind.wrap IntKind.i64 (x64 + x66)) x68,
      EI .i64 (IntKind.wrap IntKind.i64 s8) x66,
      EI .i64 (IntKind.wrap IntKind.i64 (Int.tdiv x60 256)) x64,
      EI .u8 (x60 % 256) x62,
      EI .i64 (IntKind.wrap IntKind.i64 (x56 + x58)) x60,
      EI .i64 (IntKind.wrap IntKind.i64 s7) x58,
      EI .i64 (IntKind.wrap IntKind.i64 (Int.tdiv x52 256)) x56,
      EI .u8 (x52 % 256) x54,
      EI .i64 (IntKind.wrap IntKind.i64 (x48 + x50)) x52,
      EI .i64 (IntKind.wrap IntKind.i64 s6) x50,
      EI .i64 (IntKind.wrap IntKind.i64 (Int.tdiv x44 256)) x48,
      EI .u8 (x44 % 256) x46,
      EI .i64 (IntKind.wrap IntKind.i64 (x40 + x42)) x44,
      EI .i64 (IntKind.wrap IntKind.i64 s5) x42,
      EI .i64 (IntKind.wrap IntKind.i64 (Int.tdiv x36 256)) x40,
      EI .u8 (x36 % 256) x38,
      EI .i64 (IntKind.wrap IntKind.i64 (x32 + x34)) x36,
      EI .i64 (IntKind.wrap IntKind.i64 s4) x34,
      EI .i64 (IntKind.wrap IntKind.i64 (Int.tdiv x28 256)) x32,
      EI .u8 (x28 % 256) x30,
      EI .i64 (IntKind.wrap IntKind.i64 (x24 + x26)) x28,
      EI .i64 (IntKind.wrap IntKind.i64 s3) x26,
      EI .i64 (IntKind.wrap IntKind.i64 (Int.tdiv x20 256)) x24,
      EI .u8 (x20 % 256) x22,
      EI .i64 (IntKind.wrap IntKind.i64 (x16 + x18)) x20,
      EI .i64 (IntKind.wrap IntKind.i64 s2) x18,
      EI .i64 (IntKind.wrap IntKind.i64 (Int.tdiv x12 256)) x16,
      EI .u8 (x12 % 256) x14,
      EI .i64 (IntKind.wrap IntKind.i64 (x8 + x10)) x12,
      EI .i64 (IntKind.wrap IntKind.i64 s1) x10,
      EI .i64 (IntKind.wrap IntKind.i64 (Int.tdiv x4 256)) x8,
      EI .u8 (x4 % 256) x6,
      EI .i64 (IntKind.wrap IntKind.i64 (46 + x2)) x4,
      EI .i64 (IntKind.wrap IntKind.i64 s0) x2,
      Contract Try.prog 21 [(.c (.int .i64 n)), (.c (.int .i64 20))] [] 49 (.c (.int .i64 8)) [] []])
    mixed Try.func7 (by kernel_rfl) (by kernel_rfl) (by kernel_rfl) rfl (by kernel_rfl) ⟨.mk h147, c146.ro [(209, (1, true))] rfl (by kernel_rfl) rfl (by kernel_rfl) rfl rfl _, c129.use (by kernel_rfl) rfl rfl _ _, .mk h127, .mk h125, .mk h123, .mk h121, .mk h119, .mk h117, .mk h115, .mk h113, .mk h111, .mk h109, .mk h107, .mk h105, .mk h103, .mk h101, .mk h99, .mk h97, .mk h95, .mk h93, .mk h91, .mk h89, .mk h87, .mk h85, .mk h83, .mk h81, .mk h79, .mk h77, .mk h75, .mk h73, .mk h71, .mk h69, .mk h67, .mk h65, .mk h63, .mk h61, .mk h59, .mk h57, .mk h55, .mk h53, .mk h51, .mk h49, .mk h47, .mk h45, .mk h43, .mk h41, .mk h39, .mk h37, .mk h35, .mk h33, .mk h31, .mk h29, .mk h27, .mk h25, .mk h23, .mk h21, .mk h19, .mk h17, .mk h15, .mk h13, .mk h11, .mk h9, .mk h7, .mk h5, .mk h3, .mk h1, c0.use (by kernel_rfl) rfl rfl _ _, trivial⟩

theorem run7_9 (s0 s1 s2 s3 s4 s5 s6 s7 s8 s9 s10 s11 s12 s13 s14 s15 n x2 x4 x6 x8 x10 x12 x14 x16 x18 x20 x22 x24 x26 x28 x30 x32 x34 x36 x38 x40 x42 x44 x46 x48 x50 x52 x54 x56 x58 x60 x62 x64 x66 x68 x70 x72 x74 x76 x78 x80 x82 x84 x86 x88 x90 x92 x94 x96 x98 x100 x102 x104 x106 x108 x110 x112 x114 x116 x118 x120 x122 x124 x126 x128 r18_130 r18_131 r18_132 r18_133 r18_134 r18_135 r18_136 r18_137 r18_138 r18_139 r18_140 r18_141 r18_142 r18_143 r18_144 r18_145 : Int)
    (c0 : PureF Try.prog 21 [(.c (.int .i64 n)), (.c (.int .i64 20))] (.c (.int .i64 9)))
    (h1 : (IntKind.wrap IntKind.i64 s0) = x2)
    (h3 : (IntKind.wrap IntKind.i64 (55 + x2)) = x4)
    (h5 : (x4 % 256) = x6)
    (h7 : (IntKind.wrap IntKind.i64 (Int.tdiv x4 256)) = x8)
    (h9 : (IntKind.wrap IntKind.i64 s1) = x10)
    (h11 : (IntKind.wrap IntKind.i64 (x8 + x10)) = x12)
    (h13 : (x12 % 256) = x14)
    (h15 : (IntKind.wrap IntKind.i64 (Int.tdiv x12 256)) = x16)
    (h17 : (IntKind.wrap IntKind.i64 s2) = x18)
    (h19 : (IntKind.wrap IntKind.i64 (x16 + x18)) = x20)
    (h21 : (x20 % 256) = x22)
    (h23 : (IntKind.wrap IntKind.i64 (Int.tdiv x20 256)) = x24)
    (h25 : (IntKind.wrap IntKind.i64 s3) = x26)
    (h27 : (IntKind.wrap IntKind.i64 (x24 + x26)) = x28)
    (h29 : (x28 % 256) = x30)
    (h31 : (IntKind.wrap IntKind.i64 (Int.tdiv x28 256)) = x32)
    (h33 : (IntKind.wrap IntKind.i64 s4) = x34)
    (h35 : (IntKind.wrap IntKind.i64 (x32 + x34)) = x36)
    (h37 : (x36 % 256) = x38)
    (h39 : (IntKind.wrap IntKind.i64 (Int.tdiv x36 256)) = x40)
    (h41 : (IntKind.wrap IntKind.i64 s5) = x42)
    (h43 : (IntKind.wrap IntKind.i64 (x40 + x42)) = x44)
    (h45 : (x44 % 256) = x46)
    (h47 : (IntKind.wrap IntKind.i64 (Int.tdiv x44 256)) = x48)
    (h49 : (IntKind.wrap IntKind.i64 s6) = x50)
    (h51 : (IntKind.wrap IntKind.i64 (x48 + x50)) = x52)
    (h53 : (x52 % 256) = x54)
    (h55 : (IntKind.wrap IntKind.i64 (Int.tdiv x52 256)) = x56)
    (h57 : (IntKind.wrap IntKind.i64 s7) = x58)
    (h59 : (IntKind.wrap IntKind.i64 (x56 + x58)) = x60)
    (h61 : (x60 % 256) = x62)
    (h63 : (IntKind.wrap IntKind.i64 (Int.tdiv x60 256)) = x64)
    (h65 : (IntKind.wrap IntKind.i64 s8) = x66)
    (h67 : (IntKind.wrap IntKind.i64 (x64 + x66)) = x68)
    (h69 : (x68 % 256) = x70)
    (h71 : (IntKind.wrap IntKind.i64 (Int.tdiv x68 256)) = x72)
    (h73 : (IntKind.wrap IntKind.i64 s9) = x74)
    (h75 : (IntKind.wrap IntKind.i64 (x72 + x74)) = x76)
    (h77 : (x76 % 256) = x78)
    (h79 : (IntKind.wrap IntKind.i64 (Int.tdiv x76 256)) = x80)
    (h81 : (IntKind.wrap IntKind.i64 s10) = x82)
    (h83 : (IntKind.wrap IntKind.i64 (x80 + x82)) = x84)
    (h85 : (x84 % 256) = x86)
    (h87 : (IntKind.wrap IntKind.i64 (Int.tdiv x84 256)) = x88)
    (h89 : (IntKind.wrap IntKind.i64 s11) = x90)
    (h91 : (IntKind.wrap IntKind.i64 (x88 + x90)) = x92)
    (h93 : (x92 % 256) = x94)
    (h95 : (IntKind.wrap IntKind.i64 (Int.tdiv x92 256)) = x96)
    (h97 : (IntKind.wrap IntKind.i64 s12) = x98)
    (h99 : (IntKind.wrap IntKind.i64 (x96 + x98)) = x100)
    (h101 : (x100 % 256) = x102)
    (h103 : (IntKind.wrap IntKind.i64 (Int.tdiv x100 256)) = x104)
    (h105 : (IntKind.wrap IntKind.i64 s13) = x106)
    (h107 : (IntKind.wrap IntKind.i64 (x104 + x106)) = x108)
    (h109 : (x108 % 256) = x110)
    (h111 : (IntKind.wrap IntKind.i64 (Int.tdiv x108 256)) = x112)
    (h113 : (IntKind.wrap IntKind.i64 s14) = x114)
    (h115 : (IntKind.wrap IntKind.i64 (x112 + x114)) = x116)
    (h117 : (x116 % 256) = x118)
    (h119 : (IntKind.wrap IntKind.i64 (Int.tdiv x116 256)) = x120)
    (h121 : (IntKind.wrap IntKind.i64 s15) = x122)
    (h123 : (IntKind.wrap IntKind.i64 (x120 + x122)) = x124)
    (h125 : (x124 % 256) = x126)
    (h127 : (IntKind.wrap IntKind.i64 (Int.tdiv x124 256)) = x128)
    (c129 : PureF Try.prog 19 [] (.c (.bool (true))))
    (c146 : Contract0 Try.prog 18 [(.aggi .u8 [1, 0, 0, 0, 0, 0, 0, 0, 0, 0, 0, 0, 0, 0, 0, 0, s0, s1, s2, s3, s4, s5, s6, s7, s8, s9, s10, s11, s12, s13, s14, s15]), (.c (.sl 1 0 0 144 1))] [(1, (.one ⟨false, true, (.ints .u8 [1, 0, 0, 0, 0, 0, 0, 0, 0, 0, 0, 0, 0, 0, 0, 0, 2, 0, 0, 0, 0, 0, 0, 0, 0, 0, 0, 0, 0, 0, 0, 0, 3, 0, 0, 0, 0, 0, 0, 0, 0, 0, 0, 0, 0, 0, 0, 0, 4, 0, 0, 0, 0, 0, 0, 0, 0, 0, 0, 0, 0, 0, 0, 0, 5, 0, 0, 0, 0, 0, 0, 0, 0, 0, 0, 0, 0, 0, 0, 0, 6, 0, 0, 0, 0, 0, 0, 0, 0, 0, 0, 0, 0, 0, 0, 0, 7, 0, 0, 0, 0, 0, 0, 0, 0, 0, 0, 0, 0, 0, 0, 0, 8, 0, 0, 0, 0, 0, 0, 0, 0, 0, 0, 0, 0, 0, 0, 0, 9, 0, 0, 0, 0, 0, 0, 0, 0, 0, 0, 0, 0, 0, 0, 0])⟩))] 2 (.aggi .u8 [r18_130, r18_131, r18_132, r18_133, r18_134, r18_135, r18_136, r18_137, r18_138, r18_139, r18_140, r18_141, r18_142, r18_143, r18_144, r18_145]) [] [])
    (h147 : ([r18_130, r18_131, r18_132, r18_133, r18_134, r18_135, r18_136, r18_137, r18_138, r18_139, r18_140, r18_141, r18_142, r18_143, r18_144, r18_145] == List.take 16 (List.drop 0 (splice (splice (splice (splice (splice (splice (splice (splice (splice (splice (splice (splice (splice (splice (splice (splice (splice [0, 0, 0, 0, 0, 0, 0, 0, 0, 0, 0, 0, 0, 0, 0, 0] 0 (List.take 16 (List.drop 0 [s0, s1, s2, s3, s4, s5, s6, s7, s8, s9, s10, s11, s12, s13, s14, s15]))) 0 [x6]) 1 [x14]) 2 [x22]) 3 [x30]) 4 [x38]) 5 [x46]) 6 [x54]) 7 [x62]) 8 [x70]) 9 [x78]) 10 [x86]) 11 [x94]) 12 [x102]) 13 [x110]) 14 [x118]) 15 [x126]))) = true)   :
    PureF Try.prog 7 [(.aggi .u8 [s0, s1, s2, s3, s4, s5, s6, s7, s8, s9, s10, s11, s12, s13, s14, s15]), (.c (.int .i64 n))] (.c (.bool (true))) :=
  Contract0.of_frun (fn := Try.f7) (c := bodyOf Try.f7) (fuel := 5000) (k := kOf Try.prog Try.f7) (outs := []) (hs := [(3, ⟨.call [] (.c (.int .i64 9)) [] [], none⟩), (223, ⟨.auto, some (.c (.int .i64 x2))⟩), (224, ⟨.auto, some (.c (.int .i64 x4))⟩), (228, ⟨.auto, some (.c (.int .u8 x6))⟩), (232, ⟨.auto, some (.c (.int .i64 x8))⟩), (244, ⟨.auto, some (.c (.int .i64 x10))⟩), (245, ⟨.auto, some (.c (.int .i64 x12))⟩), (249, ⟨.auto, some (.c (.int .u8 x14))⟩), (253, ⟨.auto, some (.c (.int .i64 x16))⟩), (265, ⟨.auto, some (.c (.int .i64 x18))⟩), (266, ⟨.auto, some (.c (.int .i64 x20))⟩), (270, ⟨.auto, some (.c (.int .u8 x22))⟩), (274, ⟨.auto, some (.c (.int .i64 x24))⟩), (286, ⟨.auto, some (.c (.int .i64 x26))⟩), (287, ⟨.auto, some (.c (.int .i64 x28))⟩), (291, ⟨.auto, some (.c (.int .u8 x30))⟩), (295, ⟨.auto, some (.c (.int .i64 x32))⟩), (307, ⟨.auto, some (.c (.int .i64 x34))⟩), (308, ⟨.auto, some (.c (.int .i64 x36))⟩), (312, ⟨.auto, some (.c (.int .u8 x38))⟩), (316, ⟨.auto, some (.c (.int .i64 x40))⟩), (328, ⟨.auto, some (.c (.int .i64 x42))⟩), (329, ⟨.auto, some (.c (.int .i64 x44))⟩), (333, ⟨.auto, some (.c (.int .u8 x46))⟩), (337, ⟨.auto, some (.c (.int .i64 x48))⟩), (349, ⟨.auto, some (.c (.int .i64 x50))⟩), (350, ⟨.auto, some (.c (.int .i64 x52))⟩), (354, ⟨.auto, some (.c (.int .u8 x54))⟩), (358, ⟨.auto, some (.c (.int .i64 x56))⟩), (370, ⟨.auto, some (.c (.int .i64 x58))⟩), (371, ⟨.auto, some (.c (.int .i64 x60))⟩), (375, ⟨.auto, some (.c (.int .u8 x62))⟩), (379, ⟨.auto, some (.c (.int .i64 x64))⟩), (391, ⟨.auto, some (.c (.int .i64 x66))⟩), (392, ⟨.auto, some (.c (.int .i64 x68))⟩), (396, ⟨.auto, some (.c (.int .u8 x70))⟩), (400, ⟨.auto, some (.c (.int .i64 x72))⟩), (412, ⟨.auto, some (.c (.int .i64 x74))⟩), (413, ⟨.auto, some (.c (.int .i64 x76))⟩), (417, ⟨.auto, some (.c (.int .u8 x78))⟩), (421, ⟨.auto, some (.c (.int .i64 x80))⟩), (433, ⟨.auto, some (.c (.int .i64 x82))⟩), (434, ⟨.auto, some (.c (.int .i64 x84))⟩), (438, ⟨.auto, some (.c (.int .u8 x86))⟩), (442, ⟨.auto, some (.c (.int .i64 x88))⟩), (454, ⟨.auto, some (.c (.int .i64 x90))⟩), (455, ⟨.auto, some (.c (.int .i64 x92))⟩), (459, ⟨.auto, some (.c (.int .u8 x94))⟩), (463, ⟨.auto, some (.c (.int .i64 x96))⟩), (475, ⟨.auto, some (.c (.int .i64 x98))⟩), (476, ⟨.auto, some (.c (.int .i64 x100))⟩), (480, ⟨.auto, some (.c (.int .u8 x102))⟩), (484, ⟨.auto, some (.c (.int .i64 x104))⟩), (496, ⟨.auto, some (.c (.int .i64 x106))⟩), (497, ⟨.auto, some (.c (.int .i64 x108))⟩), (501, ⟨.auto, some (.c (.int .u8 x110))⟩), (505, ⟨.auto, some (.c (.int .i64 x112))⟩), (517, ⟨.auto, some (.c (.int .i64 x114))⟩), (518, ⟨.auto, some (.c (.int .i64 x116))⟩), (522, ⟨.auto, some (.c (.int .u8 x118))⟩), (526, ⟨.auto, some (.c (.int .i64 x120))⟩), (538, ⟨.auto, some (.c (.int .i64 x122))⟩), (539, ⟨.auto, some (.c (.int .i64 x124))⟩), (543, ⟨.auto, some (.c (.int .u8 x126))⟩), (547, ⟨.auto, some (.c (.int .i64 x128))⟩), (555, ⟨.call [] (.c (.bool (true))) [] [], none⟩), (559, ⟨.call [209] (.aggi .u8 [r18_130, r18_131, r18_132, r18_133, r18_134, r18_135, r18_136, r18_137, r18_138, r18_139, r18_140, r18_141, r18_142, r18_143, r18_144, r18_145]) [] [], none⟩), (561, ⟨.auto, some (.c (.bool (true)))⟩)])
    (cs := [EB ([r18_130, r18_131, r18_132, r18_133, r18_134, r18_135, r18_136, r18_137, r18_138, r18_139, r18_140, r18_141, r18_142, r18_143, r18_144, r18_145] == List.take 16 (List.drop 0 (splice (splice (splice (splice (splice (splice (splice (splice (splice (splice (splice (splice (splice (splice (splice (splice (splice [0, 0, 0, 0, 0, 0, 0, 0, 0, 0, 0, 0, 0, 0, 0, 0] 0 (List.take 16 (List.drop 0 [s0, s1, s2, s3, s4, s5, s6, s7, s8, s9, s10, s11, s12, s13, s14, s15]))) 0 [x6]) 1 [x14]) 2 [x22]) 3 [x30]) 4 [x38]) 5 [x46]) 6 [x54]) 7 [x62]) 8 [x70]) 9 [x78]) 10 [x86]) 11 [x94]) 12 [x102]) 13 [x110]) 14 [x118]) 15 [x126]))) true,
      Contract Try.prog 18 [(.aggi .u8 [1, 0, 0, 0, 0, 0, 0, 0, 0, 0, 0, 0, 0, 0, 0, 0, s0, s1, s2, s3, s4, s5, s6, s7, s8, s9, s10, s11, s12, s13, s14, s15]), (.c (.sl 209 0 0 144 1))] [(209, (.one ⟨true, true, (.ints .u8 [1, 0, 0, 0, 0, 0, 0, 0, 0, 0, 0, 0, 0, 0, 0, 0, 2, 0, 0, 0, 0, 0, 0, 0, 0, 0, 0, 0, 0, 0, 0, 0, 3, 0, 0, 0, 0, 0, 0, 0, 0, 0, 0, 0, 0, 0, 0, 0, 4, 0, 0, 0, 0, 0, 0, 0, 0, 0, 0, 0, 0, 0, 0, 0, 5, 0, 0, 0, 0, 0, 0, 0, 0, 0, 0, 0, 0, 0, 0, 0, 6, 0, 0, 0, 0, 0, 0, 0, 0, 0, 0, 0, 0, 0, 0, 0, 7, 0, 0, 0, 0, 0, 0, 0, 0, 0, 0, 0, 0, 0, 0, 0, 8, 0, 0, 0, 0, 0, 0, 0, 0, 0, 0, 0, 0, 0, 0, 0, 9, 0, 0, 0, 0, 0, 0, 0, 0, 0, 0, 0, 0, 0, 0, 0])⟩))] 8513 (.aggi .u8 [r18_130, r18_131, r18_132, r18_133, r18_134, r18_135, r18_136, r18_137, r18_138, r18_139, r18_140, r18_141, r18_142, r18_143, r18_144, r18_145]) [] [],
      Contract Try.prog 19 [] [] 8449 (.c (.bool (true))) [] [],
      EI .i64 (IntKind.wrap IntKind.i64 (Int.tdiv x124 256)) x128,
      EI .u8 (x124 % 256) x126,
      EI .i64 (IntKind.wrap IntKind.i64 (x120 + x122)) x124,
      EI .i64 (IntKind.wrap IntKind.i64 s15) x122,
      EI .i64 (IntKind.wrap IntKind.i64 (Int.tdiv x116 256)) x120,
      EI .u8 (x116 % 256) x118,
      EI .i64 (IntKind.wrap IntKind.i64 (x112 + x114)) x116,
      EI .i64 (IntKind.wrap IntKind.i64 s14) x114,
      EI .i64 (IntKind.wrap IntKind.i64 (Int.tdiv x108 256)) x112,
      EI .u8 (x108 % 256) x110,
      EI .i64 (IntKind.wrap IntKind.i64 (x104 + x106)) x108,
      EI .i64 (IntKind.wrap IntKind.i64 s13) x106,
      EI .i64 (IntKind.wrap IntKind.i64 (Int.tdiv x100 256)) x104,
      EI .u8 (x100 % 256) x102,
      EI .i64 (IntKind.wrap IntKind.i64 (x96 + x98)) x100,
      EI .i64 (IntKind.wrap IntKind.i64 s12) x98,
      EI .i64 (IntKind.wrap IntKind.i64 (Int.tdiv x92 256)) x96,
      EI .u8 (x92 % 256) x94,
      EI .i64 (IntKind.wrap IntKind.i64 (x88 + x90)) x92,
      EI .i64 (IntKind.wrap IntKind.i64 s11) x90,
      EI .i64 (IntKind.wrap IntKind.i64 (Int.tdiv x84 256)) x88,
      EI .u8 (x84 % 256) x86,
      EI .i64 (IntKind.wrap IntKind.i64 (x80 + x82)) x84,
      EI .i64 (IntKind.wrap IntKind.i64 s10) x82,
      EI .i64 (IntKind.wrap IntKind.i64 (Int.tdiv x76 256)) x80,
      EI .u8 (x76 % 256) x78,
      EI .i64 (IntKind.wrap IntKind.i64 (x72 + x74)) x76,
      EI .i64 (IntKind.wrap IntKind.i64 s9) x74,
      EI .i64 (IntKind.wrap IntKind.i64 (Int.tdiv x68 256)) x72,
      EI .u8 (x68 % 256) x70,
      EI .i64 (IntKind.wrap IntKind.i64 (x64 + x66)) x68,
      EI .i64 (IntKind.wrap IntKind.i64 s8) x66,
      EI .i64 (IntKind.wrap IntKind.i64 (Int.tdiv x60 256)) x64,
      EI .u8 (x60 % 256) x62,
      EI .i64 (IntKind.wrap IntKind.i64 (x56 + x58)) x60,
      EI .i64 (IntKind.wrap IntKind.i64 s7) x58,
      EI .i64 (IntKind.wrap IntKind.i64 (Int.tdiv x52 256)) x56,
      EI .u8 (x52 % 256) x54,
      EI .i64 (IntKind.wrap IntKind.i64 (x48 + x50)) x52,
      EI .i64 (IntKind.wrap IntKind.i64 s6) x50,
      EI .i64 (IntKind.wrap IntKind.i64 (Int.tdiv x44 256)) x48,
      EI .u8 (x44 % 256) x46,
      EI .i64 (IntKind.wrap IntKind.i64 (x40 + x42)) x44,
      EI .i64 (IntKind.wrap IntKind.i64 s5) x42,
      EI .i64 (IntKind.wrap IntKind.i64 (Int.tdiv x36 256)) x40,
      EI .u8 (x36 % 256) x38,
      EI .i64 (IntKind.wrap IntKind.i64 (x32 + x34)) x36,
      EI .i64 (IntKind.wrap IntKind.i64 s4) x34,
      EI .i64 (IntKind.wrap IntKind.i64 (Int.tdiv x28 256)) x32,
      EI .u8 (x28 % 256) x30,
      EI .i64 (IntKind.wrap IntKind.i64 (x24 + x26)) x28,
      EI .i64 (IntKind.wrap IntKind.i64 s3) x26,
      EI .i64 (IntKind.wrap IntKind.i64 (Int.tdiv x20 256)) x24,
      EI .u8 (x20 % 256) x22,
      EI .i64 (IntKind.wrap IntKind.i64 (x16 + x18)) x20,
      EI .i64 (IntKind.wrap IntKind.i64 s2) x18,
      EI .i64 (IntKind.wrap IntKind.i64 (Int.tdiv x12 256)) x16,
      EI .u8 (x12 % 256) x14,
      EI .i64 (IntKind.wrap IntKind.i64 (x8 + x10)) x12,
      EI .i64 (IntKind.wrap IntKind.i64 s1) x10,
      EI .i64 (IntKind.wrap IntKind.i64 (Int.tdiv x4 256)) x8,
      EI .u8 (x4 % 256) x6,
      EI .i64 (IntKind.wrap IntKind.i64 (55 + x2)) x4,
      EI .i64 (IntKind.wrap IntKind.i64 s0) x2,
      Contract Try.prog 21 [(.c (.int .i64 n)), (.c (.int .i64 20))] [] 49 (.c (.int .i64 9)) [] []])
    mixed Try.func7 (by kernel_rfl) (by kernel_rfl) (by kernel_rfl) rfl (by kernel_rfl) ⟨.mk h147, c146.ro [(209, (1, true))] rfl (by kernel_rfl) rfl (by kernel_rfl) rfl rfl _, c129.use (by kernel_rfl) rfl rfl _ _, .mk h127, .mk h125, .mk h123, .mk h121, .mk h119, .mk h117, .mk h115, .mk h113, .mk h111, .mk h109, .mk h107, .mk h105, .mk h103, .mk h101, .mk h99, .mk h97, .mk h95, .mk h93, .mk h91, .mk h89, .mk h87, .mk h85, .mk h83, .mk h81, .mk h79, .mk h77, .mk h75, .mk h73, .mk h71, .mk h69, .mk h67, .mk h65, .mk h63, .mk h61, .mk h59, .mk h57, .mk h55, .mk h53, .mk h51, .mk h49, .mk h47, .mk h45, .mk h43, .mk h41, .mk h39, .mk h37, .mk h35, .mk h33, .mk h31, .mk h29, .mk h27, .mk h25, .mk h23, .mk h21, .mk h19, .mk h17, .mk h15, .mk h13, .mk h11, .mk h9, .mk h7, .mk h5, .mk h3, .mk h1, c0.use (by kernel_rfl) rfl rfl _ _, trivial⟩

end Go.Proofs.Ytokhfkjkeebfpaa.Vm
