/- What functions of the program come to: parts of the walk (Fd). -/
import Derived.Test.YtkjbjgkjplmkhaaDoorFc
import Derived.KernelRfl
import Derived.Test.YtkjbjgkjplmkhaaDoorProg
set_option linter.unusedSimpArgs false
set_option linter.unusedVariables false
namespace Go.Proofs.YtkjbjgkjplmkhaaDoor.Vm
open Go Go.Proofs Go.Proofs.YtkjbjgkjplmkhaaDoor
set_option maxRecDepth 100000
theorem run42 (a b x1 x3 x5 x7 x9 x11 x13 x15 x17 x19 x21 x23 x25 x27 x29 x31 x33 : Int)
    (h0 : (bAnd IntKind.u64 a 4294967295) = x1)
    (h2 : (a / 4294967296) = x3)
    (h4 : (bAnd IntKind.u64 b 4294967295) = x5)
    (h6 : (b / 4294967296) = x7)
    (h8 : (x1 * x5 % 18446744073709551616) = x9)
    (h10 : (x3 * x5 % 18446744073709551616) = x11)
    (h12 : (x9 / 4294967296) = x13)
    (h14 : ((x11 + x13) % 18446744073709551616) = x15)
    (h16 : (bAnd IntKind.u64 x15 4294967295) = x17)
    (h18 : (x15 / 4294967296) = x19)
    (h20 : (x1 * x7 % 18446744073709551616) = x21)
    (h22 : ((x17 + x21) % 18446744073709551616) = x23)
    (h24 : (x3 * x7 % 18446744073709551616) = x25)
    (h26 : ((x25 + x19) % 18446744073709551616) = x27)
    (h28 : (x23 / 4294967296) = x29)
    (h30 : ((x27 + x29) % 18446744073709551616) = x31)
    (h32 : (a * b % 18446744073709551616) = x33) :
    PureF Tryd.prog 46 [(.c (.int .u64 a)), (.c (.int .u64 b))] (.tup [(.c (.int .u64 x31)), (.c (.int .u64 x33))]) :=
  Contract0.of_frun (fn := Tryd.f46) (c := bodyOf Tryd.f46) (fuel := 300) (k := kOf Tryd.prog Tryd.f46) (outs := []) (hs := [(3, ⟨.auto, some (.c (.int .u64 x1))⟩), (6, ⟨.auto, some (.c (.int .u64 x3))⟩), (9, ⟨.auto, some (.c (.int .u64 x5))⟩), (12, ⟨.auto, some (.c (.int .u64 x7))⟩), (16, ⟨.auto, some (.c (.int .u64 x9))⟩), (20, ⟨.auto, some (.c (.int .u64 x11))⟩), (22, ⟨.auto, some (.c (.int .u64 x13))⟩), (23, ⟨.auto, some (.c (.int .u64 x15))⟩), (26, ⟨.auto, some (.c (.int .u64 x17))⟩), (29, ⟨.auto, some (.c (.int .u64 x19))⟩), (34, ⟨.auto, some (.c (.int .u64 x21))⟩), (35, ⟨.auto, some (.c (.int .u64 x23))⟩), (39, ⟨.auto, some (.c (.int .u64 x25))⟩), (41, ⟨.auto, some (.c (.int .u64 x27))⟩), (43, ⟨.auto, some (.c (.int .u64 x29))⟩), (44, ⟨.auto, some (.c (.int .u64 x31))⟩), (48, ⟨.auto, some (.c (.int .u64 x33))⟩)])
    (cs := [EI .u64 (a * b % 18446744073709551616) x33,
      EI .u64 ((x27 + x29) % 18446744073709551616) x31,
      EI .u64 (x23 / 4294967296) x29,
      EI .u64 ((x25 + x19) % 18446744073709551616) x27,
      EI .u64 (x3 * x7 % 18446744073709551616) x25,
      EI .u64 ((x17 + x21) % 18446744073709551616) x23,
      EI .u64 (x1 * x7 % 18446744073709551616) x21,
      EI .u64 (x15 / 4294967296) x19,
      EI .u64 (bAnd IntKind.u64 x15 4294967295) x17,
      EI .u64 ((x11 + x13) % 18446744073709551616) x15,
      EI .u64 (x9 / 4294967296) x13,
      EI .u64 (x3 * x5 % 18446744073709551616) x11,
      EI .u64 (x1 * x5 % 18446744073709551616) x9,
      EI .u64 (b / 4294967296) x7,
      EI .u64 (bAnd IntKind.u64 b 4294967295) x5,
      EI .u64 (a / 4294967296) x3,
      EI .u64 (bAnd IntKind.u64 a 4294967295) x1])
    mixed Tryd.func46 (by kernel_rfl) (by kernel_rfl) (by kernel_rfl) rfl (by kernel_rfl) ⟨.mk h32, .mk h30, .mk h28, .mk h26, .mk h24, .mk h22, .mk h20, .mk h18, .mk h16, .mk h14, .mk h12, .mk h10, .mk h8, .mk h6, .mk h4, .mk h2, .mk h0, trivial⟩

theorem run38 (w a b r42_0 r42_1 x4 x7 x9 x11 x13 x15 : Int)
    (c2 : PureF Tryd.prog 46 [(.c (.int .u64 a)), (.c (.int .u64 b))] (.tup [(.c (.int .u64 r42_0)), (.c (.int .u64 r42_1))]))
    (h3 : (List.getD (W.wd w) 1 0) = x4)
    (c5 : ((0 : Int) ≤ x4 ∧ x4 < (18446744073709551616 : Int) ∧ (0 : Int) ≤ r42_1 ∧ r42_1 < (18446744073709551616 : Int) ∧ (0 : Int) ≤ (0 : Int) ∧ (0 : Int) ≤ (1 : Int)))
    (h6 : ((x4 + r42_1 + 0) % 18446744073709551616) = x7)
    (h8 : ((x4 + r42_1 + 0) / 18446744073709551616) = x9)
    (h10 : (List.getD (W.wd w) 0 0) = x11)
    (h12 : ((x11 + r42_0) % 18446744073709551616) = x13)
    (h14 : ((x13 + x9) % 18446744073709551616) = x15) :
    PureF Tryd.prog 38 [(.aggi .u64 (W.wd w)), (.c (.int .u64 a)), (.c (.int .u64 b))] (.aggi .u64 [x15, x7]) :=
  Contract0.of_frun (fn := Tryd.f38) (c := bodyOf Tryd.f38) (fuel := 300) (k := kOf Tryd.prog Tryd.f38) (outs := []) (hs := [(4, ⟨.call [] (.tup [(.c (.int .u64 r42_0)), (.c (.int .u64 r42_1))]) [] [], none⟩), (11, ⟨.auto, some (.c (.int .u64 x4))⟩), (13, ⟨.ask, none⟩), (15, ⟨.auto, some (.c (.int .u64 x7))⟩), (16, ⟨.auto, some (.c (.int .u64 x9))⟩), (20, ⟨.auto, some (.c (.int .u64 x11))⟩), (22, ⟨.auto, some (.c (.int .u64 x13))⟩), (24, ⟨.auto, some (.c (.int .u64 x15))⟩)])
    (cs := [EI .u64 ((x13 + x9) % 18446744073709551616) x15,
      EI .u64 ((x11 + r42_0) % 18446744073709551616) x13,
      EI .u64 (List.getD (W.wd w) 0 0) x11,
      EI .u64 ((x4 + r42_1 + 0) / 18446744073709551616) x9,
      EI .u64 ((x4 + r42_1 + 0) % 18446744073709551616) x7,
      ((0 : Int) ≤ x4 ∧ x4 < (18446744073709551616 : Int) ∧ (0 : Int) ≤ r42_1 ∧ r42_1 < (18446744073709551616 : Int) ∧ (0 : Int) ≤ (0 : Int) ∧ (0 : Int) ≤ (1 : Int)),
      EI .u64 (List.getD (W.wd w) 1 0) x4,
      Contract Tryd.prog 46 [(.c (.int .u64 a)), (.c (.int .u64 b))] [] 65 (.tup [(.c (.int .u64 r42_0)), (.c (.int .u64 r42_1))]) [] []])
    mixed Tryd.func38 (by kernel_rfl) (by kernel_rfl) (by kernel_rfl) rfl (by kernel_rfl) ⟨.mk h14, .mk h12, .mk h10, .mk h8, .mk h6, c5, .mk h3, c2.use (by kernel_rfl) rfl rfl _ _, trivial⟩

theorem run21 (a0 a1 a2 a3 a4 b0 b1 b2 b3 b4 r38_0w r38_2w r38_4w r38_6w r38_8w r38_10w r38_12w r38_14w r38_16w x19 r38_20w r38_22w r38_24w r38_26w x29 r38_30w x33 r38_34w r38_36w r38_38w x41 r38_42w x45 r38_46w x49 r38_50w r38_52w x55 r38_56w x59 r38_60w x63 r38_64w x67 r38_68w x71 x73 x75 x77 x79 x81 x83 x85 x87 x89 x91 x93 x95 x97 x99 x101 x103 x105 x107 x109 x111 x113 x115 x117 x119 x121 x123 x125 x127 x129 x131 x133 x135 x137 x139 x141 x143 x145 x147 x149 x151 r36_152 r36_153 r36_154 r36_155 r36_156 : Int)
    (c1 : PureF Tryd.prog 38 [(.aggi .u64 [0, 0]), (.c (.int .u64 a0)), (.c (.int .u64 b0))] (.aggi .u64 (W.wd r38_0w)))
    (c3 : PureF Tryd.prog 38 [(.aggi .u64 [0, 0]), (.c (.int .u64 a0)), (.c (.int .u64 b1))] (.aggi .u64 (W.wd r38_2w)))
    (c5 : PureF Tryd.prog 38 [(.aggi .u64 [0, 0]), (.c (.int .u64 a0)), (.c (.int .u64 b2))] (.aggi .u64 (W.wd r38_4w)))
    (c7 : PureF Tryd.prog 38 [(.aggi .u64 [0, 0]), (.c (.int .u64 a0)), (.c (.int .u64 b3))] (.aggi .u64 (W.wd r38_6w)))
    (c9 : PureF Tryd.prog 38 [(.aggi .u64 [0, 0]), (.c (.int .u64 a0)), (.c (.int .u64 b4))] (.aggi .u64 (W.wd r38_8w)))
    (c11 : PureF Tryd.prog 38 [(.aggi .u64 [(r38_2w / 18446744073709551616), (r38_2w % 18446744073709551616)]), (.c (.int .u64 a1)), (.c (.int .u64 b0))] (.aggi .u64 (W.wd r38_10w)))
    (c13 : PureF Tryd.prog 38 [(.aggi .u64 [(r38_4w / 18446744073709551616), (r38_4w % 18446744073709551616)]), (.c (.int .u64 a1)), (.c (.int .u64 b1))] (.aggi .u64 (W.wd r38_12w)))
    (c15 : PureF Tryd.prog 38 [(.aggi .u64 [(r38_6w / 18446744073709551616), (r38_6w % 18446744073709551616)]), (.c (.int .u64 a1)), (.c (.int .u64 b2))] (.aggi .u64 (W.wd r38_14w)))
    (c17 : PureF Tryd.prog 38 [(.aggi .u64 [(r38_8w / 18446744073709551616), (r38_8w % 18446744073709551616)]), (.c (.int .u64 a1)), (.c (.int .u64 b3))] (.aggi .u64 (W.wd r38_16w)))
    (h18 : (19 * a1 % 18446744073709551616) = x19)
    (c21 : PureF Tryd.prog 38 [(.aggi .u64 [(r38_0w / 18446744073709551616), (r38_0w % 18446744073709551616)]), (.c (.int .u64 x19)), (.c (.int .u64 b4))] (.aggi .u64 (W.wd r38_20w)))
    (c23 : PureF Tryd.prog 38 [(.aggi .u64 [(r38_12w / 18446744073709551616), (r38_12w % 18446744073709551616)]), (.c (.int .u64 a2)), (.c (.int .u64 b0))] (.aggi .u64 (W.wd r38_22w)))
    (c25 : PureF Tryd.prog 38 [(.aggi .u64 [(r38_14w / 18446744073709551616), (r38_14w % 18446744073709551616)]), (.c (.int .u64 a2)), (.c (.int .u64 b1))] (.aggi .u64 (W.wd r38_24w)))
    (c27 : PureF Tryd.prog 38 [(.aggi .u64 [(r38_16w / 18446744073709551616), (r38_16w % 18446744073709551616)]), (.c (.int .u64 a2)), (.c (.int .u64 b2))] (.aggi .u64 (W.wd r38_26w)))
    (h28 : (19 * a2 % 18446744073709551616) = x29)
    (c31 : PureF Tryd.prog 38 [(.aggi .u64 [(r38_20w / 18446744073709551616), (r38_20w % 18446744073709551616)]), (.c (.int .u64 x29)), (.c (.int .u64 b3))] (.aggi .u64 (W.wd r38_30w)))
    (h32 : (19 * a2 % 18446744073709551616) = x33)
    (c35 : PureF Tryd.prog 38 [(.aggi .u64 [(r38_10w / 18446744073709551616), (r38_10w % 18446744073709551616)]), (.c (.int .u64 x33)), (.c (.int .u64 b4))] (.aggi .u64 (W.wd r38_34w)))
    (c37 : PureF Tryd.prog 38 [(.aggi .u64 [(r38_24w / 18446744073709551616), (r38_24w % 18446744073709551616)]), (.c (.int .u64 a3)), (.c (.int .u64 b0))] (.aggi .u64 (W.wd r38_36w)))
    (c39 : PureF Tryd.prog 38 [(.aggi .u64 [(r38_26w / 18446744073709551616), (r38_26w % 18446744073709551616)]), (.c (.int .u64 a3)), (.c (.int .u64 b1))] (.aggi .u64 (W.wd r38_38w)))
    (h40 : (19 * a3 % 18446744073709551616) = x41)
    (c43 : PureF Tryd.prog 38 [(.aggi .u64 [(r38_30w / 18446744073709551616), (r38_30w % 18446744073709551616)]), (.c (.int .u64 x41)), (.c (.int .u64 b2))] (.aggi .u64 (W.wd r38_42w)))
    (h44 : (19 * a3 % 18446744073709551616) = x45)
    (c47 : PureF Tryd.prog 38 [(.aggi .u64 [(r38_34w / 18446744073709551616), (r38_34w % 18446744073709551616)]), (.c (.int .u64 x45)), (.c (.int .u64 b3))] (.aggi .u64 (W.wd r38_46w)))
    (h48 : (19 * a3 % 18446744073709551616) = x49)
    (c51 : PureF Tryd.prog 38 [(.aggi .u64 [(r38_22w / 18446744073709551616), (r38_22w % 18446744073709551616)]), (.c (.int .u64 x49)), (.c (.int .u64 b4))] (.aggi .u64 (W.wd r38_50w)))
    (c53 : PureF Tryd.prog 38 [(.aggi .u64 [(r38_38w / 18446744073709551616), (r38_38w % 18446744073709551616)]), (.c (.int .u64 a4)), (.c (.int .u64 b0))] (.aggi .u64 (W.wd r38_52w)))
    (h54 : (19 * a4 % 18446744073709551616) = x55)
    (c57 : PureF Tryd.prog 38 [(.aggi .u64 [(r38_42w / 18446744073709551616), (r38_42w % 18446744073709551616)]), (.c (.int .u64 x55)), (.c (.int .u64 b1))] (.aggi .u64 (W.wd r38_56w)))
    (h58 : (19 * a4 % 18446744073709551616) = x59)
    (c61 : PureF Tryd.prog 38 [(.aggi .u64 [(r38_46w / 18446744073709551616), (r38_46w % 18446744073709551616)]), (.c (.int .u64 x59)), (.c (.int .u64 b2))] (.aggi .u64 (W.wd r38_60w)))
    (h62 : (19 * a4 % 18446744073709551616) = x63)
    (c65 : PureF Tryd.prog 38 [(.aggi .u64 [(r38_50w / 18446744073709551616), (r38_50w % 18446744073709551616)]), (.c (.int .u64 x63)), (.c (.int .u64 b3))] (.aggi .u64 (W.wd r38_64w)))
    (h66 : (19 * a4 % 18446744073709551616) = x67)
    (c69 : PureF Tryd.prog 38 [(.aggi .u64 [(r38_36w / 18446744073709551616), (r38_36w % 18446744073709551616)]), (.c (.int .u64 x67)), (.c (.int .u64 b4))] (.aggi .u64 (W.wd r38_68w)))
    (h70 : (r38_56w / 18446744073709551616) = x71)
    (h72 : (x71 * 8192 % 18446744073709551616) = x73)
    (h74 : (r38_56w % 18446744073709551616) = x75)
    (h76 : (x75 / 2251799813685248) = x77)
    (h78 : (bOr IntKind.u64 x73 x77) = x79)
    (h80 : (r38_56w % 18446744073709551616) = x81)
    (h82 : (bAnd IntKind.u64 x81 2251799813685247) = x83)
    (h84 : (r38_60w / 18446744073709551616) = x85)
    (h86 : (x85 * 8192 % 18446744073709551616) = x87)
    (h88 : (r38_60w % 18446744073709551616) = x89)
    (h90 : (x89 / 2251799813685248) = x91)
    (h92 : (bOr IntKind.u64 x87 x91) = x93)
    (h94 : (r38_60w % 18446744073709551616) = x95)
    (h96 : (bAnd IntKind.u64 x95 2251799813685247) = x97)
    (h98 : (r38_64w / 18446744073709551616) = x99)
    (h100 : (x99 * 8192 % 18446744073709551616) = x101)
    (h102 : (r38_64w % 18446744073709551616) = x103)
    (h104 : (x103 / 2251799813685248) = x105)
    (h106 : (bOr IntKind.u64 x101 x105) = x107)
    (h108 : (r38_64w % 18446744073709551616) = x109)
    (h110 : (bAnd IntKind.u64 x109 2251799813685247) = x111)
    (h112 : (r38_68w / 18446744073709551616) = x113)
    (h114 : (x113 * 8192 % 18446744073709551616) = x115)
    (h116 : (r38_68w % 18446744073709551616) = x117)
    (h118 : (x117 / 2251799813685248) = x119)
    (h120 : (bOr IntKind.u64 x115 x119) = x121)
    (h122 : (r38_68w % 18446744073709551616) = x123)
    (h124 : (bAnd IntKind.u64 x123 2251799813685247) = x125)
    (h126 : (r38_52w / 18446744073709551616) = x127)
    (h128 : (x127 * 8192 % 18446744073709551616) = x129)
    (h130 : (r38_52w % 18446744073709551616) = x131)
    (h132 : (x131 / 2251799813685248) = x133)
    (h134 : (bOr IntKind.u64 x129 x133) = x135)
    (h136 : (r38_52w % 18446744073709551616) = x137)
    (h138 : (bAnd IntKind.u64 x137 2251799813685247) = x139)
    (h140 : (19 * x135 % 18446744073709551616) = x141)
    (h142 : ((x83 + x141) % 18446744073709551616) = x143)
    (h144 : ((x97 + x79) % 18446744073709551616) = x145)
    (h146 : ((x111 + x93) % 18446744073709551616) = x147)
    (h148 : ((x125 + x107) % 18446744073709551616) = x149)
    (h150 : ((x139 + x121) % 18446744073709551616) = x151)
    (c157 : PureF Tryd.prog 39 [(.aggi .u64 [x143, x145, x147, x149, x151])] (.aggi .u64 [r36_152, r36_153, r36_154, r36_155, r36_156])) :
    PureF Tryd.prog 11 [(.aggi .u64 [a0, a1, a2, a3, a4]), (.aggi .u64 [b0, b1, b2, b3, b4])] (.aggi .u64 [r36_152, r36_153, r36_154, r36_155, r36_156]) :=
  Contract0.of_frun (fn := Tryd.f11) (c := bodyOf Tryd.f11) (fuel := 300) (k := kOf Tryd.prog Tryd.f11) (outs := []) (hs := [(37, ⟨.call [] (.aggi .u64 (W.wd r38_0w)) [] [], none⟩), (63, ⟨.call [] (.aggi .u64 (W.wd r38_2w)) [] [], none⟩), (89, ⟨.call [] (.aggi .u64 (W.wd r38_4w)) [] [], none⟩), (115, ⟨.call [] (.aggi .u64 (W.wd r38_6w)) [] [], none⟩), (141, ⟨.call [] (.aggi .u64 (W.wd r38_8w)) [] [], none⟩), (180, ⟨.call [] (.aggi .u64 (W.wd r38_10w)) [] [], none⟩), (206, ⟨.call [] (.aggi .u64 (W.wd r38_12w)) [] [], none⟩), (232, ⟨.call [] (.aggi .u64 (W.wd r38_14w)) [] [], none⟩), (258, ⟨.call [] (.aggi .u64 (W.wd r38_16w)) [] [], none⟩), (285, ⟨.auto, some (.c (.int .u64 x19))⟩), (287, ⟨.call [] (.aggi .u64 (W.wd r38_20w)) [] [], none⟩), (326, ⟨.call [] (.aggi .u64 (W.wd r38_22w)) [] [], none⟩), (352, ⟨.call [] (.aggi .u64 (W.wd r38_24w)) [] [], none⟩), (378, ⟨.call [] (.aggi .u64 (W.wd r38_26w)) [] [], none⟩), (405, ⟨.auto, some (.c (.int .u64 x29))⟩), (407, ⟨.call [] (.aggi .u64 (W.wd r38_30w)) [] [], none⟩), (434, ⟨.auto, some (.c (.int .u64 x33))⟩), (436, ⟨.call [] (.aggi .u64 (W.wd r38_34w)) [] [], none⟩), (475, ⟨.call [] (.aggi .u64 (W.wd r38_36w)) [] [], none⟩), (501, ⟨.call [] (.aggi .u64 (W.wd r38_38w)) [] [], none⟩), (528, ⟨.auto, some (.c (.int .u64 x41))⟩), (530, ⟨.call [] (.aggi .u64 (W.wd r38_42w)) [] [], none⟩), (557, ⟨.auto, some (.c (.int .u64 x45))⟩), (559, ⟨.call [] (.aggi .u64 (W.wd r38_46w)) [] [], none⟩), (586, ⟨.auto, some (.c (.int .u64 x49))⟩), (588, ⟨.call [] (.aggi .u64 (W.wd r38_50w)) [] [], none⟩), (627, ⟨.call [] (.aggi .u64 (W.wd r38_52w)) [] [], none⟩), (654, ⟨.auto, some (.c (.int .u64 x55))⟩), (656, ⟨.call [] (.aggi .u64 (W.wd r38_56w)) [] [], none⟩), (683, ⟨.auto, some (.c (.int .u64 x59))⟩), (685, ⟨.call [] (.aggi .u64 (W.wd r38_60w)) [] [], none⟩), (712, ⟨.auto, some (.c (.int .u64 x63))⟩), (714, ⟨.call [] (.aggi .u64 (W.wd r38_64w)) [] [], none⟩), (741, ⟨.auto, some (.c (.int .u64 x67))⟩), (743, ⟨.call [] (.aggi .u64 (W.wd r38_68w)) [] [], none⟩), (767, ⟨.auto, some (.c (.int .u64 x71))⟩), (768, ⟨.auto, some (.c (.int .u64 x73))⟩), (770, ⟨.auto, some (.c (.int .u64 x75))⟩), (771, ⟨.auto, some (.c (.int .u64 x77))⟩), (772, ⟨.auto, some (.c (.int .u64 x79))⟩), (777, ⟨.auto, some (.c (.int .u64 x81))⟩), (778, ⟨.auto, some (.c (.int .u64 x83))⟩), (793, ⟨.auto, some (.c (.int .u64 x85))⟩), (794, ⟨.auto, some (.c (.int .u64 x87))⟩), (796, ⟨.auto, some (.c (.int .u64 x89))⟩), (797, ⟨.auto, some (.c (.int .u64 x91))⟩), (798, ⟨.auto, some (.c (.int .u64 x93))⟩), (803, ⟨.auto, some (.c (.int .u64 x95))⟩), (804, ⟨.auto, some (.c (.int .u64 x97))⟩), (819, ⟨.auto, some (.c (.int .u64 x99))⟩), (820, ⟨.auto, some (.c (.int .u64 x101))⟩), (822, ⟨.auto, some (.c (.int .u64 x103))⟩), (823, ⟨.auto, some (.c (.int .u64 x105))⟩), (824, ⟨.auto, some (.c (.int .u64 x107))⟩), (829, ⟨.auto, some (.c (.int .u64 x109))⟩), (830, ⟨.auto, some (.c (.int .u64 x111))⟩), (845, ⟨.auto, some (.c (.int .u64 x113))⟩), (846, ⟨.auto, some (.c (.int .u64 x115))⟩), (848, ⟨.auto, some (.c (.int .u64 x117))⟩), (849, ⟨.auto, some (.c (.int .u64 x119))⟩), (850, ⟨.auto, some (.c (.int .u64 x121))⟩), (855, ⟨.auto, some (.c (.int .u64 x123))⟩), (856, ⟨.auto, some (.c (.int .u64 x125))⟩), (871, ⟨.auto, some (.c (.int .u64 x127))⟩), (872, ⟨.auto, some (.c (.int .u64 x129))⟩), (874, ⟨.auto, some (.c (.int .u64 x131))⟩), (875, ⟨.auto, some (.c (.int .u64 x133))⟩), (876, ⟨.auto, some (.c (.int .u64 x135))⟩), (881, ⟨.auto, some (.c (.int .u64 x137))⟩), (882, ⟨.auto, some (.c (.int .u64 x139))⟩), (895, ⟨.auto, some (.c (.int .u64 x141))⟩), (896, ⟨.auto, some (.c (.int .u64 x143))⟩), (912, ⟨.auto, some (.c (.int .u64 x145))⟩), (930, ⟨.auto, some (.c (.int .u64 x147))⟩), (948, ⟨.auto, some (.c (.int .u64 x149))⟩), (966, ⟨.auto, some (.c (.int .u64 x151))⟩), (977, ⟨.call [] (.aggi .u64 [r36_152, r36_153, r36_154, r36_155, r36_156]) [] [], none⟩)])
    (cs := [Contract Tryd.prog 39 [(.aggi .u64 [x143, x145, x147, x149, x151])] [] 14481 (.aggi .u64 [r36_152, r36_153, r36_154, r36_155, r36_156]) [] [],
      EI .u64 ((x139 + x121) % 18446744073709551616) x151,
      EI .u64 ((x125 + x107) % 18446744073709551616) x149,
      EI .u64 ((x111 + x93) % 18446744073709551616) x147,
      EI .u64 ((x97 + x79) % 18446744073709551616) x145,
      EI .u64 ((x83 + x141) % 18446744073709551616) x143,
      EI .u64 (19 * x135 % 18446744073709551616) x141,
      EI .u64 (bAnd IntKind.u64 x137 2251799813685247) x139,
      EI .u64 (r38_52w % 18446744073709551616) x137,
      EI .u64 (bOr IntKind.u64 x129 x133) x135,
      EI .u64 (x131 / 2251799813685248) x133,
      EI .u64 (r38_52w % 18446744073709551616) x131,
      EI .u64 (x127 * 8192 % 18446744073709551616) x129,
      EI .u64 (r38_52w / 18446744073709551616) x127,
      EI .u64 (bAnd IntKind.u64 x123 2251799813685247) x125,
      EI .u64 (r38_68w % 18446744073709551616) x123,
      EI .u64 (bOr IntKind.u64 x115 x119) x121,
      EI .u64 (x117 / 2251799813685248) x119,
      EI .u64 (r38_68w % 18446744073709551616) x117,
      EI .u64 (x113 * 8192 % 18446744073709551616) x115,
      EI .u64 (r38_68w / 18446744073709551616) x113,
      EI .u64 (bAnd IntKind.u64 x109 2251799813685247) x111,
      EI .u64 (r38_64w % 18446744073709551616) x109,
      EI .u64 (bOr IntKind.u64 x101 x105) x107,
      EI .u64 (x103 / 2251799813685248) x105,
      EI .u64 (r38_64w % 18446744073709551616) x103,
      EI .u64 (x99 * 8192 % 18446744073709551616) x101,
      EI .u64 (r38_64w / 18446744073709551616) x99,
      EI .u64 (bAnd IntKind.u64 x95 2251799813685247) x97,
      EI .u64 (r38_60w % 18446744073709551616) x95,
      EI .u64 (bOr IntKind.u64 x87 x91) x93,
      EI .u64 (x89 / 2251799813685248) x91,
      EI .u64 (r38_60w % 18446744073709551616) x89,
      EI .u64 (x85 * 8192 % 18446744073709551616) x87,
      EI .u64 (r38_60w / 18446744073709551616) x85,
      EI .u64 (bAnd IntKind.u64 x81 2251799813685247) x83,
      EI .u64 (r38_56w % 18446744073709551616) x81,
      EI .u64 (bOr IntKind.u64 x73 x77) x79,
      EI .u64 (x75 / 2251799813685248) x77,
      EI .u64 (r38_56w % 18446744073709551616) x75,
      EI .u64 (x71 * 8192 % 18446744073709551616) x73,
      EI .u64 (r38_56w / 18446744073709551616) x71,
      Contract Tryd.prog 38 [(.aggi .u64 [(r38_36w / 18446744073709551616), (r38_36w % 18446744073709551616)]), (.c (.int .u64 x67)), (.c (.int .u64 b4))] [] 10945 (.aggi .u64 (W.wd r38_68w)) [] [],
      EI .u64 (19 * a4 % 18446744073709551616) x67,
      Contract Tryd.prog 38 [(.aggi .u64 [(r38_50w / 18446744073709551616), (r38_50w % 18446744073709551616)]), (.c (.int .u64 x63)), (.c (.int .u64 b3))] [] 10513 (.aggi .u64 (W.wd r38_64w)) [] [],
      EI .u64 (19 * a4 % 18446744073709551616) x63,
      Contract Tryd.prog 38 [(.aggi .u64 [(r38_46w / 18446744073709551616), (r38_46w % 18446744073709551616)]), (.c (.int .u64 x59)), (.c (.int .u64 b2))] [] 10081 (.aggi .u64 (W.wd r38_60w)) [] [],
      EI .u64 (19 * a4 % 18446744073709551616) x59,
      Contract Tryd.prog 38 [(.aggi .u64 [(r38_42w / 18446744073709551616), (r38_42w % 18446744073709551616)]), (.c (.int .u64 x55)), (.c (.int .u64 b1))] [] 9649 (.aggi .u64 (W.wd r38_56w)) [] [],
      EI .u64 (19 * a4 % 18446744073709551616) x55,
      Contract Tryd.prog 38 [(.aggi .u64 [(r38_38w / 18446744073709551616), (r38_38w % 18446744073709551616)]), (.c (.int .u64 a4)), (.c (.int .u64 b0))] [] 9217 (.aggi .u64 (W.wd r38_52w)) [] [],
      Contract Tryd.prog 38 [(.aggi .u64 [(r38_22w / 18446744073709551616), (r38_22w % 18446744073709551616)]), (.c (.int .u64 x49)), (.c (.int .u64 b4))] [] 8657 (.aggi .u64 (W.wd r38_50w)) [] [],
      EI .u64 (19 * a3 % 18446744073709551616) x49,
      Contract Tryd.prog 38 [(.aggi .u64 [(r38_34w / 18446744073709551616), (r38_34w % 18446744073709551616)]), (.c (.int .u64 x45)), (.c (.int .u64 b3))] [] 8225 (.aggi .u64 (W.wd r38_46w)) [] [],
      EI .u64 (19 * a3 % 18446744073709551616) x45,
      Contract Tryd.prog 38 [(.aggi .u64 [(r38_30w / 18446744073709551616), (r38_30w % 18446744073709551616)]), (.c (.int .u64 x41)), (.c (.int .u64 b2))] [] 7793 (.aggi .u64 (W.wd r38_42w)) [] [],
      EI .u64 (19 * a3 % 18446744073709551616) x41,
      Contract Tryd.prog 38 [(.aggi .u64 [(r38_26w / 18446744073709551616), (r38_26w % 18446744073709551616)]), (.c (.int .u64 a3)), (.c (.int .u64 b1))] [] 7361 (.aggi .u64 (W.wd r38_38w)) [] [],
      Contract Tryd.prog 38 [(.aggi .u64 [(r38_24w / 18446744073709551616), (r38_24w % 18446744073709551616)]), (.c (.int .u64 a3)), (.c (.int .u64 b0))] [] 6977 (.aggi .u64 (W.wd r38_36w)) [] [],
      Contract Tryd.prog 38 [(.aggi .u64 [(r38_10w / 18446744073709551616), (r38_10w % 18446744073709551616)]), (.c (.int .u64 x33)), (.c (.int .u64 b4))] [] 6417 (.aggi .u64 (W.wd r38_34w)) [] [],
      EI .u64 (19 * a2 % 18446744073709551616) x33,
      Contract Tryd.prog 38 [(.aggi .u64 [(r38_20w / 18446744073709551616), (r38_20w % 18446744073709551616)]), (.c (.int .u64 x29)), (.c (.int .u64 b3))] [] 5985 (.aggi .u64 (W.wd r38_30w)) [] [],
      EI .u64 (19 * a2 % 18446744073709551616) x29,
      Contract Tryd.prog 38 [(.aggi .u64 [(r38_16w / 18446744073709551616), (r38_16w % 18446744073709551616)]), (.c (.int .u64 a2)), (.c (.int .u64 b2))] [] 5553 (.aggi .u64 (W.wd r38_26w)) [] [],
      Contract Tryd.prog 38 [(.aggi .u64 [(r38_14w / 18446744073709551616), (r38_14w % 18446744073709551616)]), (.c (.int .u64 a2)), (.c (.int .u64 b1))] [] 5169 (.aggi .u64 (W.wd r38_24w)) [] [],
      Contract Tryd.prog 38 [(.aggi .u64 [(r38_12w / 18446744073709551616), (r38_12w % 18446744073709551616)]), (.c (.int .u64 a2)), (.c (.int .u64 b0))] [] 4785 (.aggi .u64 (W.wd r38_22w)) [] [],
      Contract Tryd.prog 38 [(.aggi .u64 [(r38_0w / 18446744073709551616), (r38_0w % 18446744073709551616)]), (.c (.int .u64 x19)), (.c (.int .u64 b4))] [] 4225 (.aggi .u64 (W.wd r38_20w)) [] [],
      EI .u64 (19 * a1 % 18446744073709551616) x19,
      Contract Tryd.prog 38 [(.aggi .u64 [(r38_8w / 18446744073709551616), (r38_8w % 18446744073709551616)]), (.c (.int .u64 a1)), (.c (.int .u64 b3))] [] 3793 (.aggi .u64 (W.wd r38_16w)) [] [],
      Contract Tryd.prog 38 [(.aggi .u64 [(r38_6w / 18446744073709551616), (r38_6w % 18446744073709551616)]), (.c (.int .u64 a1)), (.c (.int .u64 b2))] [] 3409 (.aggi .u64 (W.wd r38_14w)) [] [],
      Contract Tryd.prog 38 [(.aggi .u64 [(r38_4w / 18446744073709551616), (r38_4w % 18446744073709551616)]), (.c (.int .u64 a1)), (.c (.int .u64 b1))] [] 3025 (.aggi .u64 (W.wd r38_12w)) [] [],
      Contract Tryd.prog 38 [(.aggi .u64 [(r38_2w / 18446744073709551616), (r38_2w % 18446744073709551616)]), (.c (.int .u64 a1)), (.c (.int .u64 b0))] [] 2641 (.aggi .u64 (W.wd r38_10w)) [] [],
      Contract Tryd.prog 38 [(.aggi .u64 [0, 0]), (.c (.int .u64 a0)), (.c (.int .u64 b4))] [] 2081 (.aggi .u64 (W.wd r38_8w)) [] [],
      Contract Tryd.prog 38 [(.aggi .u64 [0, 0]), (.c (.int .u64 a0)), (.c (.int .u64 b3))] [] 1697 (.aggi .u64 (W.wd r38_6w)) [] [],
      Contract Tryd.prog 38 [(.aggi .u64 [0, 0]), (.c (.int .u64 a0)), (.c (.int .u64 b2))] [] 1313 (.aggi .u64 (W.wd r38_4w)) [] [],
      Contract Tryd.prog 38 [(.aggi .u64 [0, 0]), (.c (.int .u64 a0)), (.c (.int .u64 b1))] [] 929 (.aggi .u64 (W.wd r38_2w)) [] [],
      Contract Tryd.prog 38 [(.aggi .u64 [0, 0]), (.c (.int .u64 a0)), (.c (.int .u64 b0))] [] 545 (.aggi .u64 (W.wd r38_0w)) [] []])
    mixed Tryd.func11 (by kernel_rfl) (by kernel_rfl) (by kernel_rfl) rfl (by kernel_rfl) ⟨c157.use (by kernel_rfl) rfl rfl _ _, .mk h150, .mk h148, .mk h146, .mk h144, .mk h142, .mk h140, .mk h138, .mk h136, .mk h134, .mk h132, .mk h130, .mk h128, .mk h126, .mk h124, .mk h122, .mk h120, .mk h118, .mk h116, .mk h114, .mk h112, .mk h110, .mk h108, .mk h106, .mk h104, .mk h102, .mk h100, .mk h98, .mk h96, .mk h94, .mk h92, .mk h90, .mk h88, .mk h86, .mk h84, .mk h82, .mk h80, .mk h78, .mk h76, .mk h74, .mk h72, .mk h70, c69.use (by kernel_rfl) rfl rfl _ _, .mk h66, c65.use (by kernel_rfl) rfl rfl _ _, .mk h62, c61.use (by kernel_rfl) rfl rfl _ _, .mk h58, c57.use (by kernel_rfl) rfl rfl _ _, .mk h54, c53.use (by kernel_rfl) rfl rfl _ _, c51.use (by kernel_rfl) rfl rfl _ _, .mk h48, c47.use (by kernel_rfl) rfl rfl _ _, .mk h44, c43.use (by kernel_rfl) rfl rfl _ _, .mk h40, c39.use (by kernel_rfl) rfl rfl _ _, c37.use (by kernel_rfl) rfl rfl _ _, c35.use (by kernel_rfl) rfl rfl _ _, .mk h32, c31.use (by kernel_rfl) rfl rfl _ _, .mk h28, c27.use (by kernel_rfl) rfl rfl _ _, c25.use (by kernel_rfl) rfl rfl _ _, c23.use (by kernel_rfl) rfl rfl _ _, c21.use (by kernel_rfl) rfl rfl _ _, .mk h18, c17.use (by kernel_rfl) rfl rfl _ _, c15.use (by kernel_rfl) rfl rfl _ _, c13.use (by kernel_rfl) rfl rfl _ _, c11.use (by kernel_rfl) rfl rfl _ _, c9.use (by kernel_rfl) rfl rfl _ _, c7.use (by kernel_rfl) rfl rfl _ _, c5.use (by kernel_rfl) rfl rfl _ _, c3.use (by kernel_rfl) rfl rfl _ _, c1.use (by kernel_rfl) rfl rfl _ _, trivial⟩

theorem run22 (a0 a1 a2 a3 a4 b0 b1 b2 b3 b4 x1 x3 x5 x7 x9 r36_10 r36_11 r36_12 r36_13 r36_14 : Int)
    (h0 : ((a0 + b0) % 18446744073709551616) = x1)
    (h2 : ((a1 + b1) % 18446744073709551616) = x3)
    (h4 : ((a2 + b2) % 18446744073709551616) = x5)
    (h6 : ((a3 + b3) % 18446744073709551616) = x7)
    (h8 : ((a4 + b4) % 18446744073709551616) = x9)
    (c15 : PureF Tryd.prog 39 [(.aggi .u64 [x1, x3, x5, x7, x9])] (.aggi .u64 [r36_10, r36_11, r36_12, r36_13, r36_14])) :
    PureF Tryd.prog 17 [(.aggi .u64 [a0, a1, a2, a3, a4]), (.aggi .u64 [b0, b1, b2, b3, b4])] (.aggi .u64 [r36_10, r36_11, r36_12, r36_13, r36_14]) :=
  Contract0.of_frun (fn := Tryd.f17) (c := bodyOf Tryd.f17) (fuel := 300) (k := kOf Tryd.prog Tryd.f17) (outs := []) (hs := [(16, ⟨.auto, some (.c (.int .u64 x1))⟩), (34, ⟨.auto, some (.c (.int .u64 x3))⟩), (52, ⟨.auto, some (.c (.int .u64 x5))⟩), (70, ⟨.auto, some (.c (.int .u64 x7))⟩), (88, ⟨.auto, some (.c (.int .u64 x9))⟩), (97, ⟨.call [] (.aggi .u64 [r36_10, r36_11, r36_12, r36_13, r36_14]) [] [], none⟩)])
    (cs := [Contract Tryd.prog 39 [(.aggi .u64 [x1, x3, x5, x7, x9])] [] 1457 (.aggi .u64 [r36_10, r36_11, r36_12, r36_13, r36_14]) [] [],
      EI .u64 ((a4 + b4) % 18446744073709551616) x9,
      EI .u64 ((a3 + b3) % 18446744073709551616) x7,
      EI .u64 ((a2 + b2) % 18446744073709551616) x5,
      EI .u64 ((a1 + b1) % 18446744073709551616) x3,
      EI .u64 ((a0 + b0) % 18446744073709551616) x1])
    mixed Tryd.func17 (by kernel_rfl) (by kernel_rfl) (by kernel_rfl) rfl (by kernel_rfl) ⟨c15.use (by kernel_rfl) rfl rfl _ _, .mk h8, .mk h6, .mk h4, .mk h2, .mk h0, trivial⟩

theorem run20 (a0 a1 a2 a3 a4 b0 b1 b2 b3 b4 c x1 x3 x5 x7 x9 x11 x13 x15 x17 x19 x21 x23 x25 x27 x29 x31 x33 x35 x37 x39 x41 x43 : Int)
    (h0 : (bAnd IntKind.u64 c 1) = x1)
    (h2 : ((0 - x1) % 18446744073709551616) = x3)
    (h4 : (bXor IntKind.u64 a0 b0) = x5)
    (h6 : (bAnd IntKind.u64 x3 x5) = x7)
    (h8 : (bXor IntKind.u64 a0 x7) = x9)
    (h10 : (bXor IntKind.u64 b0 x7) = x11)
    (h12 : (bXor IntKind.u64 a1 b1) = x13)
    (h14 : (bAnd IntKind.u64 x3 x13) = x15)
    (h16 : (bXor IntKind.u64 a1 x15) = x17)
    (h18 : (bXor IntKind.u64 b1 x15) = x19)
    (h20 : (bXor IntKind.u64 a2 b2) = x21)
    (h22 : (bAnd IntKind.u64 x3 x21) = x23)
    (h24 : (bXor IntKind.u64 a2 x23) = x25)
    (h26 : (bXor IntKind.u64 b2 x23) = x27)
    (h28 : (bXor IntKind.u64 a3 b3) = x29)
    (h30 : (bAnd IntKind.u64 x3 x29) = x31)
    (h32 : (bXor IntKind.u64 a3 x31) = x33)
    (h34 : (bXor IntKind.u64 b3 x31) = x35)
    (h36 : (bXor IntKind.u64 a4 b4) = x37)
    (h38 : (bAnd IntKind.u64 x3 x37) = x39)
    (h40 : (bXor IntKind.u64 a4 x39) = x41)
    (h42 : (bXor IntKind.u64 b4 x39) = x43) :
    PureF Tryd.prog 48 [(.aggi .u64 [a0, a1, a2, a3, a4]), (.aggi .u64 [b0, b1, b2, b3, b4]), (.c (.int .u64 c))] (.tup [(.aggi .u64 [x9, x17, x25, x33, x41]), (.aggi .u64 [x11, x19, x27, x35, x43])]) :=
  Contract0.of_frun (fn := Tryd.f48) (c := bodyOf Tryd.f48) (fuel := 300) (k := kOf Tryd.prog Tryd.f48) (outs := []) (hs := [(5, ⟨.auto, some (.c (.int .u64 x1))⟩), (6, ⟨.auto, some (.c (.int .u64 x3))⟩), (22, ⟨.auto, some (.c (.int .u64 x5))⟩), (23, ⟨.auto, some (.c (.int .u64 x7))⟩), (30, ⟨.auto, some (.c (.int .u64 x9))⟩), (39, ⟨.auto, some (.c (.int .u64 x11))⟩), (58, ⟨.auto, some (.c (.int .u64 x13))⟩), (59, ⟨.auto, some (.c (.int .u64 x15))⟩), (66, ⟨.auto, some (.c (.int .u64 x17))⟩), (75, ⟨.auto, some (.c (.int .u64 x19))⟩), (94, ⟨.auto, some (.c (.int .u64 x21))⟩), (95, ⟨.auto, some (.c (.int .u64 x23))⟩), (102, ⟨.auto, some (.c (.int .u64 x25))⟩), (111, ⟨.auto, some (.c (.int .u64 x27))⟩), (130, ⟨.auto, some (.c (.int .u64 x29))⟩), (131, ⟨.auto, some (.c (.int .u64 x31))⟩), (138, ⟨.auto, some (.c (.int .u64 x33))⟩), (147, ⟨.auto, some (.c (.int .u64 x35))⟩), (166, ⟨.auto, some (.c (.int .u64 x37))⟩), (167, ⟨.auto, some (.c (.int .u64 x39))⟩), (174, ⟨.auto, some (.c (.int .u64 x41))⟩), (183, ⟨.auto, some (.c (.int .u64 x43))⟩)])
    (cs := [EI .u64 (bXor IntKind.u64 b4 x39) x43,
      EI .u64 (bXor IntKind.u64 a4 x39) x41,
      EI .u64 (bAnd IntKind.u64 x3 x37) x39,
      EI .u64 (bXor IntKind.u64 a4 b4) x37,
      EI .u64 (bXor IntKind.u64 b3 x31) x35,
      EI .u64 (bXor IntKind.u64 a3 x31) x33,
      EI .u64 (bAnd IntKind.u64 x3 x29) x31,
      EI .u64 (bXor IntKind.u64 a3 b3) x29,
      EI .u64 (bXor IntKind.u64 b2 x23) x27,
      EI .u64 (bXor IntKind.u64 a2 x23) x25,
      EI .u64 (bAnd IntKind.u64 x3 x21) x23,
      EI .u64 (bXor IntKind.u64 a2 b2) x21,
      EI .u64 (bXor IntKind.u64 b1 x15) x19,
      EI .u64 (bXor IntKind.u64 a1 x15) x17,
      EI .u64 (bAnd IntKind.u64 x3 x13) x15,
      EI .u64 (bXor IntKind.u64 a1 b1) x13,
      EI .u64 (bXor IntKind.u64 b0 x7) x11,
      EI .u64 (bXor IntKind.u64 a0 x7) x9,
      EI .u64 (bAnd IntKind.u64 x3 x5) x7,
      EI .u64 (bXor IntKind.u64 a0 b0) x5,
      EI .u64 ((0 - x1) % 18446744073709551616) x3,
      EI .u64 (bAnd IntKind.u64 c 1) x1])
    mixed Tryd.func48 (by kernel_rfl) (by kernel_rfl) (by kernel_rfl) rfl (by kernel_rfl) ⟨.mk h42, .mk h40, .mk h38, .mk h36, .mk h34, .mk h32, .mk h30, .mk h28, .mk h26, .mk h24, .mk h22, .mk h20, .mk h18, .mk h16, .mk h14, .mk h12, .mk h10, .mk h8, .mk h6, .mk h4, .mk h2, .mk h0, trivial⟩

theorem run26 (a : W.El) (n x1 : Int) (r21_2e : W.El)
    (h0 : (n % 18446744073709551616) = x1)
    (c3 : PureF Tryd.prog 11 [(.aggi .u64 [(W.El.a0 a), (W.El.a1 a), (W.El.a2 a), (W.El.a3 a), (W.El.a4 a)]), (.aggi .u64 [x1, 0, 0, 0, 0])] (.aggi .u64 (W.el r21_2e))) :
    PureF Tryd.prog 21 [(.aggi .u64 (W.el a)), (.c (.int .u32 n))] (.aggi .u64 [(W.El.a0 r21_2e), (W.El.a1 r21_2e), (W.El.a2 r21_2e), (W.El.a3 r21_2e), (W.El.a4 r21_2e)]) :=
  Contract0.of_frun (fn := Tryd.f21) (c := bodyOf Tryd.f21) (fuel := 300) (k := kOf Tryd.prog Tryd.f21) (outs := []) (hs := [(4, ⟨.auto, some (.c (.int .u64 x1))⟩), (7, ⟨.call [] (.aggi .u64 (W.el r21_2e)) [] [], none⟩)])
    (cs := [Contract Tryd.prog 11 [(.aggi .u64 [(W.El.a0 a), (W.El.a1 a), (W.El.a2 a), (W.El.a3 a), (W.El.a4 a)]), (.agg [(.int .u64 x1), (.int .u64 0), (.int .u64 0), (.int .u64 0), (.int .u64 0)])] [] 113 (.aggi .u64 (W.el r21_2e)) [] [],
      EI .u64 (n % 18446744073709551616) x1])
    mixed Tryd.func21 (by kernel_rfl) (by kernel_rfl) (by kernel_rfl) rfl (by kernel_rfl) ⟨c3.use (by kernel_rfl) rfl rfl _ _, .mk h0, trivial⟩


end Go.Proofs.YtkjbjgkjplmkhaaDoor.Vm
