/- What functions of the program come to: parts of the walk (Pb). -/
import Derived.Test.YtmfnldkiaodkpaaPw
import Derived.KernelRfl
import Derived.Test.YtmfnldkiaodkpaaProg
set_option linter.unusedSimpArgs false
set_option linter.unusedVariables false
namespace Go.Proofs.Ytmfnldkiaodkpaa.Vm
open Go Go.Proofs Go.Proofs.Ytmfnldkiaodkpaa
set_option maxRecDepth 100000
theorem run43 (l : List Int) (x1 x4 x6 x8 x10 x13 x15 x17 x19 x22 x24 x26 x28 x31 x33 x35 x37 x40 x42 x44 x46 x48 x50 x52 x55 x57 x59 x61 x64 x66 x68 x70 x73 x75 x77 x79 x82 x84 x86 x88 x91 x93 x95 x97 x99 x101 x103 x106 x108 x110 x112 x115 x117 x119 x121 x124 x126 x128 x130 x133 x135 x137 x139 x142 x144 x146 x148 x150 x152 x154 x157 x159 x161 x163 x166 x168 x170 x172 x175 x177 x179 x181 x184 x186 x188 x190 x193 x195 x197 x199 x201 x203 x205 x208 x210 x212 x214 x217 x219 x221 x223 x226 x228 x230 x232 x235 x237 x239 x241 x243 : Int)
    (h0 : (List.getD l 0 0) = x1)
    (c2 : ((1 : Nat) ≤ List.length l))
    (h3 : (x1 % 18446744073709551616) = x4)
    (h5 : (x4 * 1 % 18446744073709551616) = x6)
    (h7 : (bOr IntKind.u64 0 x6) = x8)
    (h9 : (List.getD l 1 0) = x10)
    (c11 : ((2 : Nat) ≤ List.length l))
    (h12 : (x10 % 18446744073709551616) = x13)
    (h14 : (x13 * 256 % 18446744073709551616) = x15)
    (h16 : (bOr IntKind.u64 x8 x15) = x17)
    (h18 : (List.getD l 2 0) = x19)
    (c20 : ((3 : Nat) ≤ List.length l))
    (h21 : (x19 % 18446744073709551616) = x22)
    (h23 : (x22 * 65536 % 18446744073709551616) = x24)
    (h25 : (bOr IntKind.u64 x17 x24) = x26)
    (h27 : (List.getD l 3 0) = x28)
    (c29 : ((4 : Nat) ≤ List.length l))
    (h30 : (x28 % 18446744073709551616) = x31)
    (h32 : (x31 * 16777216 % 18446744073709551616) = x33)
    (h34 : (bOr IntKind.u64 x26 x33) = x35)
    (h36 : (List.getD l 4 0) = x37)
    (c38 : ((5 : Nat) ≤ List.length l))
    (h39 : (x37 % 18446744073709551616) = x40)
    (h41 : (x40 * 4294967296 % 18446744073709551616) = x42)
    (h43 : (bOr IntKind.u64 x35 x42) = x44)
    (h45 : (x44 / 1) = x46)
    (h47 : (bAnd IntKind.u64 x46 67108863) = x48)
    (h49 : (List.getD (splice (splice (splice (splice (splice (splice [0, 0, 0, 0, 0] 0 [x8]) 0 [x17]) 0 [x26]) 0 [x35]) 0 [x44]) 0 [x48]) 1 0) = x50)
    (h51 : (List.getD l 3 0) = x52)
    (c53 : ((4 : Nat) ≤ List.length l))
    (h54 : (x52 % 18446744073709551616) = x55)
    (h56 : (x55 * 1 % 18446744073709551616) = x57)
    (h58 : (bOr IntKind.u64 x50 x57) = x59)
    (h60 : (List.getD l 4 0) = x61)
    (c62 : ((5 : Nat) ≤ List.length l))
    (h63 : (x61 % 18446744073709551616) = x64)
    (h65 : (x64 * 256 % 18446744073709551616) = x66)
    (h67 : (bOr IntKind.u64 x59 x66) = x68)
    (h69 : (List.getD l 5 0) = x70)
    (c71 : ((6 : Nat) ≤ List.length l))
    (h72 : (x70 % 18446744073709551616) = x73)
    (h74 : (x73 * 65536 % 18446744073709551616) = x75)
    (h76 : (bOr IntKind.u64 x68 x75) = x77)
    (h78 : (List.getD l 6 0) = x79)
    (c80 : ((7 : Nat) ≤ List.length l))
    (h81 : (x79 % 18446744073709551616) = x82)
    (h83 : (x82 * 16777216 % 18446744073709551616) = x84)
    (h85 : (bOr IntKind.u64 x77 x84) = x86)
    (h87 : (List.getD l 7 0) = x88)
    (c89 : ((8 : Nat) ≤ List.length l))
    (h90 : (x88 % 18446744073709551616) = x91)
    (h92 : (x91 * 4294967296 % 18446744073709551616) = x93)
    (h94 : (bOr IntKind.u64 x86 x93) = x95)
    (h96 : (x95 / 4) = x97)
    (h98 : (bAnd IntKind.u64 x97 67108863) = x99)
    (h100 : (List.getD (splice (splice (splice (splice (splice (splice (splice (splice (splice (splice (splice (splice [0, 0, 0, 0, 0] 0 [x8]) 0 [x17]) 0 [x26]) 0 [x35]) 0 [x44]) 0 [x48]) 1 [x59]) 1 [x68]) 1 [x77]) 1 [x86]) 1 [x95]) 1 [x99]) 2 0) = x101)
    (h102 : (List.getD l 6 0) = x103)
    (c104 : ((7 : Nat) ≤ List.length l))
    (h105 : (x103 % 18446744073709551616) = x106)
    (h107 : (x106 * 1 % 18446744073709551616) = x108)
    (h109 : (bOr IntKind.u64 x101 x108) = x110)
    (h111 : (List.getD l 7 0) = x112)
    (c113 : ((8 : Nat) ≤ List.length l))
    (h114 : (x112 % 18446744073709551616) = x115)
    (h116 : (x115 * 256 % 18446744073709551616) = x117)
    (h118 : (bOr IntKind.u64 x110 x117) = x119)
    (h120 : (List.getD l 8 0) = x121)
    (c122 : ((9 : Nat) ≤ List.length l))
    (h123 : (x121 % 18446744073709551616) = x124)
    (h125 : (x124 * 65536 % 18446744073709551616) = x126)
    (h127 : (bOr IntKind.u64 x119 x126) = x128)
    (h129 : (List.getD l 9 0) = x130)
    (c131 : ((10 : Nat) ≤ List.length l))
    (h132 : (x130 % 18446744073709551616) = x133)
    (h134 : (x133 * 16777216 % 18446744073709551616) = x135)
    (h136 : (bOr IntKind.u64 x128 x135) = x137)
    (h138 : (List.getD l 10 0) = x139)
    (c140 : ((11 : Nat) ≤ List.length l))
    (h141 : (x139 % 18446744073709551616) = x142)
    (h143 : (x142 * 4294967296 % 18446744073709551616) = x144)
    (h145 : (bOr IntKind.u64 x137 x144) = x146)
    (h147 : (x146 / 16) = x148)
    (h149 : (bAnd IntKind.u64 x148 67108863) = x150)
    (h151 : (List.getD (splice (splice (splice (splice (splice (splice (splice (splice (splice (splice (splice (splice (splice (splice (splice (splice (splice (splice [0, 0, 0, 0, 0] 0 [x8]) 0 [x17]) 0 [x26]) 0 [x35]) 0 [x44]) 0 [x48]) 1 [x59]) 1 [x68]) 1 [x77]) 1 [x86]) 1 [x95]) 1 [x99]) 2 [x110]) 2 [x119]) 2 [x128]) 2 [x137]) 2 [x146]) 2 [x150]) 3 0) = x152)
    (h153 : (List.getD l 9 0) = x154)
    (c155 : ((10 : Nat) ≤ List.length l))
    (h156 : (x154 % 18446744073709551616) = x157)
    (h158 : (x157 * 1 % 18446744073709551616) = x159)
    (h160 : (bOr IntKind.u64 x152 x159) = x161)
    (h162 : (List.getD l 10 0) = x163)
    (c164 : ((11 : Nat) ≤ List.length l))
    (h165 : (x163 % 18446744073709551616) = x166)
    (h167 : (x166 * 256 % 18446744073709551616) = x168)
    (h169 : (bOr IntKind.u64 x161 x168) = x170)
    (h171 : (List.getD l 11 0) = x172)
    (c173 : ((12 : Nat) ≤ List.length l))
    (h174 : (x172 % 18446744073709551616) = x175)
    (h176 : (x175 * 65536 % 18446744073709551616) = x177)
    (h178 : (bOr IntKind.u64 x170 x177) = x179)
    (h180 : (List.getD l 12 0) = x181)
    (c182 : ((13 : Nat) ≤ List.length l))
    (h183 : (x181 % 18446744073709551616) = x184)
    (h185 : (x184 * 16777216 % 18446744073709551616) = x186)
    (h187 : (bOr IntKind.u64 x179 x186) = x188)
    (h189 : (List.getD l 13 0) = x190)
    (c191 : ((14 : Nat) ≤ List.length l))
    (h192 : (x190 % 18446744073709551616) = x193)
    (h194 : (x193 * 4294967296 % 18446744073709551616) = x195)
    (h196 : (bOr IntKind.u64 x188 x195) = x197)
    (h198 : (x197 / 64) = x199)
    (h200 : (bAnd IntKind.u64 x199 67108863) = x201)
    (h202 : (List.getD (splice (splice (splice (splice (splice (splice (splice (splice (splice (splice (splice (splice (splice (splice (splice (splice (splice (splice (splice (splice (splice (splice (splice (splice [0, 0, 0, 0, 0] 0 [x8]) 0 [x17]) 0 [x26]) 0 [x35]) 0 [x44]) 0 [x48]) 1 [x59]) 1 [x68]) 1 [x77]) 1 [x86]) 1 [x95]) 1 [x99]) 2 [x110]) 2 [x119]) 2 [x128]) 2 [x137]) 2 [x146]) 2 [x150]) 3 [x161]) 3 [x170]) 3 [x179]) 3 [x188]) 3 [x197]) 3 [x201]) 4 0) = x203)
    (h204 : (List.getD l 13 0) = x205)
    (c206 : ((14 : Nat) ≤ List.length l))
    (h207 : (x205 % 18446744073709551616) = x208)
    (h209 : (x208 * 1 % 18446744073709551616) = x210)
    (h211 : (bOr IntKind.u64 x203 x210) = x212)
    (h213 : (List.getD l 14 0) = x214)
    (c215 : ((15 : Nat) ≤ List.length l))
    (h216 : (x214 % 18446744073709551616) = x217)
    (h218 : (x217 * 256 % 18446744073709551616) = x219)
    (h220 : (bOr IntKind.u64 x212 x219) = x221)
    (h222 : (List.getD l 15 0) = x223)
    (c224 : ((16 : Nat) ≤ List.length l))
    (h225 : (x223 % 18446744073709551616) = x226)
    (h227 : (x226 * 65536 % 18446744073709551616) = x228)
    (h229 : (bOr IntKind.u64 x221 x228) = x230)
    (h231 : (List.getD l 16 0) = x232)
    (c233 : ((17 : Nat) ≤ List.length l))
    (h234 : (x232 % 18446744073709551616) = x235)
    (h236 : (x235 * 16777216 % 18446744073709551616) = x237)
    (h238 : (bOr IntKind.u64 x230 x237) = x239)
    (h240 : (x239 / 1) = x241)
    (h242 : (bAnd IntKind.u64 x241 67108863) = x243)   :
    PureF Try.prog 59 [(.aggi .u8 l)] (.aggi .u64 [x48, x99, x150, x201, x243]) :=
  Contract0.of_frun (fn := Try.f59) (c := bodyOf Try.f59) (fuel := 300) (k := kOf Try.prog Try.f59) (outs := []) (hs := [(30, ⟨.ask, some (.c (.int .u8 x1))⟩), (31, ⟨.auto, some (.c (.int .u64 x4))⟩), (34, ⟨.auto, some (.c (.int .u64 x6))⟩), (35, ⟨.auto, some (.c (.int .u64 x8))⟩), (58, ⟨.ask, some (.c (.int .u8 x10))⟩), (59, ⟨.auto, some (.c (.int .u64 x13))⟩), (62, ⟨.auto, some (.c (.int .u64 x15))⟩), (63, ⟨.auto, some (.c (.int .u64 x17))⟩), (86, ⟨.ask, some (.c (.int .u8 x19))⟩), (87, ⟨.auto, some (.c (.int .u64 x22))⟩), (90, ⟨.auto, some (.c (.int .u64 x24))⟩), (91, ⟨.auto, some (.c (.int .u64 x26))⟩), (114, ⟨.ask, some (.c (.int .u8 x28))⟩), (115, ⟨.auto, some (.c (.int .u64 x31))⟩), (118, ⟨.auto, some (.c (.int .u64 x33))⟩), (119, ⟨.auto, some (.c (.int .u64 x35))⟩), (142, ⟨.ask, some (.c (.int .u8 x37))⟩), (143, ⟨.auto, some (.c (.int .u64 x40))⟩), (146, ⟨.auto, some (.c (.int .u64 x42))⟩), (147, ⟨.auto, some (.c (.int .u64 x44))⟩), (160, ⟨.auto, some (.c (.int .u64 x46))⟩), (161, ⟨.auto, some (.c (.int .u64 x48))⟩), (186, ⟨.auto, some (.c (.int .u64 x50))⟩), (192, ⟨.ask, some (.c (.int .u8 x52))⟩), (193, ⟨.auto, some (.c (.int .u64 x55))⟩), (196, ⟨.auto, some (.c (.int .u64 x57))⟩), (197, ⟨.auto, some (.c (.int .u64 x59))⟩), (220, ⟨.ask, some (.c (.int .u8 x61))⟩), (221, ⟨.auto, some (.c (.int .u64 x64))⟩), (224, ⟨.auto, some (.c (.int .u64 x66))⟩), (225, ⟨.auto, some (.c (.int .u64 x68))⟩), (248, ⟨.ask, some (.c (.int .u8 x70))⟩), (249, ⟨.auto, some (.c (.int .u64 x73))⟩), (252, ⟨.auto, some (.c (.int .u64 x75))⟩), (253, ⟨.auto, some (.c (.int .u64 x77))⟩), (276, ⟨.ask, some (.c (.int .u8 x79))⟩), (277, ⟨.auto, some (.c (.int .u64 x82))⟩), (280, ⟨.auto, some (.c (.int .u64 x84))⟩), (281, ⟨.auto, some (.c (.int .u64 x86))⟩), (304, ⟨.ask, some (.c (.int .u8 x88))⟩), (305, ⟨.auto, some (.c (.int .u64 x91))⟩), (308, ⟨.auto, some (.c (.int .u64 x93))⟩), (309, ⟨.auto, some (.c (.int .u64 x95))⟩), (322, ⟨.auto, some (.c (.int .u64 x97))⟩), (323, ⟨.auto, some (.c (.int .u64 x99))⟩), (348, ⟨.auto, some (.c (.int .u64 x101))⟩), (354, ⟨.ask, some (.c (.int .u8 x103))⟩), (355, ⟨.auto, some (.c (.int .u64 x106))⟩), (358, ⟨.auto, some (.c (.int .u64 x108))⟩), (359, ⟨.auto, some (.c (.int .u64 x110))⟩), (382, ⟨.ask, some (.c (.int .u8 x112))⟩), (383, ⟨.auto, some (.c (.int .u64 x115))⟩), (386, ⟨.auto, some (.c (.int .u64 x117))⟩), (387, ⟨.auto, some (.c (.int .u64 x119))⟩), (410, ⟨.ask, some (.c (.int .u8 x121))⟩), (411, ⟨.auto, some (.c (.int .u64 x124))⟩), (414, ⟨.auto, some (.c (.int .u64 x126))⟩), (415, ⟨.auto, some (.c (.int .u64 x128))⟩), (438, ⟨.ask, some (.c (.int .u8 x130))⟩), (439, ⟨.auto, some (.c (.int .u64 x133))⟩), (442, ⟨.auto, some (.c (.int .u64 x135))⟩), (443, ⟨.auto, some (.c (.int .u64 x137))⟩), (466, ⟨.ask, some (.c (.int .u8 x139))⟩), (467, ⟨.auto, some (.c (.int .u64 x142))⟩), (470, ⟨.auto, some (.c (.int .u64 x144))⟩), (471, ⟨.auto, some (.c (.int .u64 x146))⟩), (484, ⟨.auto, some (.c (.int .u64 x148))⟩), (485, ⟨.auto, some (.c (.int .u64 x150))⟩), (510, ⟨.auto, some (.c (.int .u64 x152))⟩), (516, ⟨.ask, some (.c (.int .u8 x154))⟩), (517, ⟨.auto, some (.c (.int .u64 x157))⟩), (520, ⟨.auto, some (.c (.int .u64 x159))⟩), (521, ⟨.auto, some (.c (.int .u64 x161))⟩), (544, ⟨.ask, some (.c (.int .u8 x163))⟩), (545, ⟨.auto, some (.c (.int .u64 x166))⟩), (548, ⟨.auto, some (.c (.int .u64 x168))⟩), (549, ⟨.auto, some (.c (.int .u64 x170))⟩), (572, ⟨.ask, some (.c (.int .u8 x172))⟩), (573, ⟨.auto, some (.c (.int .u64 x175))⟩), (576, ⟨.auto, some (.c (.int .u64 x177))⟩), (577, ⟨.auto, some (.c (.int .u64 x179))⟩), (600, ⟨.ask, some (.c (.int .u8 x181))⟩), (601, ⟨.auto, some (.c (.int .u64 x184))⟩), (604, ⟨.auto, some (.c (.int .u64 x186))⟩), (605, ⟨.auto, some (.c (.int .u64 x188))⟩), (628, ⟨.ask, some (.c (.int .u8 x190))⟩), (629, ⟨.auto, some (.c (.int .u64 x193))⟩), (632, ⟨.auto, some (.c (.int .u64 x195))⟩), (633, ⟨.auto, some (.c (.int .u64 x197))⟩), (646, ⟨.auto, some (.c (.int .u64 x199))⟩), (647, ⟨.auto, some (.c (.int .u64 x201))⟩), (672, ⟨.auto, some (.c (.int .u64 x203))⟩), (678, ⟨.ask, some (.c (.int .u8 x205))⟩), (679, ⟨.auto, some (.c (.int .u64 x208))⟩), (682, ⟨.auto, some (.c (.int .u64 x210))⟩), (683, ⟨.auto, some (.c (.int .u64 x212))⟩), (706, ⟨.ask, some (.c (.int .u8 x214))⟩), (707, ⟨.auto, some (.c (.int .u64 x217))⟩), (710, ⟨.auto, some (.c (.int .u64 x219))⟩), (711, ⟨.auto, some (.c (.int .u64 x221))⟩), (734, ⟨.ask, some (.c (.int .u8 x223))⟩), (735, ⟨.auto, some (.c (.int .u64 x226))⟩), (738, ⟨.auto, some (.c (.int .u64 x228))⟩), (739, ⟨.auto, some (.c (.int .u64 x230))⟩), (762, ⟨.ask, some (.c (.int .u8 x232))⟩), (763, ⟨.auto, some (.c (.int .u64 x235))⟩), (766, ⟨.auto, some (.c (.int .u64 x237))⟩), (767, ⟨.auto, some (.c (.int .u64 x239))⟩), (792, ⟨.auto, some (.c (.int .u64 x241))⟩), (793, ⟨.auto, some (.c (.int .u64 x243))⟩)])
    (cs := [EI .u64 (bAnd IntKind.u64 x241 67108863) x243,
      EI .u64 (x239 / 1) x241,
      EI .u64 (bOr IntKind.u64 x230 x237) x239,
      EI .u64 (x235 * 16777216 % 18446744073709551616) x237,
      EI .u64 (x232 % 18446744073709551616) x235,
      EI .u8 (List.getD l 16 0) x232,
      ((17 : Nat) ≤ List.length l),
      EI .u64 (bOr IntKind.u64 x221 x228) x230,
      EI .u64 (x226 * 65536 % 18446744073709551616) x228,
      EI .u64 (x223 % 18446744073709551616) x226,
      EI .u8 (List.getD l 15 0) x223,
      ((16 : Nat) ≤ List.length l),
      EI .u64 (bOr IntKind.u64 x212 x219) x221,
      EI .u64 (x217 * 256 % 18446744073709551616) x219,
      EI .u64 (x214 % 18446744073709551616) x217,
      EI .u8 (List.getD l 14 0) x214,
      ((15 : Nat) ≤ List.length l),
      EI .u64 (bOr IntKind.u64 x203 x210) x212,
      EI .u64 (x208 * 1 % 18446744073709551616) x210,
      EI .u64 (x205 % 18446744073709551616) x208,
      EI .u8 (List.getD l 13 0) x205,
      ((14 : Nat) ≤ List.length l),
      EI .u64 (List.getD (splice (splice (splice (splice (splice (splice (splice (splice (splice (splice (splice (splice (splice (splice (splice (splice (splice (splice (splice (splice (splice (splice (splice (splice [0, 0, 0, 0, 0] 0 [x8]) 0 [x17]) 0 [x26]) 0 [x35]) 0 [x44]) 0 [x48]) 1 [x59]) 1 [x68]) 1 [x77]) 1 [x86]) 1 [x95]) 1 [x99]) 2 [x110]) 2 [x119]) 2 [x128]) 2 [x137]) 2 [x146]) 2 [x150]) 3 [x161]) 3 [x170]) 3 [x179]) 3 [x188]) 3 [x197]) 3 [x201]) 4 0) x203,
      EI .u64 (bAnd IntKind.u64 x199 67108863) x201,
      EI .u64 (x197 / 64) x199,
      EI .u64 (bOr IntKind.u64 x188 x195) x197,
      EI .u64 (x193 * 4294967296 % 18446744073709551616) x195,
      EI .u64 (x190 % 18446744073709551616) x193,
      EI .u8 (List.getD l 13 0) x190,
      ((14 : Nat) ≤ List.length l),
      EI .u64 (bOr IntKind.u64 x179 x186) x188,
      EI .u64 (x184 * 16777216 % 18446744073709551616) x186,
      EI .u64 (x181 % 18446744073709551616) x184,
      EI .u8 (List.getD l 12 0) x181,
      ((13 : Nat) ≤ List.length l),
      EI .u64 (bOr IntKind.u64 x170 x177) x179,
      EI .u64 (x175 * 65536 % 18446744073709551616) x177,
      EI .u64 (x172 % 18446744073709551616) x175,
      EI .u8 (List.getD l 11 0) x172,
      ((12 : Nat) ≤ List.length l),
      EI .u64 (bOr IntKind.u64 x161 x168) x170,
      EI .u64 (x166 * 256 % 18446744073709551616) x168,
      EI .u64 (x163 % 18446744073709551616) x166,
      EI .u8 (List.getD l 10 0) x163,
      ((11 : Nat) ≤ List.length l),
      EI .u64 (bOr IntKind.u64 x152 x159) x161,
      EI .u64 (x157 * 1 % 18446744073709551616) x159,
      EI .u64 (x154 % 18446744073709551616) x157,
      EI .u8 (List.getD l 9 0) x154,
      ((10 : Nat) ≤ List.length l),
      EI .u64 (List.getD (splice (splice (splice (splice (splice (splice (splice (splice (splice (splice (splice (splice (splice (splice (splice (splice (splice (splice [0, 0, 0, 0, 0] 0 [x8]) 0 [x17]) 0 [x26]) 0 [x35]) 0 [x44]) 0 [x48]) 1 [x59]) 1 [x68]) 1 [x77]) 1 [x86]) 1 [x95]) 1 [x99]) 2 [x110]) 2 [x119]) 2 [x128]) 2 [x137]) 2 [x146]) 2 [x150]) 3 0) x152,
      EI .u64 (bAnd IntKind.u64 x148 67108863) x150,
      EI .u64 (x146 / 16) x148,
      EI .u64 (bOr IntKind.u64 x137 x144) x146,
      EI .u64 (x142 * 4294967296 % 18446744073709551616) x144,
      EI .u64 (x139 % 18446744073709551616) x142,
      EI .u8 (List.getD l 10 0) x139,
      ((11 : Nat) ≤ List.length l),
      EI .u64 (bOr IntKind.u64 x128 x135) x137,
      EI .u64 (x133 * 16777216 % 18446744073709551616) x135,
      EI .u64 (x130 % 18446744073709551616) x133,
      EI .u8 (List.getD l 9 0) x130,
      ((10 : Nat) ≤ List.length l),
      EI .u64 (bOr IntKind.u64 x119 x126) x128,
      EI .u64 (x124 * 65536 % 18446744073709551616) x126,
      EI .u64 (x121 % 18446744073709551616) x124,
      EI .u8 (List.getD l 8 0) x121,
      ((9 : Nat) ≤ List.length l),
      EI .u64 (bOr IntKind.u64 x110 x117) x119,
      EI .u64 (x115 * 256 % 18446744073709551616) x117,
      EI .u64 (x112 % 18446744073709551616) x115,
      EI .u8 (List.getD l 7 0) x112,
      ((8 : Nat) ≤ List.length l),
      EI .u64 (bOr IntKind.u64 x101 x108) x110,
      EI .u64 (x106 * 1 % 18446744073709551616) x108,
      EI .u64 (x103 % 18446744073709551616) x106,
      EI .u8 (List.getD l 6 0) x103,
      ((7 : Nat) ≤ List.length l),
      EI .u64 (List.getD (splice (splice (splice (splice (splice (splice (splice (splice (splice (splice (splice (splice [0, 0, 0, 0, 0] 0 [x8]) 0 [x17]) 0 [x26]) 0 [x35]) 0 [x44]) 0 [x48]) 1 [x59]) 1 [x68]) 1 [x77]) 1 [x86]) 1 [x95]) 1 [x99]) 2 0) x101,
      EI .u64 (bAnd IntKind.u64 x97 67108863) x99,
      EI .u64 (x95 / 4) x97,
      EI .u64 (bOr IntKind.u64 x86 x93) x95,
      EI .u64 (x91 * 4294967296 % 18446744073709551616) x93,
      EI .u64 (x88 % 18446744073709551616) x91,
      EI .u8 (List.getD l 7 0) x88,
      ((8 : Nat) ≤ List.length l),
      EI .u64 (bOr IntKind.u64 x77 x84) x86,
      EI .u64 (x82 * 16777216 % 18446744073709551616) x84,
      EI .u64 (x79 % 18446744073709551616) x82,
      EI .u8 (List.getD l 6 0) x79,
      ((7 : Nat) ≤ List.length l),
      EI .u64 (bOr IntKind.u64 x68 x75) x77,
      EI .u64 (x73 * 65536 % 18446744073709551616) x75,
      EI .u64 (x70 % 18446744073709551616) x73,
      EI .u8 (List.getD l 5 0) x70,
      ((6 : Nat) ≤ List.length l),
      EI .u64 (bOr IntKind.u64 x59 x66) x68,
      EI .u64 (x64 * 256 % 18446744073709551616) x66,
      EI .u64 (x61 % 18446744073709551616) x64,
      EI .u8 (List.getD l 4 0) x61,
      ((5 : Nat) ≤ List.length l),
      EI .u64 (bOr IntKind.u64 x50 x57) x59,
      EI .u64 (x55 * 1 % 18446744073709551616) x57,
      EI .u64 (x52 % 18446744073709551616) x55,
      EI .u8 (List.getD l 3 0) x52,
      ((4 : Nat) ≤ List.length l),
      EI .u64 (List.getD (splice (splice (splice (splice (splice (splice [0, 0, 0, 0, 0] 0 [x8]) 0 [x17]) 0 [x26]) 0 [x35]) 0 [x44]) 0 [x48]) 1 0) x50,
      EI .u64 (bAnd IntKind.u64 x46 67108863) x48,
      EI .u64 (x44 / 1) x46,
      EI .u64 (bOr IntKind.u64 x35 x42) x44,
      EI .u64 (x40 * 4294967296 % 18446744073709551616) x42,
      EI .u64 (x37 % 18446744073709551616) x40,
      EI .u8 (List.getD l 4 0) x37,
      ((5 : Nat) ≤ List.length l),
      EI .u64 (bOr IntKind.u64 x26 x33) x35,
      EI .u64 (x31 * 16777216 % 18446744073709551616) x33,
      EI .u64 (x28 % 18446744073709551616) x31,
      EI .u8 (List.getD l 3 0) x28,
      ((4 : Nat) ≤ List.length l),
      EI .u64 (bOr IntKind.u64 x17 x24) x26,
      EI .u64 (x22 * 65536 % 18446744073709551616) x24,
      EI .u64 (x19 % 18446744073709551616) x22,
      EI .u8 (List.getD l 2 0) x19,
      ((3 : Nat) ≤ List.length l),
      EI .u64 (bOr IntKind.u64 x8 x15) x17,
      EI .u64 (x13 * 256 % 18446744073709551616) x15,
      EI .u64 (x10 % 18446744073709551616) x13,
      EI .u8 (List.getD l 1 0) x10,
      ((2 : Nat) ≤ List.length l),
      EI .u64 (bOr IntKind.u64 0 x6) x8,
      EI .u64 (x4 * 1 % 18446744073709551616) x6,
      EI .u64 (x1 % 18446744073709551616) x4,
      EI .u8 (List.getD l 0 0) x1,
      ((1 : Nat) ≤ List.length l)])
    mixed Try.func59 (by kernel_rfl) (by kernel_rfl) (by kernel_rfl) rfl (by kernel_rfl) ⟨.mk h242, .mk h240, .mk h238, .mk h236, .mk h234, .mk h231, c233, .mk h229, .mk h227, .mk h225, .mk h222, c224, .mk h220, .mk h218, .mk h216, .mk h213, c215, .mk h211, .mk h209, .mk h207, .mk h204, c206, .mk h202, .mk h200, .mk h198, .mk h196, .mk h194, .mk h192, .mk h189, c191, .mk h187, .mk h185, .mk h183, .mk h180, c182, .mk h178, .mk h176, .mk h174, .mk h171, c173, .mk h169, .mk h167, .mk h165, .mk h162, c164, .mk h160, .mk h158, .mk h156, .mk h153, c155, .mk h151, .mk h149, .mk h147, .mk h145, .mk h143, .mk h141, .mk h138, c140, .mk h136, .mk h134, .mk h132, .mk h129, c131, .mk h127, .mk h125, .mk h123, .mk h120, c122, .mk h118, .mk h116, .mk h114, .mk h111, c113, .mk h109, .mk h107, .mk h105, .mk h102, c104, .mk h100, .mk h98, .mk h96, .mk h94, .mk h92, .mk h90, .mk h87, c89, .mk h85, .mk h83, .mk h81, .mk h78, c80, .mk h76, .mk h74, .mk h72, .mk h69, c71, .mk h67, .mk h65, .mk h63, .mk h60, c62, .mk h58, .mk h56, .mk h54, .mk h51, c53, .mk h49, .mk h47, .mk h45, .mk h43, .mk h41, .mk h39, .mk h36, c38, .mk h34, .mk h32, .mk h30, .mk h27, c29, .mk h25, .mk h23, .mk h21, .mk h18, c20, .mk h16, .mk h14, .mk h12, .mk h9, c11, .mk h7, .mk h5, .mk h3, .mk h0, c2, trivial⟩
theorem run44 (a b : W.El) (x1 x3 x5 x7 x9 x11 x13 x15 x17 x19 x21 x23 x25 x27 x29 x31 x33 x35 x37 x39 x41 x43 x45 x47 x49 x51 x53 x55 x57 x59 x61 x63 x65 x67 x69 x71 x73 x75 x77 x79 x81 x83 x85 x87 x89 x91 x93 x95 x97 x99 x101 x103 x105 x107 x109 x111 x113 x115 x117 x119 x121 x123 x125 x127 x129 x131 x133 x135 x137 x139 x141 x143 x145 x147 x149 x151 x153 x155 x157 x159 x161 x163 x165 x167 x169 x171 x173 x175 x177 x179 x181 x183 x185 x187 : Int) (r64_188e : W.El)
    (h0 : (List.getD (List.take 5 (List.drop 0 (W.el a))) 0 0) = x1)
    (h2 : (List.getD (List.take 5 (List.drop 0 (W.el b))) 0 0) = x3)
    (h4 : (x1 * x3 % 18446744073709551616) = x5)
    (h6 : ((0 + x5) % 18446744073709551616) = x7)
    (h8 : (List.getD (List.take 5 (List.drop 0 (W.el b))) 1 0) = x9)
    (h10 : (List.getD (splice [0, 0, 0, 0, 0] 0 [x7]) 1 0) = x11)
    (h12 : (x1 * x9 % 18446744073709551616) = x13)
    (h14 : ((x11 + x13) % 18446744073709551616) = x15)
    (h16 : (List.getD (List.take 5 (List.drop 0 (W.el b))) 2 0) = x17)
    (h18 : (List.getD (splice (splice [0, 0, 0, 0, 0] 0 [x7]) 1 [x15]) 2 0) = x19)
    (h20 : (x1 * x17 % 18446744073709551616) = x21)
    (h22 : ((x19 + x21) % 18446744073709551616) = x23)
    (h24 : (List.getD (List.take 5 (List.drop 0 (W.el b))) 3 0) = x25)
    (h26 : (List.getD (splice (splice (splice [0, 0, 0, 0, 0] 0 [x7]) 1 [x15]) 2 [x23]) 3 0) = x27)
    (h28 : (x1 * x25 % 18446744073709551616) = x29)
    (h30 : ((x27 + x29) % 18446744073709551616) = x31)
    (h32 : (List.getD (List.take 5 (List.drop 0 (W.el b))) 4 0) = x33)
    (h34 : (List.getD (splice (splice (splice (splice [0, 0, 0, 0, 0] 0 [x7]) 1 [x15]) 2 [x23]) 3 [x31]) 4 0) = x35)
    (h36 : (x1 * x33 % 18446744073709551616) = x37)
    (h38 : ((x35 + x37) % 18446744073709551616) = x39)
    (h40 : (List.getD (List.take 5 (List.drop 0 (W.el a))) 1 0) = x41)
    (h42 : (List.getD (List.take 5 (List.drop 0 (W.el b))) 0 0) = x43)
    (h44 : (x41 * x43 % 18446744073709551616) = x45)
    (h46 : ((x15 + x45) % 18446744073709551616) = x47)
    (h48 : (List.getD (List.take 5 (List.drop 0 (W.el b))) 1 0) = x49)
    (h50 : (x41 * x49 % 18446744073709551616) = x51)
    (h52 : ((x23 + x51) % 18446744073709551616) = x53)
    (h54 : (List.getD (List.take 5 (List.drop 0 (W.el b))) 2 0) = x55)
    (h56 : (x41 * x55 % 18446744073709551616) = x57)
    (h58 : ((x31 + x57) % 18446744073709551616) = x59)
    (h60 : (List.getD (List.take 5 (List.drop 0 (W.el b))) 3 0) = x61)
    (h62 : (x41 * x61 % 18446744073709551616) = x63)
    (h64 : ((x39 + x63) % 18446744073709551616) = x65)
    (h66 : (List.getD (List.take 5 (List.drop 0 (W.el b))) 4 0) = x67)
    (h68 : (5 * x41 % 18446744073709551616) = x69)
    (h70 : (x69 * x67 % 18446744073709551616) = x71)
    (h72 : ((x7 + x71) % 18446744073709551616) = x73)
    (h74 : (List.getD (List.take 5 (List.drop 0 (W.el a))) 2 0) = x75)
    (h76 : (List.getD (List.take 5 (List.drop 0 (W.el b))) 0 0) = x77)
    (h78 : (x75 * x77 % 18446744073709551616) = x79)
    (h80 : ((x53 + x79) % 18446744073709551616) = x81)
    (h82 : (List.getD (List.take 5 (List.drop 0 (W.el b))) 1 0) = x83)
    (h84 : (x75 * x83 % 18446744073709551616) = x85)
    (h86 : ((x59 + x85) % 18446744073709551616) = x87)
    (h88 : (List.getD (List.take 5 (List.drop 0 (W.el b))) 2 0) = x89)
    (h90 : (x75 * x89 % 18446744073709551616) = x91)
    (h92 : ((x65 + x91) % 18446744073709551616) = x93)
    (h94 : (List.getD (List.take 5 (List.drop 0 (W.el b))) 3 0) = x95)
    (h96 : (5 * x75 % 18446744073709551616) = x97)
    (h98 : (x97 * x95 % 18446744073709551616) = x99)
    (h100 : ((x73 + x99) % 18446744073709551616) = x101)
    (h102 : (List.getD (List.take 5 (List.drop 0 (W.el b))) 4 0) = x103)
    (h104 : (5 * x75 % 18446744073709551616) = x105)
    (h106 : (x105 * x103 % 18446744073709551616) = x107)
    (h108 : ((x47 + x107) % 18446744073709551616) = x109)
    (h110 : (List.getD (List.take 5 (List.drop 0 (W.el a))) 3 0) = x111)
    (h112 : (List.getD (List.take 5 (List.drop 0 (W.el b))) 0 0) = x113)
    (h114 : (x111 * x113 % 18446744073709551616) = x115)
    (h116 : ((x87 + x115) % 18446744073709551616) = x117)
    (h118 : (List.getD (List.take 5 (List.drop 0 (W.el b))) 1 0) = x119)
    (h120 : (x111 * x119 % 18446744073709551616) = x121)
    (h122 : ((x93 + x121) % 18446744073709551616) = x123)
    (h124 : (List.getD (List.take 5 (List.drop 0 (W.el b))) 2 0) = x125)
    (h126 : (5 * x111 % 18446744073709551616) = x127)
    (h128 : (x127 * x125 % 18446744073709551616) = x129)
    (h130 : ((x101 + x129) % 18446744073709551616) = x131)
    (h132 : (List.getD (List.take 5 (List.drop 0 (W.el b))) 3 0) = x133)
    (h134 : (5 * x111 % 18446744073709551616) = x135)
    (h136 : (x135 * x133 % 18446744073709551616) = x137)
    (h138 : ((x109 + x137) % 18446744073709551616) = x139)
    (h140 : (List.getD (List.take 5 (List.drop 0 (W.el b))) 4 0) = x141)
    (h142 : (5 * x111 % 18446744073709551616) = x143)
    (h144 : (x143 * x141 % 18446744073709551616) = x145)
    (h146 : ((x81 + x145) % 18446744073709551616) = x147)
    (h148 : (List.getD (List.take 5 (List.drop 0 (W.el a))) 4 0) = x149)
    (h150 : (List.getD (List.take 5 (List.drop 0 (W.el b))) 0 0) = x151)
    (h152 : (x149 * x151 % 18446744073709551616) = x153)
    (h154 : ((x123 + x153) % 18446744073709551616) = x155)
    (h156 : (List.getD (List.take 5 (List.drop 0 (W.el b))) 1 0) = x157)
    (h158 : (5 * x149 % 18446744073709551616) = x159)
    (h160 : (x159 * x157 % 18446744073709551616) = x161)
    (h162 : ((x131 + x161) % 18446744073709551616) = x163)
    (h164 : (List.getD (List.take 5 (List.drop 0 (W.el b))) 2 0) = x165)
    (h166 : (5 * x149 % 18446744073709551616) = x167)
    (h168 : (x167 * x165 % 18446744073709551616) = x169)
    (h170 : ((x139 + x169) % 18446744073709551616) = x171)
    (h172 : (List.getD (List.take 5 (List.drop 0 (W.el b))) 3 0) = x173)
    (h174 : (5 * x149 % 18446744073709551616) = x175)
    (h176 : (x175 * x173 % 18446744073709551616) = x177)
    (h178 : ((x147 + x177) % 18446744073709551616) = x179)
    (h180 : (List.getD (List.take 5 (List.drop 0 (W.el b))) 4 0) = x181)
    (h182 : (5 * x149 % 18446744073709551616) = x183)
    (h184 : (x183 * x181 % 18446744073709551616) = x185)
    (h186 : ((x117 + x185) % 18446744073709551616) = x187)
    (c189 : PureF Try.prog 84 [(.aggi .u64 [x163, x171, x179, x187, x155])] (.aggi .u64 (W.el r64_188e)))   :
    PureF Try.prog 60 [(.aggi .u64 (W.el a)), (.aggi .u64 (W.el b))] (.aggi .u64 (W.el r64_188e)) :=
  Contract0.of_frun (fn := Try.f60) (c := bodyOf Try.f60) (fuel := 300) (k := kOf Try.prog Try.f60) (outs := []) (hs := [(9, ⟨.auto, some (.c (.int .u64 x1))⟩), (17, ⟨.auto, some (.c (.int .u64 x3))⟩), (32, ⟨.auto, some (.c (.int .u64 x5))⟩), (33, ⟨.auto, some (.c (.int .u64 x7))⟩), (41, ⟨.auto, some (.c (.int .u64 x9))⟩), (53, ⟨.auto, some (.c (.int .u64 x11))⟩), (56, ⟨.auto, some (.c (.int .u64 x13))⟩), (57, ⟨.auto, some (.c (.int .u64 x15))⟩), (65, ⟨.auto, some (.c (.int .u64 x17))⟩), (77, ⟨.auto, some (.c (.int .u64 x19))⟩), (80, ⟨.auto, some (.c (.int .u64 x21))⟩), (81, ⟨.auto, some (.c (.int .u64 x23))⟩), (89, ⟨.auto, some (.c (.int .u64 x25))⟩), (101, ⟨.auto, some (.c (.int .u64 x27))⟩), (104, ⟨.auto, some (.c (.int .u64 x29))⟩), (105, ⟨.auto, some (.c (.int .u64 x31))⟩), (113, ⟨.auto, some (.c (.int .u64 x33))⟩), (125, ⟨.auto, some (.c (.int .u64 x35))⟩), (128, ⟨.auto, some (.c (.int .u64 x37))⟩), (129, ⟨.auto, some (.c (.int .u64 x39))⟩), (141, ⟨.auto, some (.c (.int .u64 x41))⟩), (149, ⟨.auto, some (.c (.int .u64 x43))⟩), (164, ⟨.auto, some (.c (.int .u64 x45))⟩), (165, ⟨.auto, some (.c (.int .u64 x47))⟩), (173, ⟨.auto, some (.c (.int .u64 x49))⟩), (188, ⟨.auto, some (.c (.int .u64 x51))⟩), (189, ⟨.auto, some (.c (.int .u64 x53))⟩), (197, ⟨.auto, some (.c (.int .u64 x55))⟩), (212, ⟨.auto, some (.c (.int .u64 x57))⟩), (213, ⟨.auto, some (.c (.int .u64 x59))⟩), (221, ⟨.auto, some (.c (.int .u64 x61))⟩), (236, ⟨.auto, some (.c (.int .u64 x63))⟩), (237, ⟨.auto, some (.c (.int .u64 x65))⟩), (245, ⟨.auto, some (.c (.int .u64 x67))⟩), (260, ⟨.auto, some (.c (.int .u64 x69))⟩), (262, ⟨.auto, some (.c (.int .u64 x71))⟩), (263, ⟨.auto, some (.c (.int .u64 x73))⟩), (275, ⟨.auto, some (.c (.int .u64 x75))⟩), (283, ⟨.auto, some (.c (.int .u64 x77))⟩), (298, ⟨.auto, some (.c (.int .u64 x79))⟩), (299, ⟨.auto, some (.c (.int .u64 x81))⟩), (307, ⟨.auto, some (.c (.int .u64 x83))⟩), (322, ⟨.auto, some (.c (.int .u64 x85))⟩), (323, ⟨.auto, some (.c (.int .u64 x87))⟩), (331, ⟨.auto, some (.c (.int .u64 x89))⟩), (346, ⟨.auto, some (.c (.int .u64 x91))⟩), (347, ⟨.auto, some (.c (.int .u64 x93))⟩), (355, ⟨.auto, some (.c (.int .u64 x95))⟩), (370, ⟨.auto, some (.c (.int .u64 x97))⟩), (372, ⟨.auto, some (.c (.int .u64 x99))⟩), (373, ⟨.auto, some (.c (.int .u64 x101))⟩), (381, ⟨.auto, some (.c (.int .u64 x103))⟩), (396, ⟨.auto, some (.c (.int .u64 x105))⟩), (398, ⟨.auto, some (.c (.int .u64 x107))⟩), (399, ⟨.auto, some (.c (.int .u64 x109))⟩), (411, ⟨.auto, some (.c (.int .u64 x111))⟩), (419, ⟨.auto, some (.c (.int .u64 x113))⟩), (434, ⟨.auto, some (.c (.int .u64 x115))⟩), (435, ⟨.auto, some (.c (.int .u64 x117))⟩), (443, ⟨.auto, some (.c (.int .u64 x119))⟩), (458, ⟨.auto, some (.c (.int .u64 x121))⟩), (459, ⟨.auto, some (.c (.int .u64 x123))⟩), (467, ⟨.auto, some (.c (.int .u64 x125))⟩), (482, ⟨.auto, some (.c (.int .u64 x127))⟩), (484, ⟨.auto, some (.c (.int .u64 x129))⟩), (485, ⟨.auto, some (.c (.int .u64 x131))⟩), (493, ⟨.auto, some (.c (.int .u64 x133))⟩), (508, ⟨.auto, some (.c (.int .u64 x135))⟩), (510, ⟨.auto, some (.c (.int .u64 x137))⟩), (511, ⟨.auto, some (.c (.int .u64 x139))⟩), (519, ⟨.auto, some (.c (.int .u64 x141))⟩), (534, ⟨.auto, some (.c (.int .u64 x143))⟩), (536, ⟨.auto, some (.c (.int .u64 x145))⟩), (537, ⟨.auto, some (.c (.int .u64 x147))⟩), (549, ⟨.auto, some (.c (.int .u64 x149))⟩), (557, ⟨.auto, some (.c (.int .u64 x151))⟩), (572, ⟨.auto, some (.c (.int .u64 x153))⟩), (573, ⟨.auto, some (.c (.int .u64 x155))⟩), (581, ⟨.auto, some (.c (.int .u64 x157))⟩), (596, ⟨.auto, some (.c (.int .u64 x159))⟩), (598, ⟨.auto, some (.c (.int .u64 x161))⟩), (599, ⟨.auto, some (.c (.int .u64 x163))⟩), (607, ⟨.auto, some (.c (.int .u64 x165))⟩), (622, ⟨.auto, some (.c (.int .u64 x167))⟩), (624, ⟨.auto, some (.c (.int .u64 x169))⟩), (625, ⟨.auto, some (.c (.int .u64 x171))⟩), (633, ⟨.auto, some (.c (.int .u64 x173))⟩), (648, ⟨.auto, some (.c (.int .u64 x175))⟩), (650, ⟨.auto, some (.c (.int .u64 x177))⟩), (651, ⟨.auto, some (.c (.int .u64 x179))⟩), (659, ⟨.auto, some (.c (.int .u64 x181))⟩), (674, ⟨.auto, some (.c (.int .u64 x183))⟩), (676, ⟨.auto, some (.c (.int .u64 x185))⟩), (677, ⟨.auto, some (.c (.int .u64 x187))⟩), (689, ⟨.call [] (.aggi .u64 (W.el r64_188e)) [] [], none⟩)])
    (cs := [Contract Try.prog 84 [(.aggi .u64 [x163, x171, x179, x187, x155])] [] 10049 (.aggi .u64 (W.el r64_188e)) [] [],
      EI .u64 ((x117 + x185) % 18446744073709551616) x187,
      EI .u64 (x183 * x181 % 18446744073709551616) x185,
      EI .u64 (5 * x149 % 18446744073709551616) x183,
      EI .u64 (List.getD (List.take 5 (List.drop 0 (W.el b))) 4 0) x181,
      EI .u64 ((x147 + x177) % 18446744073709551616) x179,
      EI .u64 (x175 * x173 % 18446744073709551616) x177,
      EI .u64 (5 * x149 % 18446744073709551616) x175,
      EI .u64 (List.getD (List.take 5 (List.drop 0 (W.el b))) 3 0) x173,
      EI .u64 ((x139 + x169) % 18446744073709551616) x171,
      EI .u64 (x167 * x165 % 18446744073709551616) x169,
      EI .u64 (5 * x149 % 18446744073709551616) x167,
      EI .u64 (List.getD (List.take 5 (List.drop 0 (W.el b))) 2 0) x165,
      EI .u64 ((x131 + x161) % 18446744073709551616) x163,
      EI .u64 (x159 * x157 % 18446744073709551616) x161,
      EI .u64 (5 * x149 % 18446744073709551616) x159,
      EI .u64 (List.getD (List.take 5 (List.drop 0 (W.el b))) 1 0) x157,
      EI .u64 ((x123 + x153) % 18446744073709551616) x155,
      EI .u64 (x149 * x151 % 18446744073709551616) x153,
      EI .u64 (List.getD (List.take 5 (List.drop 0 (W.el b))) 0 0) x151,
      EI .u64 (List.getD (List.take 5 (List.drop 0 (W.el a))) 4 0) x149,
      EI .u64 ((x81 + x145) % 18446744073709551616) x147,
      EI .u64 (x143 * x141 % 18446744073709551616) x145,
      EI .u64 (5 * x111 % 18446744073709551616) x143,
      EI .u64 (List.getD (List.take 5 (List.drop 0 (W.el b))) 4 0) x141,
      EI .u64 ((x109 + x137) % 18446744073709551616) x139,
      EI .u64 (x135 * x133 % 18446744073709551616) x137,
      EI .u64 (5 * x111 % 18446744073709551616) x135,
      EI .u64 (List.getD (List.take 5 (List.drop 0 (W.el b))) 3 0) x133,
      EI .u64 ((x101 + x129) % 18446744073709551616) x131,
      EI .u64 (x127 * x125 % 18446744073709551616) x129,
      EI .u64 (5 * x111 % 18446744073709551616) x127,
      EI .u64 (List.getD (List.take 5 (List.drop 0 (W.el b))) 2 0) x125,
      EI .u64 ((x93 + x121) % 18446744073709551616) x123,
      EI .u64 (x111 * x119 % 18446744073709551616) x121,
      EI .u64 (List.getD (List.take 5 (List.drop 0 (W.el b))) 1 0) x119,
      EI .u64 ((x87 + x115) % 18446744073709551616) x117,
      EI .u64 (x111 * x113 % 18446744073709551616) x115,
      EI .u64 (List.getD (List.take 5 (List.drop 0 (W.el b))) 0 0) x113,
      EI .u64 (List.getD (List.take 5 (List.drop 0 (W.el a))) 3 0) x111,
      EI .u64 ((x47 + x107) % 18446744073709551616) x109,
      EI .u64 (x105 * x103 % 18446744073709551616) x107,
      EI .u64 (5 * x75 % 18446744073709551616) x105,
      EI .u64 (List.getD (List.take 5 (List.drop 0 (W.el b))) 4 0) x103,
      EI .u64 ((x73 + x99) % 18446744073709551616) x101,
      EI .u64 (x97 * x95 % 18446744073709551616) x99,
      EI .u64 (5 * x75 % 18446744073709551616) x97,
      EI .u64 (List.getD (List.take 5 (List.drop 0 (W.el b))) 3 0) x95,
      EI .u64 ((x65 + x91) % 18446744073709551616) x93,
      EI .u64 (x75 * x89 % 18446744073709551616) x91,
      EI .u64 (List.getD (List.take 5 (List.drop 0 (W.el b))) 2 0) x89,
      EI .u64 ((x59 + x85) % 18446744073709551616) x87,
      EI .u64 (x75 * x83 % 18446744073709551616) x85,
      EI .u64 (List.getD (List.take 5 (List.drop 0 (W.el b))) 1 0) x83,
      EI .u64 ((x53 + x79) % 18446744073709551616) x81,
      EI .u64 (x75 * x77 % 18446744073709551616) x79,
      EI .u64 (List.getD (List.take 5 (List.drop 0 (W.el b))) 0 0) x77,
      EI .u64 (List.getD (List.take 5 (List.drop 0 (W.el a))) 2 0) x75,
      EI .u64 ((x7 + x71) % 18446744073709551616) x73,
      EI .u64 (x69 * x67 % 18446744073709551616) x71,
      EI .u64 (5 * x41 % 18446744073709551616) x69,
      EI .u64 (List.getD (List.take 5 (List.drop 0 (W.el b))) 4 0) x67,
      EI .u64 ((x39 + x63) % 18446744073709551616) x65,
      EI .u64 (x41 * x61 % 18446744073709551616) x63,
      EI .u64 (List.getD (List.take 5 (List.drop 0 (W.el b))) 3 0) x61,
      EI .u64 ((x31 + x57) % 18446744073709551616) x59,
      EI .u64 (x41 * x55 % 18446744073709551616) x57,
      EI .u64 (List.getD (List.take 5 (List.drop 0 (W.el b))) 2 0) x55,
      EI .u64 ((x23 + x51) % 18446744073709551616) x53,
      EI .u64 (x41 * x49 % 18446744073709551616) x51,
      EI .u64 (List.getD (List.take 5 (List.drop 0 (W.el b))) 1 0) x49,
      EI .u64 ((x15 + x45) % 18446744073709551616) x47,
      EI .u64 (x41 * x43 % 18446744073709551616) x45,
      EI .u64 (List.getD (List.take 5 (List.drop 0 (W.el b))) 0 0) x43,
      EI .u64 (List.getD (List.take 5 (List.drop 0 (W.el a))) 1 0) x41,
      EI .u64 ((x35 + x37) % 18446744073709551616) x39,
      EI .u64 (x1 * x33 % 18446744073709551616) x37,
      EI .u64 (List.getD (splice (splice (splice (splice [0, 0, 0, 0, 0] 0 [x7]) 1 [x15]) 2 [x23]) 3 [x31]) 4 0) x35,
      EI .u64 (List.getD (List.take 5 (List.drop 0 (W.el b))) 4 0) x33,
      EI .u64 ((x27 + x29) % 18446744073709551616) x31,
      EI .u64 (x1 * x25 % 18446744073709551616) x29,
      EI .u64 (List.getD (splice (splice (splice [0, 0, 0, 0, 0] 0 [x7]) 1 [x15]) 2 [x23]) 3 0) x27,
      EI .u64 (List.getD (List.take 5 (List.drop 0 (W.el b))) 3 0) x25,
      EI .u64 ((x19 + x21) % 18446744073709551616) x23,
      EI .u64 (x1 * x17 % 18446744073709551616) x21,
      EI .u64 (List.getD (splice (splice [0, 0, 0, 0, 0] 0 [x7]) 1 [x15]) 2 0) x19,
      EI .u64 (List.getD (List.take 5 (List.drop 0 (W.el b))) 2 0) x17,
      EI .u64 ((x11 + x13) % 18446744073709551616) x15,
      EI .u64 (x1 * x9 % 18446744073709551616) x13,
      EI .u64 (List.getD (splice [0, 0, 0, 0, 0] 0 [x7]) 1 0) x11,
      EI .u64 (List.getD (List.take 5 (List.drop 0 (W.el b))) 1 0) x9,
      EI .u64 ((0 + x5) % 18446744073709551616) x7,
      EI .u64 (x1 * x3 % 18446744073709551616) x5,
      EI .u64 (List.getD (List.take 5 (List.drop 0 (W.el b))) 0 0) x3,
      EI .u64 (List.getD (List.take 5 (List.drop 0 (W.el a))) 0 0) x1])
    mixed Try.func60 (by kernel_rfl) (by kernel_rfl) (by kernel_rfl) rfl (by kernel_rfl) ⟨c189.use (by kernel_rfl) rfl rfl _ _, .mk h186, .mk h184, .mk h182, .mk h180, .mk h178, .mk h176, .mk h174, .mk h172, .mk h170, .mk h168, .mk h166, .mk h164, .mk h162, .mk h160, .mk h158, .mk h156, .mk h154, .mk h152, .mk h150, .mk h148, .mk h146, .mk h144, .mk h142, .mk h140, .mk h138, .mk h136, .mk h134, .mk h132, .mk h130, .mk h128, .mk h126, .mk h124, .mk h122, .mk h120, .mk h118, .mk h116, .mk h114, .mk h112, .mk h110, .mk h108, .mk h106, .mk h104, .mk h102, .mk h100, .mk h98, .mk h96, .mk h94, .mk h92, .mk h90, .mk h88, .mk h86, .mk h84, .mk h82, .mk h80, .mk h78, .mk h76, .mk h74, .mk h72, .mk h70, .mk h68, .mk h66, .mk h64, .mk h62, .mk h60, .mk h58, .mk h56, .mk h54, .mk h52, .mk h50, .mk h48, .mk h46, .mk h44, .mk h42, .mk h40, .mk h38, .mk h36, .mk h34, .mk h32, .mk h30, .mk h28, .mk h26, .mk h24, .mk h22, .mk h20, .mk h18, .mk h16, .mk h14, .mk h12, .mk h10, .mk h8, .mk h6, .mk h4, .mk h2, .mk h0, trivial⟩
theorem run46 (a : W.El) (x1 x3 x5 x7 x9 x11 x13 x15 x17 x19 x21 x23 x25 x27 x29 x31 x33 x35 x37 x39 x41 x43 x45 x47 x49 x51 x53 x55 x57 x59 x61 x63 x65 x67 x69 x71 x73 x75 x77 x79 x81 x83 x85 x87 x89 x91 x93 x95 x97 x99 x101 x103 x105 x107 x109 x111 x113 x115 x117 x119 x121 x123 x125 x127 x129 x131 x133 x135 x137 x139 x141 x143 x145 x147 x149 x151 x153 x155 x157 x159 x161 x163 x165 x167 x169 x171 x173 : Int)
    (h0 : (List.getD (W.el a) 0 0) = x1)
    (h2 : (x1 / 1) = x3)
    (h4 : (List.getD (W.el a) 1 0) = x5)
    (h6 : (x5 * 67108864 % 18446744073709551616) = x7)
    (h8 : (bOr IntKind.u64 x3 x7) = x9)
    (h10 : (x9 % 256) = x11)
    (h12 : (List.getD (W.el a) 0 0) = x13)
    (h14 : (x13 / 256) = x15)
    (h16 : (List.getD (W.el a) 1 0) = x17)
    (h18 : (x17 * 262144 % 18446744073709551616) = x19)
    (h20 : (bOr IntKind.u64 x15 x19) = x21)
    (h22 : (x21 % 256) = x23)
    (h24 : (List.getD (W.el a) 0 0) = x25)
    (h26 : (x25 / 65536) = x27)
    (h28 : (List.getD (W.el a) 1 0) = x29)
    (h30 : (x29 * 1024 % 18446744073709551616) = x31)
    (h32 : (bOr IntKind.u64 x27 x31) = x33)
    (h34 : (x33 % 256) = x35)
    (h36 : (List.getD (W.el a) 0 0) = x37)
    (h38 : (x37 / 16777216) = x39)
    (h40 : (List.getD (W.el a) 1 0) = x41)
    (h42 : (x41 * 4 % 18446744073709551616) = x43)
    (h44 : (bOr IntKind.u64 x39 x43) = x45)
    (h46 : (x45 % 256) = x47)
    (h48 : (List.getD (W.el a) 1 0) = x49)
    (h50 : (x49 / 64) = x51)
    (h52 : (List.getD (W.el a) 2 0) = x53)
    (h54 : (x53 * 1048576 % 18446744073709551616) = x55)
    (h56 : (bOr IntKind.u64 x51 x55) = x57)
    (h58 : (x57 % 256) = x59)
    (h60 : (List.getD (W.el a) 1 0) = x61)
    (h62 : (x61 / 16384) = x63)
    (h64 : (List.getD (W.el a) 2 0) = x65)
    (h66 : (x65 * 4096 % 18446744073709551616) = x67)
    (h68 : (bOr IntKind.u64 x63 x67) = x69)
    (h70 : (x69 % 256) = x71)
    (h72 : (List.getD (W.el a) 1 0) = x73)
    (h74 : (x73 / 4194304) = x75)
    (h76 : (List.getD (W.el a) 2 0) = x77)
    (h78 : (x77 * 16 % 18446744073709551616) = x79)
    (h80 : (bOr IntKind.u64 x75 x79) = x81)
    (h82 : (x81 % 256) = x83)
    (h84 : (List.getD (W.el a) 2 0) = x85)
    (h86 : (x85 / 16) = x87)
    (h88 : (List.getD (W.el a) 3 0) = x89)
    (h90 : (x89 * 4194304 % 18446744073709551616) = x91)
    (h92 : (bOr IntKind.u64 x87 x91) = x93)
    (h94 : (x93 % 256) = x95)
    (h96 : (List.getD (W.el a) 2 0) = x97)
    (h98 : (x97 / 4096) = x99)
    (h100 : (List.getD (W.el a) 3 0) = x101)
    (h102 : (x101 * 16384 % 18446744073709551616) = x103)
    (h104 : (bOr IntKind.u64 x99 x103) = x105)
    (h106 : (x105 % 256) = x107)
    (h108 : (List.getD (W.el a) 2 0) = x109)
    (h110 : (x109 / 1048576) = x111)
    (h112 : (List.getD (W.el a) 3 0) = x113)
    (h114 : (x113 * 64 % 18446744073709551616) = x115)
    (h116 : (bOr IntKind.u64 x111 x115) = x117)
    (h118 : (x117 % 256) = x119)
    (h120 : (List.getD (W.el a) 3 0) = x121)
    (h122 : (x121 / 4) = x123)
    (h124 : (List.getD (W.el a) 4 0) = x125)
    (h126 : (x125 * 16777216 % 18446744073709551616) = x127)
    (h128 : (bOr IntKind.u64 x123 x127) = x129)
    (h130 : (x129 % 256) = x131)
    (h132 : (List.getD (W.el a) 3 0) = x133)
    (h134 : (x133 / 1024) = x135)
    (h136 : (List.getD (W.el a) 4 0) = x137)
    (h138 : (x137 * 65536 % 18446744073709551616) = x139)
    (h140 : (bOr IntKind.u64 x135 x139) = x141)
    (h142 : (x141 % 256) = x143)
    (h144 : (List.getD (W.el a) 3 0) = x145)
    (h146 : (x145 / 262144) = x147)
    (h148 : (List.getD (W.el a) 4 0) = x149)
    (h150 : (x149 * 256 % 18446744073709551616) = x151)
    (h152 : (bOr IntKind.u64 x147 x151) = x153)
    (h154 : (x153 % 256) = x155)
    (h156 : (List.getD (W.el a) 4 0) = x157)
    (h158 : (x157 / 1) = x159)
    (h160 : (x159 % 256) = x161)
    (h162 : (List.getD (W.el a) 4 0) = x163)
    (h164 : (x163 / 256) = x165)
    (h166 : (x165 % 256) = x167)
    (h168 : (List.getD (W.el a) 4 0) = x169)
    (h170 : (x169 / 65536) = x171)
    (h172 : (x171 % 256) = x173)   :
    PureF Try.prog 62 [(.aggi .u64 (W.el a))] (.aggi .u8 [x11, x23, x35, x47, x59, x71, x83, x95, x107, x119, x131, x143, x155, x161, x167, x173]) :=
  Contract0.of_frun (fn := Try.f62) (c := bodyOf Try.f62) (fuel := 300) (k := kOf Try.prog Try.f62) (outs := []) (hs := [(19, ⟨.auto, some (.c (.int .u64 x1))⟩), (21, ⟨.auto, some (.c (.int .u64 x3))⟩), (30, ⟨.auto, some (.c (.int .u64 x5))⟩), (33, ⟨.auto, some (.c (.int .u64 x7))⟩), (34, ⟨.auto, some (.c (.int .u64 x9))⟩), (38, ⟨.auto, some (.c (.int .u8 x11))⟩), (58, ⟨.auto, some (.c (.int .u64 x13))⟩), (60, ⟨.auto, some (.c (.int .u64 x15))⟩), (69, ⟨.auto, some (.c (.int .u64 x17))⟩), (72, ⟨.auto, some (.c (.int .u64 x19))⟩), (73, ⟨.auto, some (.c (.int .u64 x21))⟩), (77, ⟨.auto, some (.c (.int .u8 x23))⟩), (97, ⟨.auto, some (.c (.int .u64 x25))⟩), (99, ⟨.auto, some (.c (.int .u64 x27))⟩), (108, ⟨.auto, some (.c (.int .u64 x29))⟩), (111, ⟨.auto, some (.c (.int .u64 x31))⟩), (112, ⟨.auto, some (.c (.int .u64 x33))⟩), (116, ⟨.auto, some (.c (.int .u8 x35))⟩), (136, ⟨.auto, some (.c (.int .u64 x37))⟩), (138, ⟨.auto, some (.c (.int .u64 x39))⟩), (147, ⟨.auto, some (.c (.int .u64 x41))⟩), (150, ⟨.auto, some (.c (.int .u64 x43))⟩), (151, ⟨.auto, some (.c (.int .u64 x45))⟩), (155, ⟨.auto, some (.c (.int .u8 x47))⟩), (175, ⟨.auto, some (.c (.int .u64 x49))⟩), (177, ⟨.auto, some (.c (.int .u64 x51))⟩), (186, ⟨.auto, some (.c (.int .u64 x53))⟩), (189, ⟨.auto, some (.c (.int .u64 x55))⟩), (190, ⟨.auto, some (.c (.int .u64 x57))⟩), (194, ⟨.auto, some (.c (.int .u8 x59))⟩), (214, ⟨.auto, some (.c (.int .u64 x61))⟩), (216, ⟨.auto, some (.c (.int .u64 x63))⟩), (225, ⟨.auto, some (.c (.int .u64 x65))⟩), (228, ⟨.auto, some (.c (.int .u64 x67))⟩), (229, ⟨.auto, some (.c (.int .u64 x69))⟩), (233, ⟨.auto, some (.c (.int .u8 x71))⟩), (253, ⟨.auto, some (.c (.int .u64 x73))⟩), (255, ⟨.auto, some (.c (.int .u64 x75))⟩), (264, ⟨.auto, some (.c (.int .u64 x77))⟩), (267, ⟨.auto, some (.c (.int .u64 x79))⟩), (268, ⟨.auto, some (.c (.int .u64 x81))⟩), (272, ⟨.auto, some (.c (.int .u8 x83))⟩), (292, ⟨.auto, some (.c (.int .u64 x85))⟩), (294, ⟨.auto, some (.c (.int .u64 x87))⟩), (303, ⟨.auto, some (.c (.int .u64 x89))⟩), (306, ⟨.auto, some (.c (.int .u64 x91))⟩), (307, ⟨.auto, some (.c (.int .u64 x93))⟩), (311, ⟨.auto, some (.c (.int .u8 x95))⟩), (331, ⟨.auto, some (.c (.int .u64 x97))⟩), (333, ⟨.auto, some (.c (.int .u64 x99))⟩), (342, ⟨.auto, some (.c (.int .u64 x101))⟩), (345, ⟨.auto, some (.c (.int .u64 x103))⟩), (346, ⟨.auto, some (.c (.int .u64 x105))⟩), (350, ⟨.auto, some (.c (.int .u8 x107))⟩), (370, ⟨.auto, some (.c (.int .u64 x109))⟩), (372, ⟨.auto, some (.c (.int .u64 x111))⟩), (381, ⟨.auto, some (.c (.int .u64 x113))⟩), (384, ⟨.auto, some (.c (.int .u64 x115))⟩), (385, ⟨.auto, some (.c (.int .u64 x117))⟩), (389, ⟨.auto, some (.c (.int .u8 x119))⟩), (409, ⟨.auto, some (.c (.int .u64 x121))⟩), (411, ⟨.auto, some (.c (.int .u64 x123))⟩), (420, ⟨.auto, some (.c (.int .u64 x125))⟩), (423, ⟨.auto, some (.c (.int .u64 x127))⟩), (424, ⟨.auto, some (.c (.int .u64 x129))⟩), (428, ⟨.auto, some (.c (.int .u8 x131))⟩), (448, ⟨.auto, some (.c (.int .u64 x133))⟩), (450, ⟨.auto, some (.c (.int .u64 x135))⟩), (459, ⟨.auto, some (.c (.int .u64 x137))⟩), (462, ⟨.auto, some (.c (.int .u64 x139))⟩), (463, ⟨.auto, some (.c (.int .u64 x141))⟩), (467, ⟨.auto, some (.c (.int .u8 x143))⟩), (487, ⟨.auto, some (.c (.int .u64 x145))⟩), (489, ⟨.auto, some (.c (.int .u64 x147))⟩), (498, ⟨.auto, some (.c (.int .u64 x149))⟩), (501, ⟨.auto, some (.c (.int .u64 x151))⟩), (502, ⟨.auto, some (.c (.int .u64 x153))⟩), (506, ⟨.auto, some (.c (.int .u8 x155))⟩), (526, ⟨.auto, some (.c (.int .u64 x157))⟩), (528, ⟨.auto, some (.c (.int .u64 x159))⟩), (535, ⟨.auto, some (.c (.int .u8 x161))⟩), (555, ⟨.auto, some (.c (.int .u64 x163))⟩), (557, ⟨.auto, some (.c (.int .u64 x165))⟩), (564, ⟨.auto, some (.c (.int .u8 x167))⟩), (584, ⟨.auto, some (.c (.int .u64 x169))⟩), (586, ⟨.auto, some (.c (.int .u64 x171))⟩), (593, ⟨.auto, some (.c (.int .u8 x173))⟩)])
    (cs := [EI .u8 (x171 % 256) x173,
      EI .u64 (x169 / 65536) x171,
      EI .u64 (List.getD (W.el a) 4 0) x169,
      EI .u8 (x165 % 256) x167,
      EI .u64 (x163 / 256) x165,
      EI .u64 (List.getD (W.el a) 4 0) x163,
      EI .u8 (x159 % 256) x161,
      EI .u64 (x157 / 1) x159,
      EI .u64 (List.getD (W.el a) 4 0) x157,
      EI .u8 (x153 % 256) x155,
      EI .u64 (bOr IntKind.u64 x147 x151) x153,
      EI .u64 (x149 * 256 % 18446744073709551616) x151,
      EI .u64 (List.getD (W.el a) 4 0) x149,
      EI .u64 (x145 / 262144) x147,
      EI .u64 (List.getD (W.el a) 3 0) x145,
      EI .u8 (x141 % 256) x143,
      EI .u64 (bOr IntKind.u64 x135 x139) x141,
      EI .u64 (x137 * 65536 % 18446744073709551616) x139,
      EI .u64 (List.getD (W.el a) 4 0) x137,
      EI .u64 (x133 / 1024) x135,
      EI .u64 (List.getD (W.el a) 3 0) x133,
      EI .u8 (x129 % 256) x131,
      EI .u64 (bOr IntKind.u64 x123 x127) x129,
      EI .u64 (x125 * 16777216 % 18446744073709551616) x127,
      EI .u64 (List.getD (W.el a) 4 0) x125,
      EI .u64 (x121 / 4) x123,
      EI .u64 (List.getD (W.el a) 3 0) x121,
      EI .u8 (x117 % 256) x119,
      EI .u64 (bOr IntKind.u64 x111 x115) x117,
      EI .u64 (x113 * 64 % 18446744073709551616) x115,
      EI .u64 (List.getD (W.el a) 3 0) x113,
      EI .u64 (x109 / 1048576) x111,
      EI .u64 (List.getD (W.el a) 2 0) x109,
      EI .u8 (x105 % 256) x107,
      EI .u64 (bOr IntKind.u64 x99 x103) x105,
      EI .u64 (x101 * 16384 % 18446744073709551616) x103,
      EI .u64 (List.getD (W.el a) 3 0) x101,
      EI .u64 (x97 / 4096) x99,
      EI .u64 (List.getD (W.el a) 2 0) x97,
      EI .u8 (x93 % 256) x95,
      EI .u64 (bOr IntKind.u64 x87 x91) x93,
      EI .u64 (x89 * 4194304 % 18446744073709551616) x91,
      EI .u64 (List.getD (W.el a) 3 0) x89,
      EI .u64 (x85 / 16) x87,
      EI .u64 (List.getD (W.el a) 2 0) x85,
      EI .u8 (x81 % 256) x83,
      EI .u64 (bOr IntKind.u64 x75 x79) x81,
      EI .u64 (x77 * 16 % 18446744073709551616) x79,
      EI .u64 (List.getD (W.el a) 2 0) x77,
      EI .u64 (x73 / 4194304) x75,
      EI .u64 (List.getD (W.el a) 1 0) x73,
      EI .u8 (x69 % 256) x71,
      EI .u64 (bOr IntKind.u64 x63 x67) x69,
      EI .u64 (x65 * 4096 % 18446744073709551616) x67,
      EI .u64 (List.getD (W.el a) 2 0) x65,
      EI .u64 (x61 / 16384) x63,
      EI .u64 (List.getD (W.el a) 1 0) x61,
      EI .u8 (x57 % 256) x59,
      EI .u64 (bOr IntKind.u64 x51 x55) x57,
      EI .u64 (x53 * 1048576 % 18446744073709551616) x55,
      EI .u64 (List.getD (W.el a) 2 0) x53,
      EI .u64 (x49 / 64) x51,
      EI .u64 (List.getD (W.el a) 1 0) x49,
      EI .u8 (x45 % 256) x47,
      EI .u64 (bOr IntKind.u64 x39 x43) x45,
      EI .u64 (x41 * 4 % 18446744073709551616) x43,
      EI .u64 (List.getD (W.el a) 1 0) x41,
      EI .u64 (x37 / 16777216) x39,
      EI .u64 (List.getD (W.el a) 0 0) x37,
      EI .u8 (x33 % 256) x35,
      EI .u64 (bOr IntKind.u64 x27 x31) x33,
      EI .u64 (x29 * 1024 % 18446744073709551616) x31,
      EI .u64 (List.getD (W.el a) 1 0) x29,
      EI .u64 (x25 / 65536) x27,
      EI .u64 (List.getD (W.el a) 0 0) x25,
      EI .u8 (x21 % 256) x23,
      EI .u64 (bOr IntKind.u64 x15 x19) x21,
      EI .u64 (x17 * 262144 % 18446744073709551616) x19,
      EI .u64 (List.getD (W.el a) 1 0) x17,
      EI .u64 (x13 / 256) x15,
      EI .u64 (List.getD (W.el a) 0 0) x13,
      EI .u8 (x9 % 256) x11,
      EI .u64 (bOr IntKind.u64 x3 x7) x9,
      EI .u64 (x5 * 67108864 % 18446744073709551616) x7,
      EI .u64 (List.getD (W.el a) 1 0) x5,
      EI .u64 (x1 / 1) x3,
      EI .u64 (List.getD (W.el a) 0 0) x1])
    mixed Try.func62 (by kernel_rfl) (by kernel_rfl) (by kernel_rfl) rfl (by kernel_rfl) ⟨.mk h172, .mk h170, .mk h168, .mk h166, .mk h164, .mk h162, .mk h160, .mk h158, .mk h156, .mk h154, .mk h152, .mk h150, .mk h148, .mk h146, .mk h144, .mk h142, .mk h140, .mk h138, .mk h136, .mk h134, .mk h132, .mk h130, .mk h128, .mk h126, .mk h124, .mk h122, .mk h120, .mk h118, .mk h116, .mk h114, .mk h112, .mk h110, .mk h108, .mk h106, .mk h104, .mk h102, .mk h100, .mk h98, .mk h96, .mk h94, .mk h92, .mk h90, .mk h88, .mk h86, .mk h84, .mk h82, .mk h80, .mk h78, .mk h76, .mk h74, .mk h72, .mk h70, .mk h68, .mk h66, .mk h64, .mk h62, .mk h60, .mk h58, .mk h56, .mk h54, .mk h52, .mk h50, .mk h48, .mk h46, .mk h44, .mk h42, .mk h40, .mk h38, .mk h36, .mk h34, .mk h32, .mk h30, .mk h28, .mk h26, .mk h24, .mk h22, .mk h20, .mk h18, .mk h16, .mk h14, .mk h12, .mk h10, .mk h8, .mk h6, .mk h4, .mk h2, .mk h0, trivial⟩
theorem run45a (a r64_0e r64_2e r64_4e : W.El) (x7 x9 x11 x13 x15 x17 x19 x21 x23 x25 x27 x29 x31 x33 x35 x37 x39 x41 x43 x45 x47 : Int) (q49 : Bool)
    (c1 : PureF Try.prog 84 [(.aggi .u64 (W.el a))] (.aggi .u64 (W.el r64_0e)))
    (c3 : PureF Try.prog 84 [(.aggi .u64 (W.el r64_0e))] (.aggi .u64 (W.el r64_2e)))
    (c5 : PureF Try.prog 84 [(.aggi .u64 (W.el r64_2e))] (.aggi .u64 (W.el r64_4e)))
    (h6 : (List.getD (splice [0, 0, 0, 0, 0] 0 (List.take 5 (List.drop 0 (splice (W.el a) 0 (W.el r64_4e))))) 0 0) = x7)
    (h8 : ((x7 + 5) % 18446744073709551616) = x9)
    (h10 : ((x9 + 0) % 18446744073709551616) = x11)
    (h12 : (x11 / 67108864) = x13)
    (h14 : (bAnd IntKind.u64 x11 67108863) = x15)
    (h16 : (List.getD (splice (splice (splice (splice [0, 0, 0, 0, 0] 0 (List.take 5 (List.drop 0 (splice (W.el a) 0 (W.el r64_4e))))) 0 [x9]) 0 [x11]) 0 [x15]) 1 0) = x17)
    (h18 : ((x17 + x13) % 18446744073709551616) = x19)
    (h20 : (x19 / 67108864) = x21)
    (h22 : (bAnd IntKind.u64 x19 67108863) = x23)
    (h24 : (List.getD (splice (splice (splice (splice (splice (splice [0, 0, 0, 0, 0] 0 (List.take 5 (List.drop 0 (splice (W.el a) 0 (W.el r64_4e))))) 0 [x9]) 0 [x11]) 0 [x15]) 1 [x19]) 1 [x23]) 2 0) = x25)
    (h26 : ((x25 + x21) % 18446744073709551616) = x27)
    (h28 : (x27 / 67108864) = x29)
    (h30 : (bAnd IntKind.u64 x27 67108863) = x31)
    (h32 : (List.getD (splice (splice (splice (splice (splice (splice (splice (splice [0, 0, 0, 0, 0] 0 (List.take 5 (List.drop 0 (splice (W.el a) 0 (W.el r64_4e))))) 0 [x9]) 0 [x11]) 0 [x15]) 1 [x19]) 1 [x23]) 2 [x27]) 2 [x31]) 3 0) = x33)
    (h34 : ((x33 + x29) % 18446744073709551616) = x35)
    (h36 : (x35 / 67108864) = x37)
    (h38 : (bAnd IntKind.u64 x35 67108863) = x39)
    (h40 : (List.getD (splice (splice (splice (splice (splice (splice (splice (splice (splice (splice [0, 0, 0, 0, 0] 0 (List.take 5 (List.drop 0 (splice (W.el a) 0 (W.el r64_4e))))) 0 [x9]) 0 [x11]) 0 [x15]) 1 [x19]) 1 [x23]) 2 [x27]) 2 [x31]) 3 [x35]) 3 [x39]) 4 0) = x41)
    (h42 : ((x41 + x37) % 18446744073709551616) = x43)
    (h44 : (x43 / 67108864) = x45)
    (h46 : (bAnd IntKind.u64 x43 67108863) = x47)
    (h48 : (x45 == 1) = q49)
    (h50 : q49 = true)   :
    PureF Try.prog 61 [(.aggi .u64 (W.el a))] (.aggi .u64 [x15, x23, x31, x39, x47]) :=
  Contract0.of_frun (fn := Try.f61) (c := bodyOf Try.f61) (fuel := 300) (k := kOf Try.prog Try.f61) (outs := []) (hs := [(3, ⟨.call [] (.aggi .u64 (W.el r64_0e)) [] [], none⟩), (4, ⟨.call [] (.aggi .u64 (W.el r64_2e)) [] [], none⟩), (5, ⟨.call [] (.aggi .u64 (W.el r64_4e)) [] [], none⟩), (11, ⟨.auto, some (.c (.int .u64 x7))⟩), (12, ⟨.auto, some (.c (.int .u64 x9))⟩), (25, ⟨.auto, some (.c (.int .u64 x11))⟩), (31, ⟨.auto, some (.c (.int .u64 x13))⟩), (36, ⟨.auto, some (.c (.int .u64 x15))⟩), (47, ⟨.auto, some (.c (.int .u64 x17))⟩), (49, ⟨.auto, some (.c (.int .u64 x19))⟩), (55, ⟨.auto, some (.c (.int .u64 x21))⟩), (60, ⟨.auto, some (.c (.int .u64 x23))⟩), (71, ⟨.auto, some (.c (.int .u64 x25))⟩), (73, ⟨.auto, some (.c (.int .u64 x27))⟩), (79, ⟨.auto, some (.c (.int .u64 x29))⟩), (84, ⟨.auto, some (.c (.int .u64 x31))⟩), (95, ⟨.auto, some (.c (.int .u64 x33))⟩), (97, ⟨.auto, some (.c (.int .u64 x35))⟩), (103, ⟨.auto, some (.c (.int .u64 x37))⟩), (108, ⟨.auto, some (.c (.int .u64 x39))⟩), (119, ⟨.auto, some (.c (.int .u64 x41))⟩), (121, ⟨.auto, some (.c (.int .u64 x43))⟩), (127, ⟨.auto, some (.c (.int .u64 x45))⟩), (132, ⟨.auto, some (.c (.int .u64 x47))⟩), (140, ⟨.auto, some (.c (.bool q49))⟩), (141, ⟨.auto, some (.c (.bool true))⟩)])
    (cs := [q49 = true,
      EB (x45 == 1) q49,
      EI .u64 (bAnd IntKind.u64 x43 67108863) x47,
      EI .u64 (x43 / 67108864) x45,
      EI .u64 ((x41 + x37) % 18446744073709551616) x43,
      EI .u64 (List.getD (splice (splice (splice (splice (splice (splice (splice (splice (splice (splice [0, 0, 0, 0, 0] 0 (List.take 5 (List.drop 0 (splice (W.el a) 0 (W.el r64_4e))))) 0 [x9]) 0 [x11]) 0 [x15]) 1 [x19]) 1 [x23]) 2 [x27]) 2 [x31]) 3 [x35]) 3 [x39]) 4 0) x41,
      EI .u64 (bAnd IntKind.u64 x35 67108863) x39,
      EI .u64 (x35 / 67108864) x37,
      EI .u64 ((x33 + x29) % 18446744073709551616) x35,
      EI .u64 (List.getD (splice (splice (splice (splice (splice (splice (splice (splice [0, 0, 0, 0, 0] 0 (List.take 5 (List.drop 0 (splice (W.el a) 0 (W.el r64_4e))))) 0 [x9]) 0 [x11]) 0 [x15]) 1 [x19]) 1 [x23]) 2 [x27]) 2 [x31]) 3 0) x33,
      EI .u64 (bAnd IntKind.u64 x27 67108863) x31,
      EI .u64 (x27 / 67108864) x29,
      EI .u64 ((x25 + x21) % 18446744073709551616) x27,
      EI .u64 (List.getD (splice (splice (splice (splice (splice (splice [0, 0, 0, 0, 0] 0 (List.take 5 (List.drop 0 (splice (W.el a) 0 (W.el r64_4e))))) 0 [x9]) 0 [x11]) 0 [x15]) 1 [x19]) 1 [x23]) 2 0) x25,
      EI .u64 (bAnd IntKind.u64 x19 67108863) x23,
      EI .u64 (x19 / 67108864) x21,
      EI .u64 ((x17 + x13) % 18446744073709551616) x19,
      EI .u64 (List.getD (splice (splice (splice (splice [0, 0, 0, 0, 0] 0 (List.take 5 (List.drop 0 (splice (W.el a) 0 (W.el r64_4e))))) 0 [x9]) 0 [x11]) 0 [x15]) 1 0) x17,
      EI .u64 (bAnd IntKind.u64 x11 67108863) x15,
      EI .u64 (x11 / 67108864) x13,
      EI .u64 ((x9 + 0) % 18446744073709551616) x11,
      EI .u64 ((x7 + 5) % 18446744073709551616) x9,
      EI .u64 (List.getD (splice [0, 0, 0, 0, 0] 0 (List.take 5 (List.drop 0 (splice (W.el a) 0 (W.el r64_4e))))) 0 0) x7,
      Contract Try.prog 84 [(.aggi .u64 (W.el r64_2e))] [] 81 (.aggi .u64 (W.el r64_4e)) [] [],
      Contract Try.prog 84 [(.aggi .u64 (W.el r64_0e))] [] 65 (.aggi .u64 (W.el r64_2e)) [] [],
      Contract Try.prog 84 [(.aggi .u64 (W.el a))] [] 49 (.aggi .u64 (W.el r64_0e)) [] []])
    mixed Try.func61 (by kernel_rfl) (by kernel_rfl) (by kernel_rfl) rfl (by kernel_rfl) ⟨h50, .mk h48, .mk h46, .mk h44, .mk h42, .mk h40, .mk h38, .mk h36, .mk h34, .mk h32, .mk h30, .mk h28, .mk h26, .mk h24, .mk h22, .mk h20, .mk h18, .mk h16, .mk h14, .mk h12, .mk h10, .mk h8, .mk h6, c5.use (by kernel_rfl) rfl rfl _ _, c3.use (by kernel_rfl) rfl rfl _ _, c1.use (by kernel_rfl) rfl rfl _ _, trivial⟩
theorem run45b (a r64_0e r64_2e r64_4e : W.El) (x7 x9 x11 x13 x15 x17 x19 x21 x23 x25 x27 x29 x31 x33 x35 x37 x39 x41 x43 x45 x47 : Int) (q49 : Bool)
    (c1 : PureF Try.prog 84 [(.aggi .u64 (W.el a))] (.aggi .u64 (W.el r64_0e)))
    (c3 : PureF Try.prog 84 [(.aggi .u64 (W.el r64_0e))] (.aggi .u64 (W.el r64_2e)))
    (c5 : PureF Try.prog 84 [(.aggi .u64 (W.el r64_2e))] (.aggi .u64 (W.el r64_4e)))
    (h6 : (List.getD (splice [0, 0, 0, 0, 0] 0 (List.take 5 (List.drop 0 (splice (W.el a) 0 (W.el r64_4e))))) 0 0) = x7)
    (h8 : ((x7 + 5) % 18446744073709551616) = x9)
    (h10 : ((x9 + 0) % 18446744073709551616) = x11)
    (h12 : (x11 / 67108864) = x13)
    (h14 : (bAnd IntKind.u64 x11 67108863) = x15)
    (h16 : (List.getD (splice (splice (splice (splice [0, 0, 0, 0, 0] 0 (List.take 5 (List.drop 0 (splice (W.el a) 0 (W.el r64_4e))))) 0 [x9]) 0 [x11]) 0 [x15]) 1 0) = x17)
    (h18 : ((x17 + x13) % 18446744073709551616) = x19)
    (h20 : (x19 / 67108864) = x21)
    (h22 : (bAnd IntKind.u64 x19 67108863) = x23)
    (h24 : (List.getD (splice (splice (splice (splice (splice (splice [0, 0, 0, 0, 0] 0 (List.take 5 (List.drop 0 (splice (W.el a) 0 (W.el r64_4e))))) 0 [x9]) 0 [x11]) 0 [x15]) 1 [x19]) 1 [x23]) 2 0) = x25)
    (h26 : ((x25 + x21) % 18446744073709551616) = x27)
    (h28 : (x27 / 67108864) = x29)
    (h30 : (bAnd IntKind.u64 x27 67108863) = x31)
    (h32 : (List.getD (splice (splice (splice (splice (splice (splice (splice (splice [0, 0, 0, 0, 0] 0 (List.take 5 (List.drop 0 (splice (W.el a) 0 (W.el r64_4e))))) 0 [x9]) 0 [x11]) 0 [x15]) 1 [x19]) 1 [x23]) 2 [x27]) 2 [x31]) 3 0) = x33)
    (h34 : ((x33 + x29) % 18446744073709551616) = x35)
    (h36 : (x35 / 67108864) = x37)
    (h38 : (bAnd IntKind.u64 x35 67108863) = x39)
    (h40 : (List.getD (splice (splice (splice (splice (splice (splice (splice (splice (splice (splice [0, 0, 0, 0, 0] 0 (List.take 5 (List.drop 0 (splice (W.el a) 0 (W.el r64_4e))))) 0 [x9]) 0 [x11]) 0 [x15]) 1 [x19]) 1 [x23]) 2 [x27]) 2 [x31]) 3 [x35]) 3 [x39]) 4 0) = x41)
    (h42 : ((x41 + x37) % 18446744073709551616) = x43)
    (h44 : (x43 / 67108864) = x45)
    (h46 : (bAnd IntKind.u64 x43 67108863) = x47)
    (h48 : (x45 == 1) = q49)
    (h50 : q49 = false)   :
    PureF Try.prog 61 [(.aggi .u64 (W.el a))] (.aggi .u64 (W.el r64_4e)) :=
  Contract0.of_frun (fn := Try.f61) (c := bodyOf Try.f61) (fuel := 300) (k := kOf Try.prog Try.f61) (outs := []) (hs := [(3, ⟨.call [] (.aggi .u64 (W.el r64_0e)) [] [], none⟩), (4, ⟨.call [] (.aggi .u64 (W.el r64_2e)) [] [], none⟩), (5, ⟨.call [] (.aggi .u64 (W.el r64_4e)) [] [], none⟩), (11, ⟨.auto, some (.c (.int .u64 x7))⟩), (12, ⟨.auto, some (.c (.int .u64 x9))⟩), (25, ⟨.auto, some (.c (.int .u64 x11))⟩), (31, ⟨.auto, some (.c (.int .u64 x13))⟩), (36, ⟨.auto, some (.c (.int .u64 x15))⟩), (47, ⟨.auto, some (.c (.int .u64 x17))⟩), (49, ⟨.auto, some (.c (.int .u64 x19))⟩), (55, ⟨.auto, some (.c (.int .u64 x21))⟩), (60, ⟨.auto, some (.c (.int .u64 x23))⟩), (71, ⟨.auto, some (.c (.int .u64 x25))⟩), (73, ⟨.auto, some (.c (.int .u64 x27))⟩), (79, ⟨.auto, some (.c (.int .u64 x29))⟩), (84, ⟨.auto, some (.c (.int .u64 x31))⟩), (95, ⟨.auto, some (.c (.int .u64 x33))⟩), (97, ⟨.auto, some (.c (.int .u64 x35))⟩), (103, ⟨.auto, some (.c (.int .u64 x37))⟩), (108, ⟨.auto, some (.c (.int .u64 x39))⟩), (119, ⟨.auto, some (.c (.int .u64 x41))⟩), (121, ⟨.auto, some (.c (.int .u64 x43))⟩), (127, ⟨.auto, some (.c (.int .u64 x45))⟩), (132, ⟨.auto, some (.c (.int .u64 x47))⟩), (140, ⟨.auto, some (.c (.bool q49))⟩), (141, ⟨.auto, some (.c (.bool false))⟩)])
    (cs := [q49 = false,
      EB (x45 == 1) q49,
      EI .u64 (bAnd IntKind.u64 x43 67108863) x47,
      EI .u64 (x43 / 67108864) x45,
      EI .u64 ((x41 + x37) % 18446744073709551616) x43,
      EI .u64 (List.getD (splice (splice (splice (splice (splice (splice (splice (splice (splice (splice [0, 0, 0, 0, 0] 0 (List.take 5 (List.drop 0 (splice (W.el a) 0 (W.el r64_4e))))) 0 [x9]) 0 [x11]) 0 [x15]) 1 [x19]) 1 [x23]) 2 [x27]) 2 [x31]) 3 [x35]) 3 [x39]) 4 0) x41,
      EI .u64 (bAnd IntKind.u64 x35 67108863) x39,
      EI .u64 (x35 / 67108864) x37,
      EI .u64 ((x33 + x29) % 18446744073709551616) x35,
      EI .u64 (List.getD (splice (splice (splice (splice (splice (splice (splice (splice [0, 0, 0, 0, 0] 0 (List.take 5 (List.drop 0 (splice (W.el a) 0 (W.el r64_4e))))) 0 [x9]) 0 [x11]) 0 [x15]) 1 [x19]) 1 [x23]) 2 [x27]) 2 [x31]) 3 0) x33,
      EI .u64 (bAnd IntKind.u64 x27 67108863) x31,
      EI .u64 (x27 / 67108864) x29,
      EI .u64 ((x25 + x21) % 18446744073709551616) x27,
      EI .u64 (List.getD (splice (splice (splice (splice (splice (splice [0, 0, 0, 0, 0] 0 (List.take 5 (List.drop 0 (splice (W.el a) 0 (W.el r64_4e))))) 0 [x9]) 0 [x11]) 0 [x15]) 1 [x19]) 1 [x23]) 2 0) x25,
      EI .u64 (bAnd IntKind.u64 x19 67108863) x23,
      EI .u64 (x19 / 67108864) x21,
      EI .u64 ((x17 + x13) % 18446744073709551616) x19,
      EI .u64 (List.getD (splice (splice (splice (splice [0, 0, 0, 0, 0] 0 (List.take 5 (List.drop 0 (splice (W.el a) 0 (W.el r64_4e))))) 0 [x9]) 0 [x11]) 0 [x15]) 1 0) x17,
      EI .u64 (bAnd IntKind.u64 x11 67108863) x15,
      EI .u64 (x11 / 67108864) x13,
      EI .u64 ((x9 + 0) % 18446744073709551616) x11,
      EI .u64 ((x7 + 5) % 18446744073709551616) x9,
      EI .u64 (List.getD (splice [0, 0, 0, 0, 0] 0 (List.take 5 (List.drop 0 (splice (W.el a) 0 (W.el r64_4e))))) 0 0) x7,
      Contract Try.prog 84 [(.aggi .u64 (W.el r64_2e))] [] 81 (.aggi .u64 (W.el r64_4e)) [] [],
      Contract Try.prog 84 [(.aggi .u64 (W.el r64_0e))] [] 65 (.aggi .u64 (W.el r64_2e)) [] [],
      Contract Try.prog 84 [(.aggi .u64 (W.el a))] [] 49 (.aggi .u64 (W.el r64_0e)) [] []])
    mixed Try.func61 (by kernel_rfl) (by kernel_rfl) (by kernel_rfl) rfl (by kernel_rfl) ⟨h50, .mk h48, .mk h46, .mk h44, .mk h42, .mk h40, .mk h38, .mk h36, .mk h34, .mk h32, .mk h30, .mk h28, .mk h26, .mk h24, .mk h22, .mk h20, .mk h18, .mk h16, .mk h14, .mk h12, .mk h10, .mk h8, .mk h6, c5.use (by kernel_rfl) rfl rfl _ _, c3.use (by kernel_rfl) rfl rfl _ _, c1.use (by kernel_rfl) rfl rfl _ _, trivial⟩
def L18I (k l : List Int) (r43_86e : W.El) (p m : Nat) (a0 a1 a2 a3 a4 : Int) : S0 :=
  ⟨[(2, (.c (.ptr 2 0 0))), (4, (.c (.ptr 18 0 0))), (8, (.c (.ptr 4290 0 0))), (9, (.c (.ptr 4322 0 0))), (1, (.c (.sl 1 0 p m 1)))], [(1, (.one ⟨false, false, (.ints .u8 l)⟩)), (2, (.one ⟨true, true, (.ints .u8 k)⟩)), (18, (.one ⟨true, true, (.ints .u8 [0, 0, 0, 0, 0, 0, 0, 0, 0, 0, 0, 0, 0, 0, 0, 0])⟩)), (4290, (.one ⟨true, true, (.ints .u64 (W.el r43_86e))⟩)), (4322, (.one ⟨true, true, .ints .u64 [a0, a1, a2, a3, a4]⟩))], 4338⟩
def L18J (k l : List Int) (r43_86e : W.El) (p m : Nat) (a0 a1 a2 a3 a4 : Int) : S0 :=
  ⟨[(2, (.c (.ptr 2 0 0))), (4, (.c (.ptr 18 0 0))), (8, (.c (.ptr 4290 0 0))), (9, (.c (.ptr 4322 0 0))), (1, (.c (.sl 1 0 p m 1)))], [(1, (.one ⟨false, false, (.ints .u8 l)⟩)), (2, (.one ⟨true, true, (.ints .u8 k)⟩)), (18, (.one ⟨true, true, (.ints .u8 [0, 0, 0, 0, 0, 0, 0, 0, 0, 0, 0, 0, 0, 0, 0, 0])⟩)), (4290, (.one ⟨true, true, (.ints .u64 (W.el r43_86e))⟩)), (4322, (.one ⟨true, true, .ints .u64 [a0, a1, a2, a3, a4]⟩))], 4338⟩
theorem run18_go (k l : List Int) (r43_86e : W.El) (p m : Nat) (a0 a1 a2 a3 a4 x89 x92 x94 x97 : Int) (r43_103e : W.El) (x106 x108 x110 x112 x114 x116 x118 x120 x122 x124 : Int) (r44_125e : W.El)
    (h88 : (↑m) = x89)
    (h90 : (decide (x89 > 0)) = true)
    (h91 : (↑m) = x92)
    (h93 : (bif decide (x92 < 16) then x92 else 16) = x94)
    (c95 : ((0 : Int) ≤ (0 : Int) ∧ (0 : Int) ≤ x94 ∧ x94 ≤ (↑m : Int)))
    (h96 : (↑(min (Int.toNat (x94 - 0)) 17)) = x97)
    (c98 : (addO p (0 : Nat) + Int.toNat (x94 - (0 : Int)) * (1 : Nat) ≤ List.length l ∧ (17 : Nat) ≤ (17 : Nat)))
    (c99 : ((0 : Int) ≤ x94 ∧ x94 < (17 : Int)))
    (c100 : (addO (0 : Nat) (mulE (Int.toNat x94) (1 : Nat)) + (1 : Nat) ≤ List.length (splice [(0 : Int), (0 : Int), (0 : Int), (0 : Int), (0 : Int), (0 : Int), (0 : Int), (0 : Int), (0 : Int), (0 : Int), (0 : Int), (0 : Int), (0 : Int), (0 : Int), (0 : Int), (0 : Int), (0 : Int)] (0 : Nat) (List.take (mulE (min (Int.toNat (x94 - (0 : Int))) (17 : Nat)) (1 : Nat)) (List.drop (0 : Nat) (List.take (mulE (Int.toNat (x94 - (0 : Int))) (1 : Nat)) (List.drop (addO p (0 : Nat)) l))))) ∧ (1 : Nat) = (1 : Nat)))
    (c101 : ((0 : Int) ≤ x94 ∧ x94 ≤ (↑m : Int) ∧ (↑m : Int) ≤ (↑m : Int)))
    (c102 : ((17 : Nat) ≤ List.length (splice (splice [(0 : Int), (0 : Int), (0 : Int), (0 : Int), (0 : Int), (0 : Int), (0 : Int), (0 : Int), (0 : Int), (0 : Int), (0 : Int), (0 : Int), (0 : Int), (0 : Int), (0 : Int), (0 : Int), (0 : Int)] (0 : Nat) (List.take (mulE (min (Int.toNat (x94 - (0 : Int))) (17 : Nat)) (1 : Nat)) (List.drop (0 : Nat) (List.take (mulE (Int.toNat (x94 - (0 : Int))) (1 : Nat)) (List.drop (addO p (0 : Nat)) l))))) (addO (0 : Nat) (mulE (Int.toNat x94) (1 : Nat))) [(1 : Int)])))
    (c104 : PureF Try.prog 59 [(.aggi .u8 (List.take 17 (List.drop 0 (splice (splice [0, 0, 0, 0, 0, 0, 0, 0, 0, 0, 0, 0, 0, 0, 0, 0, 0] 0 (List.take (mulE (min (Int.toNat (x94 - 0)) 17) 1) (List.drop 0 (List.take (mulE (Int.toNat (x94 - 0)) 1) (List.drop (addO p 0) l))))) (addO 0 (mulE (Int.toNat x94) 1)) [1]))))] (.aggi .u64 (W.el r43_103e)))
    (h105 : (List.getD (W.el r43_103e) 0 0) = x106)
    (h107 : ((a0 + x106) % 18446744073709551616) = x108)
    (h109 : (List.getD (W.el r43_103e) 1 0) = x110)
    (h111 : ((a1 + x110) % 18446744073709551616) = x112)
    (h113 : (List.getD (W.el r43_103e) 2 0) = x114)
    (h115 : ((a2 + x114) % 18446744073709551616) = x116)
    (h117 : (List.getD (W.el r43_103e) 3 0) = x118)
    (h119 : ((a3 + x118) % 18446744073709551616) = x120)
    (h121 : (List.getD (W.el r43_103e) 4 0) = x122)
    (h123 : ((a4 + x122) % 18446744073709551616) = x124)
    (c126 : PureF Try.prog 60 [(.aggi .u64 [x108, x112, x116, x120, x124]), (.aggi .u64 (W.el r43_86e))] (.aggi .u64 (W.el r44_125e))) :
    CodeOk Try.prog 95 4338 (kAt (kOf Try.prog Try.f18) [true, true, true, true, true, true, false, false, false]) (L18I k l r43_86e p m a0 a1 a2 a3 a4) .normal (L18I k l r43_86e (addO p (mulE (Int.toNat x94) 1)) (Int.toNat (↑m - x94)) (W.El.a0 r44_125e) (W.El.a1 r44_125e) (W.El.a2 r44_125e) (W.El.a3 r44_125e) (W.El.a4 r44_125e)) :=
  CodeOk.of_runs (fuel := 300) (v := ⟨[2, 4, 8, 9, 1], [1, 2, 18, 4290, 4322], [], 4338⟩) (hs := [(1, ⟨.auto, some (.c (.int .i64 x89))⟩), (2, ⟨.auto, some (.c (.bool (true)))⟩), (5, ⟨.auto, some (.c (.int .i64 x92))⟩), (6, ⟨.auto, some (.c (.int .i64 x94))⟩), (12, ⟨.ask, none⟩), (13, ⟨.ask, some (.c (.int .i64 x97))⟩), (15, ⟨.ask, none⟩), (16, ⟨.ask, none⟩), (19, ⟨.ask, none⟩), (21, ⟨.ask, none⟩), (22, ⟨.call [] (.aggi .u64 (W.el r43_103e)) [] [], none⟩), (27, ⟨.auto, some (.c (.int .u64 x106))⟩), (34, ⟨.auto, some (.c (.int .u64 x108))⟩), (42, ⟨.auto, some (.c (.int .u64 x110))⟩), (49, ⟨.auto, some (.c (.int .u64 x112))⟩), (57, ⟨.auto, some (.c (.int .u64 x114))⟩), (64, ⟨.auto, some (.c (.int .u64 x116))⟩), (72, ⟨.auto, some (.c (.int .u64 x118))⟩), (79, ⟨.auto, some (.c (.int .u64 x120))⟩), (87, ⟨.auto, some (.c (.int .u64 x122))⟩), (94, ⟨.auto, some (.c (.int .u64 x124))⟩), (103, ⟨.call [] (.aggi .u64 (W.el r44_125e)) [] [], none⟩)])
    (cs := [Contract Try.prog 60 [(.aggi .u64 [x108, x112, x116, x120, x124]), (.aggi .u64 (W.el r43_86e))] [] 5874 (.aggi .u64 (W.el r44_125e)) [] [],
      EI .u64 ((a4 + x122) % 18446744073709551616) x124,
      EI .u64 (List.getD (W.el r43_103e) 4 0) x122,
      EI .u64 ((a3 + x118) % 18446744073709551616) x120,
      EI .u64 (List.getD (W.el r43_103e) 3 0) x118,
      EI .u64 ((a2 + x114) % 18446744073709551616) x116,
      EI .u64 (List.getD (W.el r43_103e) 2 0) x114,
      EI .u64 ((a1 + x110) % 18446744073709551616) x112,
      EI .u64 (List.getD (W.el r43_103e) 1 0) x110,
      EI .u64 ((a0 + x106) % 18446744073709551616) x108,
      EI .u64 (List.getD (W.el r43_103e) 0 0) x106,
      Contract Try.prog 59 [(.aggi .u8 (List.take 17 (List.drop 0 (splice (splice [0, 0, 0, 0, 0, 0, 0, 0, 0, 0, 0, 0, 0, 0, 0, 0, 0] 0 (List.take (mulE (min (Int.toNat (x94 - 0)) 17) 1) (List.drop 0 (List.take (mulE (Int.toNat (x94 - 0)) 1) (List.drop (addO p 0) l))))) (addO 0 (mulE (Int.toNat x94) 1)) [1]))))] [] 4674 (.aggi .u64 (W.el r43_103e)) [] [],
      ((17 : Nat) ≤ List.length (splice (splice [(0 : Int), (0 : Int), (0 : Int), (0 : Int), (0 : Int), (0 : Int), (0 : Int), (0 : Int), (0 : Int), (0 : Int), (0 : Int), (0 : Int), (0 : Int), (0 : Int), (0 : Int), (0 : Int), (0 : Int)] (0 : Nat) (List.take (mulE (min (Int.toNat (x94 - (0 : Int))) (17 : Nat)) (1 : Nat)) (List.drop (0 : Nat) (List.take (mulE (Int.toNat (x94 - (0 : Int))) (1 : Nat)) (List.drop (addO p (0 : Nat)) l))))) (addO (0 : Nat) (mulE (Int.toNat x94) (1 : Nat))) [(1 : Int)])),
      ((0 : Int) ≤ x94 ∧ x94 ≤ (↑m : Int) ∧ (↑m : Int) ≤ (↑m : Int)),
      (addO (0 : Nat) (mulE (Int.toNat x94) (1 : Nat)) + (1 : Nat) ≤ List.length (splice [(0 : Int), (0 : Int), (0 : Int), (0 : Int), (0 : Int), (0 : Int), (0 : Int), (0 : Int), (0 : Int), (0 : Int), (0 : Int), (0 : Int), (0 : Int), (0 : Int), (0 : Int), (0 : Int), (0 : Int)] (0 : Nat) (List.take (mulE (min (Int.toNat (x94 - (0 : Int))) (17 : Nat)) (1 : Nat)) (List.drop (0 : Nat) (List.take (mulE (Int.toNat (x94 - (0 : Int))) (1 : Nat)) (List.drop (addO p (0 : Nat)) l))))) ∧ (1 : Nat) = (1 : Nat)),
      ((0 : Int) ≤ x94 ∧ x94 < (17 : Int)),
      EI .i64 (↑(min (Int.toNat (x94 - 0)) 17)) x97,
      (addO p (0 : Nat) + Int.toNat (x94 - (0 : Int)) * (1 : Nat) ≤ List.length l ∧ (17 : Nat) ≤ (17 : Nat)),
      ((0 : Int) ≤ (0 : Int) ∧ (0 : Int) ≤ x94 ∧ x94 ≤ (↑m : Int)),
      EI .i64 (bif decide (x92 < 16) then x92 else 16) x94,
      EI .i64 (↑m) x92,
      EB (decide (x89 > 0)) true,
      EI .i64 (↑m) x89])
    mixed (by kernel_rfl) ⟨c126.use (by kernel_rfl) rfl rfl _ _, .mk h123, .mk h121, .mk h119, .mk h117, .mk h115, .mk h113, .mk h111, .mk h109, .mk h107, .mk h105, c104.use (by kernel_rfl) rfl rfl _ _, c102, c101, c100, c99, .mk h96, c98, c95, .mk h93, .mk h91, .mk h90, .mk h88, trivial⟩
theorem run18_out (k l : List Int) (r43_86e : W.El) (p m : Nat) (a0 a1 a2 a3 a4 x89 : Int)
    (h88 : (↑m) = x89)
    (h90 : (decide (x89 > 0)) = false) :
    CodeOk Try.prog 95 4338 (kAt (kOf Try.prog Try.f18) [true, true, true, true, true, true, false, false, false]) (L18I k l r43_86e p m a0 a1 a2 a3 a4) (.exit 2) (L18J k l r43_86e p m a0 a1 a2 a3 a4) :=
  CodeOk.of_runs (fuel := 300) (v := ⟨[2, 4, 8, 9, 1], [1, 2, 18, 4290, 4322], [], 4338⟩) (hs := [(1, ⟨.auto, some (.c (.int .i64 x89))⟩), (2, ⟨.auto, some (.c (.bool (false)))⟩)])
    (cs := [EB (decide (x89 > 0)) false,
      EI .i64 (↑m) x89])
    mixed (by kernel_rfl) ⟨.mk h90, .mk h88, trivial⟩
theorem run18 (k l : List Int) (o n : Nat) (x7 x10 x12 x15 x17 x20 x22 x25 x27 x30 x32 x35 x37 x40 x42 x45 x47 x50 x52 x55 x57 x60 x62 x65 x67 x70 x72 x75 x77 x80 x82 x85 : Int) (r43_86e : W.El) (p m : Nat) (a0 a1 a2 a3 a4 : Int) (r45_89e : W.El) (r46_91 r46_92 r46_93 r46_94 r46_95 r46_96 r46_97 r46_98 r46_99 r46_100 r46_101 r46_102 r46_103 r46_104 r46_105 r46_106 x109 x111 x114 x116 x118 x120 x122 x124 x126 x129 x131 x133 x135 x137 x139 x141 x144 x146 x148 x150 x152 x154 x156 x159 x161 x163 x165 x167 x169 x171 x174 x176 x178 x180 x182 x184 x186 x189 x191 x193 x195 x197 x199 x201 x204 x206 x208 x210 x212 x214 x216 x219 x221 x223 x225 x227 x229 x231 x234 x236 x238 x240 x242 x244 x246 x249 x251 x253 x255 x257 x259 x261 x264 x266 x268 x270 x272 x274 x276 x279 x281 x283 x285 x287 x289 x291 x294 x296 x298 x300 x302 x304 x306 x309 x311 x313 x315 x317 x319 x321 x324 x326 x328 x330 x332 x334 x336 x339 x341 x343 x345 x347 : Int)
    (c1 : Contract0 Try.prog 58 [(.c (.int .u64 1152921487695413247))] [] 1 (.c (.sl 33 0 0 8 1)) [] [(33, (.one ⟨true, true, (.ints .u8 [255, 255, 255, 15, 252, 255, 255, 15])⟩))])
    (c3 : Contract0 Try.prog 58 [(.c (.int .u64 1152921487695413244))] [] 1 (.c (.sl 33 0 0 8 1)) [] [(33, (.one ⟨true, true, (.ints .u8 [252, 255, 255, 15, 252, 255, 255, 15])⟩))])
    (c5 : Contract0 Try.prog 57 [(.c (.sl 1 0 0 2 1))] [(1, (.one ⟨false, true, (.cells [(.sl 2 0 0 8 1), (.sl 3 0 0 8 1)])⟩)), (2, (.one ⟨false, true, (.ints .u8 [255, 255, 255, 15, 252, 255, 255, 15])⟩)), (3, (.one ⟨false, true, (.ints .u8 [252, 255, 255, 15, 252, 255, 255, 15])⟩))] 4 (.c (.sl 356 0 0 16 1)) [] [(356, (.one ⟨true, false, (.ints .u8 [255, 255, 255, 15, 252, 255, 255, 15, 252, 255, 255, 15, 252, 255, 255, 15])⟩))])
    (h6 : (List.getD k 0 0) = x7)
    (c8 : ((1 : Nat) ≤ List.length k))
    (h9 : (bAnd IntKind.u8 x7 255) = x10)
    (h11 : (List.getD k 1 0) = x12)
    (c13 : ((2 : Nat) ≤ List.length k))
    (h14 : (bAnd IntKind.u8 x12 255) = x15)
    (h16 : (List.getD k 2 0) = x17)
    (c18 : ((3 : Nat) ≤ List.length k))
    (h19 : (bAnd IntKind.u8 x17 255) = x20)
    (h21 : (List.getD k 3 0) = x22)
    (c23 : ((4 : Nat) ≤ List.length k))
    (h24 : (bAnd IntKind.u8 x22 15) = x25)
    (h26 : (List.getD k 4 0) = x27)
    (c28 : ((5 : Nat) ≤ List.length k))
    (h29 : (bAnd IntKind.u8 x27 252) = x30)
    (h31 : (List.getD k 5 0) = x32)
    (c33 : ((6 : Nat) ≤ List.length k))
    (h34 : (bAnd IntKind.u8 x32 255) = x35)
    (h36 : (List.getD k 6 0) = x37)
    (c38 : ((7 : Nat) ≤ List.length k))
    (h39 : (bAnd IntKind.u8 x37 255) = x40)
    (h41 : (List.getD k 7 0) = x42)
    (c43 : ((8 : Nat) ≤ List.length k))
    (h44 : (bAnd IntKind.u8 x42 15) = x45)
    (h46 : (List.getD k 8 0) = x47)
    (c48 : ((9 : Nat) ≤ List.length k))
    (h49 : (bAnd IntKind.u8 x47 252) = x50)
    (h51 : (List.getD k 9 0) = x52)
    (c53 : ((10 : Nat) ≤ List.length k))
    (h54 : (bAnd IntKind.u8 x52 255) = x55)
    (h56 : (List.getD k 10 0) = x57)
    (c58 : ((11 : Nat) ≤ List.length k))
    (h59 : (bAnd IntKind.u8 x57 255) = x60)
    (h61 : (List.getD k 11 0) = x62)
    (c63 : ((12 : Nat) ≤ List.length k))
    (h64 : (bAnd IntKind.u8 x62 15) = x65)
    (h66 : (List.getD k 12 0) = x67)
    (c68 : ((13 : Nat) ≤ List.length k))
    (h69 : (bAnd IntKind.u8 x67 252) = x70)
    (h71 : (List.getD k 13 0) = x72)
    (c73 : ((14 : Nat) ≤ List.length k))
    (h74 : (bAnd IntKind.u8 x72 255) = x75)
    (h76 : (List.getD k 14 0) = x77)
    (c78 : ((15 : Nat) ≤ List.length k))
    (h79 : (bAnd IntKind.u8 x77 255) = x80)
    (h81 : (List.getD k 15 0) = x82)
    (c83 : ((16 : Nat) ≤ List.length k))
    (h84 : (bAnd IntKind.u8 x82 15) = x85)
    (c87 : PureF Try.prog 59 [(.aggi .u8 [x10, x15, x20, x25, x30, x35, x40, x45, x50, x55, x60, x65, x70, x75, x80, x85, 0])] (.aggi .u64 (W.el r43_86e)))
    (l88 : CodeOk Try.prog 95 4338 (kAt (kOf Try.prog Try.f18) [true, true, true, true, true, true, false, false]) (L18I k l r43_86e o n 0 0 0 0 0) (.exit 2) (L18J k l r43_86e p m a0 a1 a2 a3 a4))
    (c90 : PureF Try.prog 61 [(.aggi .u64 [a0, a1, a2, a3, a4])] (.aggi .u64 (W.el r45_89e)))
    (c107 : PureF Try.prog 62 [(.aggi .u64 (W.el r45_89e))] (.aggi .u8 [r46_91, r46_92, r46_93, r46_94, r46_95, r46_96, r46_97, r46_98, r46_99, r46_100, r46_101, r46_102, r46_103, r46_104, r46_105, r46_106]))
    (h108 : (IntKind.wrap IntKind.i64 r46_91) = x109)
    (h110 : (List.getD k 16 0) = x111)
    (c112 : ((17 : Nat) ≤ List.length k))
    (h113 : (IntKind.wrap IntKind.i64 x111) = x114)
    (h115 : (IntKind.wrap IntKind.i64 (x109 + x114)) = x116)
    (h117 : (IntKind.wrap IntKind.i64 (0 + x116)) = x118)
    (h119 : (x118 % 256) = x120)
    (h121 : (x118 / 256) = x122)
    (h123 : (IntKind.wrap IntKind.i64 r46_92) = x124)
    (h125 : (List.getD k 17 0) = x126)
    (c127 : ((18 : Nat) ≤ List.length k))
    (h128 : (IntKind.wrap IntKind.i64 x126) = x129)
    (h130 : (IntKind.wrap IntKind.i64 (x124 + x129)) = x131)
    (h132 : (IntKind.wrap IntKind.i64 (x122 + x131)) = x133)
    (h134 : (x133 % 256) = x135)
    (h136 : (x133 / 256) = x137)
    (h138 : (IntKind.wrap IntKind.i64 r46_93) = x139)
    (h140 : (List.getD k 18 0) = x141)
    (c142 : ((19 : Nat) ≤ List.length k))
    (h143 : (IntKind.wrap IntKind.i64 x141) = x144)
    (h145 : (IntKind.wrap IntKind.i64 (x139 + x144)) = x146)
    (h147 : (IntKind.wrap IntKind.i64 (x137 + x146)) = x148)
    (h149 : (x148 % 256) = x150)
    (h151 : (x148 / 256) = x152)
    (h153 : (IntKind.wrap IntKind.i64 r46_94) = x154)
    (h155 : (List.getD k 19 0) = x156)
    (c157 : ((20 : Nat) ≤ List.length k))
    (h158 : (IntKind.wrap IntKind.i64 x156) = x159)
    (h160 : (IntKind.wrap IntKind.i64 (x154 + x159)) = x161)
    (h162 : (IntKind.wrap IntKind.i64 (x152 + x161)) = x163)
    (h164 : (x163 % 256) = x165)
    (h166 : (x163 / 256) = x167)
    (h168 : (IntKind.wrap IntKind.i64 r46_95) = x169)
    (h170 : (List.getD k 20 0) = x171)
    (c172 : ((21 : Nat) ≤ List.length k))
    (h173 : (IntKind.wrap IntKind.i64 x171) = x174)
    (h175 : (IntKind.wrap IntKind.i64 (x169 + x174)) = x176)
    (h177 : (IntKind.wrap IntKind.i64 (x167 + x176)) = x178)
    (h179 : (x178 % 256) = x180)
    (h181 : (x178 / 256) = x182)
    (h183 : (IntKind.wrap IntKind.i64 r46_96) = x184)
    (h185 : (List.getD k 21 0) = x186)
    (c187 : ((22 : Nat) ≤ List.length k))
    (h188 : (IntKind.wrap IntKind.i64 x186) = x189)
    (h190 : (IntKind.wrap IntKind.i64 (x184 + x189)) = x191)
    (h192 : (IntKind.wrap IntKind.i64 (x182 + x191)) = x193)
    (h194 : (x193 % 256) = x195)
    (h196 : (x193 / 256) = x197)
    (h198 : (IntKind.wrap IntKind.i64 r46_97) = x199)
    (h200 : (List.getD k 22 0) = x201)
    (c202 : ((23 : Nat) ≤ List.length k))
    (h203 : (IntKind.wrap IntKind.i64 x201) = x204)
    (h205 : (IntKind.wrap IntKind.i64 (x199 + x204)) = x206)
    (h207 : (IntKind.wrap IntKind.i64 (x197 + x206)) = x208)
    (h209 : (x208 % 256) = x210)
    (h211 : (x208 / 256) = x212)
    (h213 : (IntKind.wrap IntKind.i64 r46_98) = x214)
    (h215 : (List.getD k 23 0) = x216)
    (c217 : ((24 : Nat) ≤ List.length k))
    (h218 : (IntKind.wrap IntKind.i64 x216) = x219)
    (h220 : (IntKind.wrap IntKind.i64 (x214 + x219)) = x221)
    (h222 : (IntKind.wrap IntKind.i64 (x212 + x221)) = x223)
    (h224 : (x223 % 256) = x225)
    (h226 : (x223 / 256) = x227)
    (h228 : (IntKind.wrap IntKind.i64 r46_99) = x229)
    (h230 : (List.getD k 24 0) = x231)
    (c232 : ((25 : Nat) ≤ List.length k))
    (h233 : (IntKind.wrap IntKind.i64 x231) = x234)
    (h235 : (IntKind.wrap IntKind.i64 (x229 + x234)) = x236)
    (h237 : (IntKind.wrap IntKind.i64 (x227 + x236)) = x238)
    (h239 : (x238 % 256) = x240)
    (h241 : (x238 / 256) = x242)
    (h243 : (IntKind.wrap IntKind.i64 r46_100) = x244)
    (h245 : (List.getD k 25 0) = x246)
    (c247 : ((26 : Nat) ≤ List.length k))
    (h248 : (IntKind.wrap IntKind.i64 x246) = x249)
    (h250 : (IntKind.wrap IntKind.i64 (x244 + x249)) = x251)
    (h252 : (IntKind.wrap IntKind.i64 (x242 + x251)) = x253)
    (h254 : (x253 % 256) = x255)
    (h256 : (x253 / 256) = x257)
    (h258 : (IntKind.wrap IntKind.i64 r46_101) = x259)
    (h260 : (List.getD k 26 0) = x261)
    (c262 : ((27 : Nat) ≤ List.length k))
    (h263 : (IntKind.wrap IntKind.i64 x261) = x264)
    (h265 : (IntKind.wrap IntKind.i64 (x259 + x264)) = x266)
    (h267 : (IntKind.wrap IntKind.i64 (x257 + x266)) = x268)
    (h269 : (x268 % 256) = x270)
    (h271 : (x268 / 256) = x272)
    (h273 : (IntKind.wrap IntKind.i64 r46_102) = x274)
    (h275 : (List.getD k 27 0) = x276)
    (c277 : ((28 : Nat) ≤ List.length k))
    (h278 : (IntKind.wrap IntKind.i64 x276) = x279)
    (h280 : (IntKind.wrap IntKind.i64 (x274 + x279)) = x281)
    (h282 : (IntKind.wrap IntKind.i64 (x272 + x281)) = x283)
    (h284 : (x283 % 256) = x285)
    (h286 : (x283 / 256) = x287)
    (h288 : (IntKind.wrap IntKind.i64 r46_103) = x289)
    (h290 : (List.getD k 28 0) = x291)
    (c292 : ((29 : Nat) ≤ List.length k))
    (h293 : (IntKind.wrap IntKind.i64 x291) = x294)
    (h295 : (IntKind.wrap IntKind.i64 (x289 + x294)) = x296)
    (h297 : (IntKind.wrap IntKind.i64 (x287 + x296)) = x298)
    (h299 : (x298 % 256) = x300)
    (h301 : (x298 / 256) = x302)
    (h303 : (IntKind.wrap IntKind.i64 r46_104) = x304)
    (h305 : (List.getD k 29 0) = x306)
    (c307 : ((30 : Nat) ≤ List.length k))
    (h308 : (IntKind.wrap IntKind.i64 x306) = x309)
    (h310 : (IntKind.wrap IntKind.i64 (x304 + x309)) = x311)
    (h312 : (IntKind.wrap IntKind.i64 (x302 + x311)) = x313)
    (h314 : (x313 % 256) = x315)
    (h316 : (x313 / 256) = x317)
    (h318 : (IntKind.wrap IntKind.i64 r46_105) = x319)
    (h320 : (List.getD k 30 0) = x321)
    (c322 : ((31 : Nat) ≤ List.length k))
    (h323 : (IntKind.wrap IntKind.i64 x321) = x324)
    (h325 : (IntKind.wrap IntKind.i64 (x319 + x324)) = x326)
    (h327 : (IntKind.wrap IntKind.i64 (x317 + x326)) = x328)
    (h329 : (x328 % 256) = x330)
    (h331 : (x328 / 256) = x332)
    (h333 : (IntKind.wrap IntKind.i64 r46_106) = x334)
    (h335 : (List.getD k 31 0) = x336)
    (c337 : ((32 : Nat) ≤ List.length k))
    (h338 : (IntKind.wrap IntKind.i64 x336) = x339)
    (h340 : (IntKind.wrap IntKind.i64 (x334 + x339)) = x341)
    (h342 : (IntKind.wrap IntKind.i64 (x332 + x341)) = x343)
    (h344 : (x343 % 256) = x345)
    (h346 : (x343 / 256) = x347)   :
    Contract0 Try.prog 18 [(.aggi .u8 k), (.c (.sl 1 0 o n 1))] [(1, .one ⟨false, false, .ints .u8 l⟩)] 2 (.aggi .u8 [x120, x135, x150, x165, x180, x195, x210, x225, x240, x255, x270, x285, x300, x315, x330, x345]) [] [] :=
  Contract0.of_frun (fn := Try.f18) (c := bodyOf Try.f18) (fuel := 300) (k := kOf Try.prog Try.f18) (outs := []) (hs := [(2, ⟨.call [] (.c (.sl 34 0 0 8 1)) [] [(34, (.one ⟨true, true, (.ints .u8 [255, 255, 255, 15, 252, 255, 255, 15])⟩))], none⟩), (3, ⟨.call [] (.c (.sl 50 0 0 8 1)) [] [(50, (.one ⟨true, true, (.ints .u8 [252, 255, 255, 15, 252, 255, 255, 15])⟩))], none⟩), (5, ⟨.call [66, 34, 50] (.c (.sl 82 0 0 16 1)) [] [(82, (.one ⟨true, false, (.ints .u8 [255, 255, 255, 15, 252, 255, 255, 15, 252, 255, 255, 15, 252, 255, 255, 15])⟩))], none⟩), (16, ⟨.ask, some (.c (.int .u8 x7))⟩), (21, ⟨.auto, some (.c (.int .u8 x10))⟩), (33, ⟨.ask, some (.c (.int .u8 x12))⟩), (38, ⟨.auto, some (.c (.int .u8 x15))⟩), (50, ⟨.ask, some (.c (.int .u8 x17))⟩), (55, ⟨.auto, some (.c (.int .u8 x20))⟩), (67, ⟨.ask, some (.c (.int .u8 x22))⟩), (72, ⟨.auto, some (.c (.int .u8 x25))⟩), (84, ⟨.ask, some (.c (.int .u8 x27))⟩), (89, ⟨.auto, some (.c (.int .u8 x30))⟩), (101, ⟨.ask, some (.c (.int .u8 x32))⟩), (106, ⟨.auto, some (.c (.int .u8 x35))⟩), (118, ⟨.ask, some (.c (.int .u8 x37))⟩), (123, ⟨.auto, some (.c (.int .u8 x40))⟩), (135, ⟨.ask, some (.c (.int .u8 x42))⟩), (140, ⟨.auto, some (.c (.int .u8 x45))⟩), (152, ⟨.ask, some (.c (.int .u8 x47))⟩), (157, ⟨.auto, some (.c (.int .u8 x50))⟩), (169, ⟨.ask, some (.c (.int .u8 x52))⟩), (174, ⟨.auto, some (.c (.int .u8 x55))⟩), (186, ⟨.ask, some (.c (.int .u8 x57))⟩), (191, ⟨.auto, some (.c (.int .u8 x60))⟩), (203, ⟨.ask, some (.c (.int .u8 x62))⟩), (208, ⟨.auto, some (.c (.int .u8 x65))⟩), (220, ⟨.ask, some (.c (.int .u8 x67))⟩), (225, ⟨.auto, some (.c (.int .u8 x70))⟩), (237, ⟨.ask, some (.c (.int .u8 x72))⟩), (242, ⟨.auto, some (.c (.int .u8 x75))⟩), (254, ⟨.ask, some (.c (.int .u8 x77))⟩), (259, ⟨.auto, some (.c (.int .u8 x80))⟩), (271, ⟨.ask, some (.c (.int .u8 x82))⟩), (276, ⟨.auto, some (.c (.int .u8 x85))⟩), (284, ⟨.call [] (.aggi .u64 (W.el r43_86e)) [] [], none⟩), (288, ⟨.sum ⟨[2, 4, 8, 9, 1], [1, 2, 18, 4290, 4322], [], 4338⟩ (.exit 2) (L18J k l r43_86e p m a0 a1 a2 a3 a4), none⟩), (290, ⟨.call [] (.aggi .u64 (W.el r45_89e)) [] [], none⟩), (291, ⟨.call [] (.aggi .u8 [r46_91, r46_92, r46_93, r46_94, r46_95, r46_96, r46_97, r46_98, r46_99, r46_100, r46_101, r46_102, r46_103, r46_104, r46_105, r46_106]) [] [], none⟩), (304, ⟨.auto, some (.c (.int .i64 x109))⟩), (308, ⟨.ask, some (.c (.int .u8 x111))⟩), (309, ⟨.auto, some (.c (.int .i64 x114))⟩), (310, ⟨.auto, some (.c (.int .i64 x116))⟩), (311, ⟨.auto, some (.c (.int .i64 x118))⟩), (315, ⟨.auto, some (.c (.int .u8 x120))⟩), (319, ⟨.auto, some (.c (.int .i64 x122))⟩), (331, ⟨.auto, some (.c (.int .i64 x124))⟩), (335, ⟨.ask, some (.c (.int .u8 x126))⟩), (336, ⟨.auto, some (.c (.int .i64 x129))⟩), (337, ⟨.auto, some (.c (.int .i64 x131))⟩), (338, ⟨.auto, some (.c (.int .i64 x133))⟩), (342, ⟨.auto, some (.c (.int .u8 x135))⟩), (346, ⟨.auto, some (.c (.int .i64 x137))⟩), (358, ⟨.auto, some (.c (.int .i64 x139))⟩), (362, ⟨.ask, some (.c (.int .u8 x141))⟩), (363, ⟨.auto, some (.c (.int .i64 x144))⟩), (364, ⟨.auto, some (.c (.int .i64 x146))⟩), (365, ⟨.auto, some (.c (.int .i64 x148))⟩), (369, ⟨.auto, some (.c (.int .u8 x150))⟩), (373, ⟨.auto, some (.c (.int .i64 x152))⟩), (385, ⟨.auto, some (.c (.int .i64 x154))⟩), (389, ⟨.ask, some (.c (.int .u8 x156))⟩), (390, ⟨.auto, some (.c (.int .i64 x159))⟩), (391, ⟨.auto, some (.c (.int .i64 x161))⟩), (392, ⟨.auto, some (.c (.int .i64 x163))⟩), (396, ⟨.auto, some (.c (.int .u8 x165))⟩), (400, ⟨.auto, some (.c (.int .i64 x167))⟩), (412, ⟨.auto, some (.c (.int .i64 x169))⟩), (416, ⟨.ask, some (.c (.int .u8 x171))⟩), (417, ⟨.auto, some (.c (.int .i64 x174))⟩), (418, ⟨.auto, some (.c (.int .i64 x176))⟩), (419, ⟨.auto, some (.c (.int .i64 x178))⟩), (423, ⟨.auto, some (.c (.int .u8 x180))⟩), (427, ⟨.auto, some (.c (.int .i64 x182))⟩), (439, ⟨.auto, some (.c (.int .i64 x184))⟩), (443, ⟨.ask, some (.c (.int .u8 x186))⟩), (444, ⟨.auto, some (.c (.int .i64 x189))⟩), (445, ⟨.auto, some (.c (.int .i64 x191))⟩), (446, ⟨.auto, some (.c (.int .i64 x193))⟩), (450, ⟨.auto, some (.c (.int .u8 x195))⟩), (454, ⟨.auto, some (.c (.int .i64 x197))⟩), (466, ⟨.auto, some (.c (.int .i64 x199))⟩), (470, ⟨.ask, some (.c (.int .u8 x201))⟩), (471, ⟨.auto, some (.c (.int .i64 x204))⟩), (472, ⟨.auto, some (.c (.int .i64 x206))⟩), (473, ⟨.auto, some (.c (.int .i64 x208))⟩), (477, ⟨.auto, some (.c (.int .u8 x210))⟩), (481, ⟨.auto, some (.c (.int .i64 x212))⟩), (493, ⟨.auto, some (.c (.int .i64 x214))⟩), (497, ⟨.ask, some (.c (.int .u8 x216))⟩), (498, ⟨.auto, some (.c (.int .i64 x219))⟩), (499, ⟨.auto, some (.c (.int .i64 x221))⟩), (500, ⟨.auto, some (.c (.int .i64 x223))⟩), (504, ⟨.auto, some (.c (.int .u8 x225))⟩), (508, ⟨.auto, some (.c (.int .i64 x227))⟩), (520, ⟨.auto, some (.c (.int .i64 x229))⟩), (524, ⟨.ask, some (.c (.int .u8 x231))⟩), (525, ⟨.auto, some (.c (.int .i64 x234))⟩), (526, ⟨.auto, some (.c (.int .i64 x236))⟩), (527, ⟨.auto, some (.c (.int .i64 x238))⟩), (531, ⟨.auto, some (.c (.int .u8 x240))⟩), (535, ⟨.auto, some (.c (.int .i64 x242))⟩), (547, ⟨.auto, some (.c (.int .i64 x244))⟩), (551, ⟨.ask, some (.c (.int .u8 x246))⟩), (552, ⟨.auto, some (.c (.int .i64 x249))⟩), (553, ⟨.auto, some (.c (.int .i64 x251))⟩), (554, ⟨.auto, some (.c (.int .i64 x253))⟩), (558, ⟨.auto, some (.c (.int .u8 x255))⟩), (562, ⟨.auto, some (.c (.int .i64 x257))⟩), (574, ⟨.auto, some (.c (.int .i64 x259))⟩), (578, ⟨.ask, some (.c (.int .u8 x261))⟩), (579, ⟨.auto, some (.c (.int .i64 x264))⟩), (580, ⟨.auto, some (.c (.int .i64 x266))⟩), (581, ⟨.auto, some (.c (.int .i64 x268))⟩), (585, ⟨.auto, some (.c (.int .u8 x270))⟩), (589, ⟨.auto, some (.c (.int .i64 x272))⟩), (601, ⟨.auto, some (.c (.int .i64 x274))⟩), (605, ⟨.ask, some (.c (.int .u8 x276))⟩), (606, ⟨.auto, some (.c (.int .i64 x279))⟩), (607, ⟨.auto, some (.c (.int .i64 x281))⟩), (608, ⟨.auto, some (.c (.int .i64 x283))⟩), (612, ⟨.auto, some (.c (.int .u8 x285))⟩), (616, ⟨.auto, some (.c (.int .i64 x287))⟩), (628, ⟨.auto, some (.c (.int .i64 x289))⟩), (632, ⟨.ask, some (.c (.int .u8 x291))⟩), (633, ⟨.auto, some (.c (.int .i64 x294))⟩), (634, ⟨.auto, some (.c (.int .i64 x296))⟩), (635, ⟨.auto, some (.c (.int .i64 x298))⟩), (639, ⟨.auto, some (.c (.int .u8 x300))⟩), (643, ⟨.auto, some (.c (.int .i64 x302))⟩), (655, ⟨.auto, some (.c (.int .i64 x304))⟩), (659, ⟨.ask, some (.c (.int .u8 x306))⟩), (660, ⟨.auto, some (.c (.int .i64 x309))⟩), (661, ⟨.auto, some (.c (.int .i64 x311))⟩), (662, ⟨.auto, some (.c (.int .i64 x313))⟩), (666, ⟨.auto, some (.c (.int .u8 x315))⟩), (670, ⟨.auto, some (.c (.int .i64 x317))⟩), (682, ⟨.auto, some (.c (.int .i64 x319))⟩), (686, ⟨.ask, some (.c (.int .u8 x321))⟩), (687, ⟨.auto, some (.c (.int .i64 x324))⟩), (688, ⟨.auto, some (.c (.int .i64 x326))⟩), (689, ⟨.auto, some (.c (.int .i64 x328))⟩), (693, ⟨.auto, some (.c (.int .u8 x330))⟩), (697, ⟨.auto, some (.c (.int .i64 x332))⟩), (709, ⟨.auto, some (.c (.int .i64 x334))⟩), (713, ⟨.ask, some (.c (.int .u8 x336))⟩), (714, ⟨.auto, some (.c (.int .i64 x339))⟩), (715, ⟨.auto, some (.c (.int .i64 x341))⟩), (716, ⟨.auto, some (.c (.int .i64 x343))⟩), (720, ⟨.auto, some (.c (.int .u8 x345))⟩), (724, ⟨.auto, some (.c (.int .i64 x347))⟩)])
    (cs := [EI .i64 (x343 / 256) x347,
      EI .u8 (x343 % 256) x345,
      EI .i64 (IntKind.wrap IntKind.i64 (x332 + x341)) x343,
      EI .i64 (IntKind.wrap IntKind.i64 (x334 + x339)) x341,
      EI .i64 (IntKind.wrap IntKind.i64 x336) x339,
      EI .u8 (List.getD k 31 0) x336,
      ((32 : Nat) ≤ List.length k),
      EI .i64 (IntKind.wrap IntKind.i64 r46_106) x334,
      EI .i64 (x328 / 256) x332,
      EI .u8 (x328 % 256) x330,
      EI .i64 (IntKind.wrap IntKind.i64 (x317 + x326)) x328,
      EI .i64 (IntKind.wrap IntKind.i64 (x319 + x324)) x326,
      EI .i64 (IntKind.wrap IntKind.i64 x321) x324,
      EI .u8 (List.getD k 30 0) x321,
      ((31 : Nat) ≤ List.length k),
      EI .i64 (IntKind.wrap IntKind.i64 r46_105) x319,
      EI .i64 (x313 / 256) x317,
      EI .u8 (x313 % 256) x315,
      EI .i64 (IntKind.wrap IntKind.i64 (x302 + x311)) x313,
      EI .i64 (IntKind.wrap IntKind.i64 (x304 + x309)) x311,
      EI .i64 (IntKind.wrap IntKind.i64 x306) x309,
      EI .u8 (List.getD k 29 0) x306,
      ((30 : Nat) ≤ List.length k),
      EI .i64 (IntKind.wrap IntKind.i64 r46_104) x304,
      EI .i64 (x298 / 256) x302,
      EI .u8 (x298 % 256) x300,
      EI .i64 (IntKind.wrap IntKind.i64 (x287 + x296)) x298,
      EI .i64 (IntKind.wrap IntKind.i64 (x289 + x294)) x296,
      EI .i64 (IntKind.wrap IntKind.i64 x291) x294,
      EI .u8 (List.getD k 28 0) x291,
      ((29 : Nat) ≤ List.length k),
      EI .i64 (IntKind.wrap IntKind.i64 r46_103) x289,
      EI .i64 (x283 / 256) x287,
      EI .u8 (x283 % 256) x285,
      EI .i64 (IntKind.wrap IntKind.i64 (x272 + x281)) x283,
      EI .i64 (IntKind.wrap IntKind.i64 (x274 + x279)) x281,
      EI .i64 (IntKind.wrap IntKind.i64 x276) x279,
      EI .u8 (List.getD k 27 0) x276,
      ((28 : Nat) ≤ List.length k),
      EI .i64 (IntKind.wrap IntKind.i64 r46_102) x274,
      EI .i64 (x268 / 256) x272,
      EI .u8 (x268 % 256) x270,
      EI .i64 (IntKind.wrap IntKind.i64 (x257 + x266)) x268,
      EI .i64 (IntKind.wrap IntKind.i64 (x259 + x264)) x266,
      EI .i64 (IntKind.wrap IntKind.i64 x261) x264,
      EI .u8 (List.getD k 26 0) x261,
      ((27 : Nat) ≤ List.length k),
      EI .i64 (IntKind.wrap IntKind.i64 r46_101) x259,
      EI .i64 (x253 / 256) x257,
      EI .u8 (x253 % 256) x255,
      EI .i64 (IntKind.wrap IntKind.i64 (x242 + x251)) x253,
      EI .i64 (IntKind.wrap IntKind.i64 (x244 + x249)) x251,
      EI .i64 (IntKind.wrap IntKind.i64 x246) x249,
      EI .u8 (List.getD k 25 0) x246,
      ((26 : Nat) ≤ List.length k),
      EI .i64 (IntKind.wrap IntKind.i64 r46_100) x244,
      EI .i64 (x238 / 256) x242,
      EI .u8 (x238 % 256) x240,
      EI .i64 (IntKind.wrap IntKind.i64 (x227 + x236)) x238,
      EI .i64 (IntKind.wrap IntKind.i64 (x229 + x234)) x236,
      EI .i64 (IntKind.wrap IntKind.i64 x231) x234,
      EI .u8 (List.getD k 24 0) x231,
      ((25 : Nat) ≤ List.length k),
      EI .i64 (IntKind.wrap IntKind.i64 r46_99) x229,
      EI .i64 (x223 / 256) x227,
      EI .u8 (x223 % 256) x225,
      EI .i64 (IntKind.wrap IntKind.i64 (x212 + x221)) x223,
      EI .i64 (IntKind.wrap IntKind.i64 (x214 + x219)) x221,
      EI .i64 (IntKind.wrap IntKind.i64 x216) x219,
      EI .u8 (List.getD k 23 0) x216,
      ((24 : Nat) ≤ List.length k),
      EI .i64 (IntKind.wrap IntKind.i64 r46_98) x214,
      EI .i64 (x208 / 256) x212,
      EI .u8 (x208 % 256) x210,
      EI .i64 (IntKind.wrap IntKind.i64 (x197 + x206)) x208,
      EI .i64 (IntKind.wrap IntKind.i64 (x199 + x204)) x206,
      EI .i64 (IntKind.wrap IntKind.i64 x201) x204,
      EI .u8 (List.getD k 22 0) x201,
      ((23 : Nat) ≤ List.length k),
      EI .i64 (IntKind.wrap IntKind.i64 r46_97) x199,
      EI .i64 (x193 / 256) x197,
      EI .u8 (x193 % 256) x195,
      EI .i64 (IntKind.wrap IntKind.i64 (x182 + x191)) x193,
      EI .i64 (IntKind.wrap IntKind.i64 (x184 + x189)) x191,
      EI .i64 (IntKind.wrap IntKind.i64 x186) x189,
      EI .u8 (List.getD k 21 0) x186,
      ((22 : Nat) ≤ List.length k),
      EI .i64 (IntKind.wrap IntKind.i64 r46_96) x184,
      EI .i64 (x178 / 256) x182,
      EI .u8 (x178 % 256) x180,
      EI .i64 (IntKind.wrap IntKind.i64 (x167 + x176)) x178,
      EI .i64 (IntKind.wrap IntKind.i64 (x169 + x174)) x176,
      EI .i64 (IntKind.wrap IntKind.i64 x171) x174,
      EI .u8 (List.getD k 20 0) x171,
      ((21 : Nat) ≤ List.length k),
      EI .i64 (IntKind.wrap IntKind.i64 r46_95) x169,
      EI .i64 (x163 / 256) x167,
      EI .u8 (x163 % 256) x165,
      EI .i64 (IntKind.wrap IntKind.i64 (x152 + x161)) x163,
      EI .i64 (IntKind.wrap IntKind.i64 (x154 + x159)) x161,
      EI .i64 (IntKind.wrap IntKind.i64 x156) x159,
      EI .u8 (List.getD k 19 0) x156,
      ((20 : Nat) ≤ List.length k),
      EI .i64 (IntKind.wrap IntKind.i64 r46_94) x154,
      EI .i64 (x148 / 256) x152,
      EI .u8 (x148 % 256) x150,
      EI .i64 (IntKind.wrap IntKind.i64 (x137 + x146)) x148,
      EI .i64 (IntKind.wrap IntKind.i64 (x139 + x144)) x146,
      EI .i64 (IntKind.wrap IntKind.i64 x141) x144,
      EI .u8 (List.getD k 18 0) x141,
      ((19 : Nat) ≤ List.length k),
      EI .i64 (IntKind.wrap IntKind.i64 r46_93) x139,
      EI .i64 (x133 / 256) x137,
      EI .u8 (x133 % 256) x135,
      EI .i64 (IntKind.wrap IntKind.i64 (x122 + x131)) x133,
      EI .i64 (IntKind.wrap IntKind.i64 (x124 + x129)) x131,
      EI .i64 (IntKind.wrap IntKind.i64 x126) x129,
      EI .u8 (List.getD k 17 0) x126,
      ((18 : Nat) ≤ List.length k),
      EI .i64 (IntKind.wrap IntKind.i64 r46_92) x124,
      EI .i64 (x118 / 256) x122,
      EI .u8 (x118 % 256) x120,
      EI .i64 (IntKind.wrap IntKind.i64 (0 + x116)) x118,
      EI .i64 (IntKind.wrap IntKind.i64 (x109 + x114)) x116,
      EI .i64 (IntKind.wrap IntKind.i64 x111) x114,
      EI .u8 (List.getD k 16 0) x111,
      ((17 : Nat) ≤ List.length k),
      EI .i64 (IntKind.wrap IntKind.i64 r46_91) x109,
      Contract Try.prog 62 [(.aggi .u64 (W.el r45_89e))] [] 4370 (.aggi .u8 [r46_91, r46_92, r46_93, r46_94, r46_95, r46_96, r46_97, r46_98, r46_99, r46_100, r46_101, r46_102, r46_103, r46_104, r46_105, r46_106]) [] [],
      Contract Try.prog 61 [(.aggi .u64 [a0, a1, a2, a3, a4])] [] 4354 (.aggi .u64 (W.el r45_89e)) [] [],
      CodeOk Try.prog 95 4338 (kAt (kOf Try.prog Try.f18) [true, true, true, true, true, true, false, false]) (L18I k l r43_86e o n 0 0 0 0 0) (.exit 2) (L18J k l r43_86e p m a0 a1 a2 a3 a4),
      Contract Try.prog 59 [(.aggi .u8 [x10, x15, x20, x25, x30, x35, x40, x45, x50, x55, x60, x65, x70, x75, x80, x85, 0])] [] 4274 (.aggi .u64 (W.el r43_86e)) [] [],
      EI .u8 (bAnd IntKind.u8 x82 15) x85,
      EI .u8 (List.getD k 15 0) x82,
      ((16 : Nat) ≤ List.length k),
      EI .u8 (bAnd IntKind.u8 x77 255) x80,
      EI .u8 (List.getD k 14 0) x77,
      ((15 : Nat) ≤ List.length k),
      EI .u8 (bAnd IntKind.u8 x72 255) x75,
      EI .u8 (List.getD k 13 0) x72,
      ((14 : Nat) ≤ List.length k),
      EI .u8 (bAnd IntKind.u8 x67 252) x70,
      EI .u8 (List.getD k 12 0) x67,
      ((13 : Nat) ≤ List.length k),
      EI .u8 (bAnd IntKind.u8 x62 15) x65,
      EI .u8 (List.getD k 11 0) x62,
      ((12 : Nat) ≤ List.length k),
      EI .u8 (bAnd IntKind.u8 x57 255) x60,
      EI .u8 (List.getD k 10 0) x57,
      ((11 : Nat) ≤ List.length k),
      EI .u8 (bAnd IntKind.u8 x52 255) x55,
      EI .u8 (List.getD k 9 0) x52,
      ((10 : Nat) ≤ List.length k),
      EI .u8 (bAnd IntKind.u8 x47 252) x50,
      EI .u8 (List.getD k 8 0) x47,
      ((9 : Nat) ≤ List.length k),
      EI .u8 (bAnd IntKind.u8 x42 15) x45,
      EI .u8 (List.getD k 7 0) x42,
      ((8 : Nat) ≤ List.length k),
      EI .u8 (bAnd IntKind.u8 x37 255) x40,
      EI .u8 (List.getD k 6 0) x37,
      ((7 : Nat) ≤ List.length k),
      EI .u8 (bAnd IntKind.u8 x32 255) x35,
      EI .u8 (List.getD k 5 0) x32,
      ((6 : Nat) ≤ List.length k),
      EI .u8 (bAnd IntKind.u8 x27 252) x30,
      EI .u8 (List.getD k 4 0) x27,
      ((5 : Nat) ≤ List.length k),
      EI .u8 (bAnd IntKind.u8 x22 15) x25,
      EI .u8 (List.getD k 3 0) x22,
      ((4 : Nat) ≤ List.length k),
      EI .u8 (bAnd IntKind.u8 x17 255) x20,
      EI .u8 (List.getD k 2 0) x17,
      ((3 : Nat) ≤ List.length k),
      EI .u8 (bAnd IntKind.u8 x12 255) x15,
      EI .u8 (List.getD k 1 0) x12,
      ((2 : Nat) ≤ List.length k),
      EI .u8 (bAnd IntKind.u8 x7 255) x10,
      EI .u8 (List.getD k 0 0) x7,
      ((1 : Nat) ≤ List.length k),
      Contract Try.prog 57 [(.c (.sl 66 0 0 2 1))] [(66, (.one ⟨true, true, (.cells [(.sl 34 0 0 8 1), (.sl 50 0 0 8 1)])⟩)), (34, (.one ⟨true, true, (.ints .u8 [255, 255, 255, 15, 252, 255, 255, 15])⟩)), (50, (.one ⟨true, true, (.ints .u8 [252, 255, 255, 15, 252, 255, 255, 15])⟩))] 82 (.c (.sl 82 0 0 16 1)) [] [(82, (.one ⟨true, false, (.ints .u8 [255, 255, 255, 15, 252, 255, 255, 15, 252, 255, 255, 15, 252, 255, 255, 15])⟩))],
      Contract Try.prog 58 [(.c (.int .u64 1152921487695413244))] [] 50 (.c (.sl 50 0 0 8 1)) [] [(50, (.one ⟨true, true, (.ints .u8 [252, 255, 255, 15, 252, 255, 255, 15])⟩))],
      Contract Try.prog 58 [(.c (.int .u64 1152921487695413247))] [] 34 (.c (.sl 34 0 0 8 1)) [] [(34, (.one ⟨true, true, (.ints .u8 [255, 255, 255, 15, 252, 255, 255, 15])⟩))]])
    mixed Try.func18 (by kernel_rfl) (by kernel_rfl) (by kernel_rfl) rfl (by kernel_rfl) ⟨.mk h346, .mk h344, .mk h342, .mk h340, .mk h338, .mk h335, c337, .mk h333, .mk h331, .mk h329, .mk h327, .mk h325, .mk h323, .mk h320, c322, .mk h318, .mk h316, .mk h314, .mk h312, .mk h310, .mk h308, .mk h305, c307, .mk h303, .mk h301, .mk h299, .mk h297, .mk h295, .mk h293, .mk h290, c292, .mk h288, .mk h286, .mk h284, .mk h282, .mk h280, .mk h278, .mk h275, c277, .mk h273, .mk h271, .mk h269, .mk h267, .mk h265, .mk h263, .mk h260, c262, .mk h258, .mk h256, .mk h254, .mk h252, .mk h250, .mk h248, .mk h245, c247, .mk h243, .mk h241, .mk h239, .mk h237, .mk h235, .mk h233, .mk h230, c232, .mk h228, .mk h226, .mk h224, .mk h222, .mk h220, .mk h218, .mk h215, c217, .mk h213, .mk h211, .mk h209, .mk h207, .mk h205, .mk h203, .mk h200, c202, .mk h198, .mk h196, .mk h194, .mk h192, .mk h190, .mk h188, .mk h185, c187, .mk h183, .mk h181, .mk h179, .mk h177, .mk h175, .mk h173, .mk h170, c172, .mk h168, .mk h166, .mk h164, .mk h162, .mk h160, .mk h158, .mk h155, c157, .mk h153, .mk h151, .mk h149, .mk h147, .mk h145, .mk h143, .mk h140, c142, .mk h138, .mk h136, .mk h134, .mk h132, .mk h130, .mk h128, .mk h125, c127, .mk h123, .mk h121, .mk h119, .mk h117, .mk h115, .mk h113, .mk h110, c112, .mk h108, c107.use (by kernel_rfl) rfl rfl _ _, c90.use (by kernel_rfl) rfl rfl _ _, l88, c87.use (by kernel_rfl) rfl rfl _ _, .mk h84, .mk h81, c83, .mk h79, .mk h76, c78, .mk h74, .mk h71, c73, .mk h69, .mk h66, c68, .mk h64, .mk h61, c63, .mk h59, .mk h56, c58, .mk h54, .mk h51, c53, .mk h49, .mk h46, c48, .mk h44, .mk h41, c43, .mk h39, .mk h36, c38, .mk h34, .mk h31, c33, .mk h29, .mk h26, c28, .mk h24, .mk h21, c23, .mk h19, .mk h16, c18, .mk h14, .mk h11, c13, .mk h9, .mk h6, c8, c5.gen [(66, (1, true)), (34, (2, true)), (50, (3, true))] [(356, 82)] [] (by kernel_rfl) (by kernel_rfl) rfl (by kernel_rfl) rfl rfl (by kernel_rfl) rfl rfl (by kernel_rfl), c3.gen [] [(33, 50)] [] (by kernel_rfl) (by kernel_rfl) rfl (by kernel_rfl) rfl rfl (by kernel_rfl) rfl rfl (by kernel_rfl), c1.gen [] [(33, 34)] [] (by kernel_rfl) (by kernel_rfl) rfl (by kernel_rfl) rfl rfl (by kernel_rfl) rfl rfl (by kernel_rfl), trivial⟩
end Go.Proofs.Ytmfnldkiaodkpaa.Vm
