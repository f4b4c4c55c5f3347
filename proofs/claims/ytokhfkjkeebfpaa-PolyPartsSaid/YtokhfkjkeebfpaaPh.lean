/- What functions of the program come to: parts of the walk (Ph). -/
import Derived.Test.YtokhfkjkeebfpaaPw
import Derived.KernelRfl
import Derived.Test.YtokhfkjkeebfpaaProg
import Derived.Test.YtokhfkjkeebfpaaPg
namespace Go.Proofs.Ytokhfkjkeebfpaa.Vm
open Go Go.Proofs Go.Proofs.Ytokhfkjkeebfpaa
set_option maxRecDepth 100000
theorem run5 (k0 k1 k2 k3 k4 k5 k6 k7 k8 k9 k10 k11 k12 k13 k14 k15 k16 k17 k18 k19 k20 k21 k22 k23 k24 k25 k26 k27 k28 k29 k30 k31 : Int) (l : List Int) (o n : Nat) (m0 m1 m2 m3 m4 m5 m6 m7 m8 m9 m10 m11 m12 m13 m14 m15 r18_0 r18_1 r18_2 r18_3 r18_4 r18_5 r18_6 r18_7 r18_8 r18_9 r18_10 r18_11 r18_12 r18_13 r18_14 r18_15 x18 x20 x22 x24 x26 x28 x30 x32 x34 x36 x38 x40 x42 x44 x46 x48 x50 x52 x54 x56 x58 x60 x62 x64 x66 x68 x70 x72 x74 x76 x78 x80 x82 x84 x86 x88 x90 x92 x94 x96 x98 x100 x102 x104 x106 x108 x110 x112 x114 x116 x118 x120 x122 x124 x126 x128 x130 x132 x134 x136 x138 x140 x142 x144 x146 x148 x150 x152 x154 x156 x158 x160 x162 x164 x166 x168 x170 x172 x174 x176 x178 x180 x182 x184 x186 x188 x190 x192 x194 x196 x198 x200 x202 x204 x206 x208 r18_209 r18_210 r18_211 r18_212 r18_213 r18_214 r18_215 r18_216 r18_217 r18_218 r18_219 r18_220 r18_221 r18_222 r18_223 r18_224 x227 x229 x231 x233 x235 x237 x239 x241 x243 x245 x247 x249 x251 x253 x255 x257 x259 x261 x263 x265 x267 x269 x271 x273 x275 x277 x279 x281 x283 x285 x287 x289 x291 x293 x295 x297 x299 x301 x303 x305 x307 x309 x311 x313 x315 x317 x319 x321 x323 x325 x327 x329 x331 x333 x335 x337 x339 x341 x343 x345 x347 x349 x351 x353 x355 x357 x359 x361 x363 x365 x367 x369 x371 x373 x375 x377 x379 x381 x383 x385 x387 x389 x391 x393 x395 x397 x399 x401 x403 x405 x407 x409 x411 x413 x415 x417 : Int) (q420 : Bool)
    (c16 : Contract0 Try.prog 18 [(.aggi .u8 [k0, k1, k2, k3, k4, k5, k6, k7, k8, k9, k10, k11, k12, k13, k14, k15, k16, k17, k18, k19, k20, k21, k22, k23, k24, k25, k26, k27, k28, k29, k30, k31]), (.c (.sl 1 0 o n 1))] [(1, (.one ⟨false, false, (.ints .u8 l)⟩))] 2 (.aggi .u8 [r18_0, r18_1, r18_2, r18_3, r18_4, r18_5, r18_6, r18_7, r18_8, r18_9, r18_10, r18_11, r18_12, r18_13, r18_14, r18_15]) [] [])
    (h17 : (IntKind.wrap IntKind.i64 k16) = x18)
    (h19 : (IntKind.wrap IntKind.i64 (0 + x18)) = x20)
    (h21 : (IntKind.wrap IntKind.i64 m0) = x22)
    (h23 : (IntKind.wrap IntKind.i64 (x20 + x22)) = x24)
    (h25 : (x24 % 256) = x26)
    (h27 : (IntKind.wrap IntKind.i64 (Int.tdiv x24 256)) = x28)
    (h29 : (IntKind.wrap IntKind.i64 k17) = x30)
    (h31 : (IntKind.wrap IntKind.i64 (x28 + x30)) = x32)
    (h33 : (IntKind.wrap IntKind.i64 m1) = x34)
    (h35 : (IntKind.wrap IntKind.i64 (x32 + x34)) = x36)
    (h37 : (x36 % 256) = x38)
    (h39 : (IntKind.wrap IntKind.i64 (Int.tdiv x36 256)) = x40)
    (h41 : (IntKind.wrap IntKind.i64 k18) = x42)
    (h43 : (IntKind.wrap IntKind.i64 (x40 + x42)) = x44)
    (h45 : (IntKind.wrap IntKind.i64 m2) = x46)
    (h47 : (IntKind.wrap IntKind.i64 (x44 + x46)) = x48)
    (h49 : (x48 % 256) = x50)
    (h51 : (IntKind.wrap IntKind.i64 (Int.tdiv x48 256)) = x52)
    (h53 : (IntKind.wrap IntKind.i64 k19) = x54)
    (h55 : (IntKind.wrap IntKind.i64 (x52 + x54)) = x56)
    (h57 : (IntKind.wrap IntKind.i64 m3) = x58)
    (h59 : (IntKind.wrap IntKind.i64 (x56 + x58)) = x60)
    (h61 : (x60 % 256) = x62)
    (h63 : (IntKind.wrap IntKind.i64 (Int.tdiv x60 256)) = x64)
    (h65 : (IntKind.wrap IntKind.i64 k20) = x66)
    (h67 : (IntKind.wrap IntKind.i64 (x64 + x66)) = x68)
    (h69 : (IntKind.wrap IntKind.i64 m4) = x70)
    (h71 : (IntKind.wrap IntKind.i64 (x68 + x70)) = x72)
    (h73 : (x72 % 256) = x74)
    (h75 : (IntKind.wrap IntKind.i64 (Int.tdiv x72 256)) = x76)
    (h77 : (IntKind.wrap IntKind.i64 k21) = x78)
    (h79 : (IntKind.wrap IntKind.i64 (x76 + x78)) = x80)
    (h81 : (IntKind.wrap IntKind.i64 m5) = x82)
    (h83 : (IntKind.wrap IntKind.i64 (x80 + x82)) = x84)
    (h85 : (x84 % 256) = x86)
    (h87 : (IntKind.wrap IntKind.i64 (Int.tdiv x84 256)) = x88)
    (h89 : (IntKind.wrap IntKind.i64 k22) = x90)
    (h91 : (IntKind.wrap IntKind.i64 (x88 + x90)) = x92)
    (h93 : (IntKind.wrap IntKind.i64 m6) = x94)
    (h95 : (IntKind.wrap IntKind.i64 (x92 + x94)) = x96)
    (h97 : (x96 % 256) = x98)
    (h99 : (IntKind.wrap IntKind.i64 (Int.tdiv x96 256)) = x100)
    (h101 : (IntKind.wrap IntKind.i64 k23) = x102)
    (h103 : (IntKind.wrap IntKind.i64 (x100 + x102)) = x104)
    (h105 : (IntKind.wrap IntKind.i64 m7) = x106)
    (h107 : (IntKind.wrap IntKind.i64 (x104 + x106)) = x108)
    (h109 : (x108 % 256) = x110)
    (h111 : (IntKind.wrap IntKind.i64 (Int.tdiv x108 256)) = x112)
    (h113 : (IntKind.wrap IntKind.i64 k24) = x114)
    (h115 : (IntKind.wrap IntKind.i64 (x112 + x114)) = x116)
    (h117 : (IntKind.wrap IntKind.i64 m8) = x118)
    (h119 : (IntKind.wrap IntKind.i64 (x116 + x118)) = x120)
    (h121 : (x120 % 256) = x122)
    (h123 : (IntKind.wrap IntKind.i64 (Int.tdiv x120 256)) = x124)
    (h125 : (IntKind.wrap IntKind.i64 k25) = x126)
    (h127 : (IntKind.wrap IntKind.i64 (x124 + x126)) = x128)
    (h129 : (IntKind.wrap IntKind.i64 m9) = x130)
    (h131 : (IntKind.wrap IntKind.i64 (x128 + x130)) = x132)
    (h133 : (x132 % 256) = x134)
    (h135 : (IntKind.wrap IntKind.i64 (Int.tdiv x132 256)) = x136)
    (h137 : (IntKind.wrap IntKind.i64 k26) = x138)
    (h139 : (IntKind.wrap IntKind.i64 (x136 + x138)) = x140)
    (h141 : (IntKind.wrap IntKind.i64 m10) = x142)
    (h143 : (IntKind.wrap IntKind.i64 (x140 + x142)) = x144)
    (h145 : (x144 % 256) = x146)
    (h147 : (IntKind.wrap IntKind.i64 (Int.tdiv x144 256)) = x148)
    (h149 : (IntKind.wrap IntKind.i64 k27) = x150)
    (h151 : (IntKind.wrap IntKind.i64 (x148 + x150)) = x152)
    (h153 : (IntKind.wrap IntKind.i64 m11) = x154)
    (h155 : (IntKind.wrap IntKind.i64 (x152 + x154)) = x156)
    (h157 : (x156 % 256) = x158)
    (h159 : (IntKind.wrap IntKind.i64 (Int.tdiv x156 256)) = x160)
    (h161 : (IntKind.wrap IntKind.i64 k28) = x162)
    (h163 : (IntKind.wrap IntKind.i64 (x160 + x162)) = x164)
    (h165 : (IntKind.wrap IntKind.i64 m12) = x166)
    (h167 : (IntKind.wrap IntKind.i64 (x164 + x166)) = x168)
    (h169 : (x168 % 256) = x170)
    (h171 : (IntKind.wrap IntKind.i64 (Int.tdiv x168 256)) = x172)
    (h173 : (IntKind.wrap IntKind.i64 k29) = x174)
    (h175 : (IntKind.wrap IntKind.i64 (x172 + x174)) = x176)
    (h177 : (IntKind.wrap IntKind.i64 m13) = x178)
    (h179 : (IntKind.wrap IntKind.i64 (x176 + x178)) = x180)
    (h181 : (x180 % 256) = x182)
    (h183 : (IntKind.wrap IntKind.i64 (Int.tdiv x180 256)) = x184)
    (h185 : (IntKind.wrap IntKind.i64 k30) = x186)
    (h187 : (IntKind.wrap IntKind.i64 (x184 + x186)) = x188)
    (h189 : (IntKind.wrap IntKind.i64 m14) = x190)
    (h191 : (IntKind.wrap IntKind.i64 (x188 + x190)) = x192)
    (h193 : (x192 % 256) = x194)
    (h195 : (IntKind.wrap IntKind.i64 (Int.tdiv x192 256)) = x196)
    (h197 : (IntKind.wrap IntKind.i64 k31) = x198)
    (h199 : (IntKind.wrap IntKind.i64 (x196 + x198)) = x200)
    (h201 : (IntKind.wrap IntKind.i64 m15) = x202)
    (h203 : (IntKind.wrap IntKind.i64 (x200 + x202)) = x204)
    (h205 : (x204 % 256) = x206)
    (h207 : (IntKind.wrap IntKind.i64 (Int.tdiv x204 256)) = x208)
    (c225 : Contract0 Try.prog 18 [(.aggi .u8 [k0, k1, k2, k3, k4, k5, k6, k7, k8, k9, k10, k11, k12, k13, k14, k15, x26, x38, x50, x62, x74, x86, x98, x110, x122, x134, x146, x158, x170, x182, x194, x206]), (.c (.sl 1 0 o n 1))] [(1, (.one ⟨false, false, (.ints .u8 l)⟩))] 2 (.aggi .u8 [r18_209, r18_210, r18_211, r18_212, r18_213, r18_214, r18_215, r18_216, r18_217, r18_218, r18_219, r18_220, r18_221, r18_222, r18_223, r18_224]) [] [])
    (h226 : (IntKind.wrap IntKind.i64 r18_0) = x227)
    (h228 : (IntKind.wrap IntKind.i64 (0 + x227)) = x229)
    (h230 : (IntKind.wrap IntKind.i64 m0) = x231)
    (h232 : (IntKind.wrap IntKind.i64 (x229 + x231)) = x233)
    (h234 : (x233 % 256) = x235)
    (h236 : (IntKind.wrap IntKind.i64 (Int.tdiv x233 256)) = x237)
    (h238 : (IntKind.wrap IntKind.i64 r18_1) = x239)
    (h240 : (IntKind.wrap IntKind.i64 (x237 + x239)) = x241)
    (h242 : (IntKind.wrap IntKind.i64 m1) = x243)
    (h244 : (IntKind.wrap IntKind.i64 (x241 + x243)) = x245)
    (h246 : (x245 % 256) = x247)
    (h248 : (IntKind.wrap IntKind.i64 (Int.tdiv x245 256)) = x249)
    (h250 : (IntKind.wrap IntKind.i64 r18_2) = x251)
    (h252 : (IntKind.wrap IntKind.i64 (x249 + x251)) = x253)
    (h254 : (IntKind.wrap IntKind.i64 m2) = x255)
    (h256 : (IntKind.wrap IntKind.i64 (x253 + x255)) = x257)
    (h258 : (x257 % 256) = x259)
    (h260 : (IntKind.wrap IntKind.i64 (Int.tdiv x257 256)) = x261)
    (h262 : (IntKind.wrap IntKind.i64 r18_3) = x263)
    (h264 : (IntKind.wrap IntKind.i64 (x261 + x263)) = x265)
    (h266 : (IntKind.wrap IntKind.i64 m3) = x267)
    (h268 : (IntKind.wrap IntKind.i64 (x265 + x267)) = x269)
    (h270 : (x269 % 256) = x271)
    (h272 : (IntKind.wrap IntKind.i64 (Int.tdiv x269 256)) = x273)
    (h274 : (IntKind.wrap IntKind.i64 r18_4) = x275)
    (h276 : (IntKind.wrap IntKind.i64 (x273 + x275)) = x277)
    (h278 : (IntKind.wrap IntKind.i64 m4) = x279)
    (h280 : (IntKind.wrap IntKind.i64 (x277 + x279)) = x281)
    (h282 : (x281 % 256) = x283)
    (h284 : (IntKind.wrap IntKind.i64 (Int.tdiv x281 256)) = x285)
    (h286 : (IntKind.wrap IntKind.i64 r18_5) = x287)
    (h288 : (IntKind.wrap IntKind.i64 (x285 + x287)) = x289)
    (h290 : (IntKind.wrap IntKind.i64 m5) = x291)
    (h292 : (IntKind.wrap IntKind.i64 (x289 + x291)) = x293)
    (h294 : (x293 % 256) = x295)
    (h296 : (IntKind.wrap IntKind.i64 (Int.tdiv x293 256)) = x297)
    (h298 : (IntKind.wrap IntKind.i64 r18_6) = x299)
    (h300 : (IntKind.wrap IntKind.i64 (x297 + x299)) = x301)
    (h302 : (IntKind.wrap IntKind.i64 m6) = x303)
    (h304 : (IntKind.wrap IntKind.i64 (x301 + x303)) = x305)
    (h306 : (x305 % 256) = x307)
    (h308 : (IntKind.wrap IntKind.i64 (Int.tdiv x305 256)) = x309)
    (h310 : (IntKind.wrap IntKind.i64 r18_7) = x311)
    (h312 : (IntKind.wrap IntKind.i64 (x309 + x311)) = x313)
    (h314 : (IntKind.wrap IntKind.i64 m7) = x315)
    (h316 : (IntKind.wrap IntKind.i64 (x313 + x315)) = x317)
    (h318 : (x317 % 256) = x319)
    (h320 : (IntKind.wrap IntKind.i64 (Int.tdiv x317 256)) = x321)
    (h322 : (IntKind.wrap IntKind.i64 r18_8) = x323)
    (h324 : (IntKind.wrap IntKind.i64 (x321 + x323)) = x325)
    (h326 : (IntKind.wrap IntKind.i64 m8) = x327)
    (h328 : (IntKind.wrap IntKind.i64 (x325 + x327)) = x329)
    (h330 : (x329 % 256) = x331)
    (h332 : (IntKind.wrap IntKind.i64 (Int.tdiv x329 256)) = x333)
    (h334 : (IntKind.wrap IntKind.i64 r18_9) = x335)
    (h336 : (IntKind.wrap IntKind.i64 (x333 + x335)) = x337)
    (h338 : (IntKind.wrap IntKind.i64 m9) = x339)
    (h340 : (IntKind.wrap IntKind.i64 (x337 + x339)) = x341)
    (h342 : (x341 % 256) = x343)
    (h344 : (IntKind.wrap IntKind.i64 (Int.tdiv x341 256)) = x345)
    (h346 : (IntKind.wrap IntKind.i64 r18_10) = x347)
    (h348 : (IntKind.wrap IntKind.i64 (x345 + x347)) = x349)
    (h350 : (IntKind.wrap IntKind.i64 m10) = x351)
    (h352 : (IntKind.wrap IntKind.i64 (x349 + x351)) = x353)
    (h354 : (x353 % 256) = x355)
    (h356 : (IntKind.wrap IntKind.i64 (Int.tdiv x353 256)) = x357)
    (h358 : (IntKind.wrap IntKind.i64 r18_11) = x359)
    (h360 : (IntKind.wrap IntKind.i64 (x357 + x359)) = x361)
    (h362 : (IntKind.wrap IntKind.i64 m11) = x363)
    (h364 : (IntKind.wrap IntKind.i64 (x361 + x363)) = x365)
    (h366 : (x365 % 256) = x367)
    (h368 : (IntKind.wrap IntKind.i64 (Int.tdiv x365 256)) = x369)
    (h370 : (IntKind.wrap IntKind.i64 r18_12) = x371)
    (h372 : (IntKind.wrap IntKind.i64 (x369 + x371)) = x373)
    (h374 : (IntKind.wrap IntKind.i64 m12) = x375)
    (h376 : (IntKind.wrap IntKind.i64 (x373 + x375)) = x377)
    (h378 : (x377 % 256) = x379)
    (h380 : (IntKind.wrap IntKind.i64 (Int.tdiv x377 256)) = x381)
    (h382 : (IntKind.wrap IntKind.i64 r18_13) = x383)
    (h384 : (IntKind.wrap IntKind.i64 (x381 + x383)) = x385)
    (h386 : (IntKind.wrap IntKind.i64 m13) = x387)
    (h388 : (IntKind.wrap IntKind.i64 (x385 + x387)) = x389)
    (h390 : (x389 % 256) = x391)
    (h392 : (IntKind.wrap IntKind.i64 (Int.tdiv x389 256)) = x393)
    (h394 : (IntKind.wrap IntKind.i64 r18_14) = x395)
    (h396 : (IntKind.wrap IntKind.i64 (x393 + x395)) = x397)
    (h398 : (IntKind.wrap IntKind.i64 m14) = x399)
    (h400 : (IntKind.wrap IntKind.i64 (x397 + x399)) = x401)
    (h402 : (x401 % 256) = x403)
    (h404 : (IntKind.wrap IntKind.i64 (Int.tdiv x401 256)) = x405)
    (h406 : (IntKind.wrap IntKind.i64 r18_15) = x407)
    (h408 : (IntKind.wrap IntKind.i64 (x405 + x407)) = x409)
    (h410 : (IntKind.wrap IntKind.i64 m15) = x411)
    (h412 : (IntKind.wrap IntKind.i64 (x409 + x411)) = x413)
    (h414 : (x413 % 256) = x415)
    (h416 : (IntKind.wrap IntKind.i64 (Int.tdiv x413 256)) = x417)
    (c418 : PureF Try.prog 19 [] (.c (.bool (true))))
    (h419 : (List.take 16 (List.drop 0 (splice (splice (splice (splice (splice (splice (splice (splice (splice (splice (splice (splice (splice (splice (splice (splice (splice [0, 0, 0, 0, 0, 0, 0, 0, 0, 0, 0, 0, 0, 0, 0, 0] 0 [r18_0, r18_1, r18_2, r18_3, r18_4, r18_5, r18_6, r18_7, r18_8, r18_9, r18_10, r18_11, r18_12, r18_13, r18_14, r18_15]) 0 [x235]) 1 [x247]) 2 [x259]) 3 [x271]) 4 [x283]) 5 [x295]) 6 [x307]) 7 [x319]) 8 [x331]) 9 [x343]) 10 [x355]) 11 [x367]) 12 [x379]) 13 [x391]) 14 [x403]) 15 [x415])) == List.take 16 (List.drop 0 (splice [0, 0, 0, 0, 0, 0, 0, 0, 0, 0, 0, 0, 0, 0, 0, 0] 0 [r18_209, r18_210, r18_211, r18_212, r18_213, r18_214, r18_215, r18_216, r18_217, r18_218, r18_219, r18_220, r18_221, r18_222, r18_223, r18_224]))) = q420)   :
    Contract0 Try.prog 5 [(.aggi .u8 [k0, k1, k2, k3, k4, k5, k6, k7, k8, k9, k10, k11, k12, k13, k14, k15, k16, k17, k18, k19, k20, k21, k22, k23, k24, k25, k26, k27, k28, k29, k30, k31]), (.c (.sl 1 0 o n 1)), (.aggi .u8 [m0, m1, m2, m3, m4, m5, m6, m7, m8, m9, m10, m11, m12, m13, m14, m15])] [(1, .one ⟨false, false, .ints .u8 l⟩)] 2 (.c (.bool q420)) [] [] :=
  Contract0.of_frun (fn := Try.f5) (c := bodyOf Try.f5) (fuel := 300) (k := kOf Try.prog Try.f5) (outs := []) (hs := [(5, ⟨.call [1] (.aggi .u8 [r18_0, r18_1, r18_2, r18_3, r18_4, r18_5, r18_6, r18_7, r18_8, r18_9, r18_10, r18_11, r18_12, r18_13, r18_14, r18_15]) [] [], none⟩), (18, ⟨.auto, some (.c (.int .i64 x18))⟩), (19, ⟨.auto, some (.c (.int .i64 x20))⟩), (23, ⟨.auto, some (.c (.int .i64 x22))⟩), (24, ⟨.auto, some (.c (.int .i64 x24))⟩), (29, ⟨.auto, some (.c (.int .u8 x26))⟩), (33, ⟨.auto, some (.c (.int .i64 x28))⟩), (46, ⟨.auto, some (.c (.int .i64 x30))⟩), (47, ⟨.auto, some (.c (.int .i64 x32))⟩), (51, ⟨.auto, some (.c (.int .i64 x34))⟩), (52, ⟨.auto, some (.c (.int .i64 x36))⟩), (57, ⟨.auto, some (.c (.int .u8 x38))⟩), (61, ⟨.auto, some (.c (.int .i64 x40))⟩), (74, ⟨.auto, some (.c (.int .i64 x42))⟩), (75, ⟨.auto, some (.c (.int .i64 x44))⟩), (79, ⟨.auto, some (.c (.int .i64 x46))⟩), (80, ⟨.auto, some (.c (.int .i64 x48))⟩), (85, ⟨.auto, some (.c (.int .u8 x50))⟩), (89, ⟨.auto, some (.c (.int .i64 x52))⟩), (102, ⟨.auto, some (.c (.int .i64 x54))⟩), (103, ⟨.auto, some (.c (.int .i64 x56))⟩), (107, ⟨.auto, some (.c (.int .i64 x58))⟩), (108, ⟨.auto, some (.c (.int .i64 x60))⟩), (113, ⟨.auto, some (.c (.int .u8 x62))⟩), (117, ⟨.auto, some (.c (.int .i64 x64))⟩), (130, ⟨.auto, some (.c (.int .i64 x66))⟩), (131, ⟨.auto, some (.c (.int .i64 x68))⟩), (135, ⟨.auto, some (.c (.int .i64 x70))⟩), (136, ⟨.auto, some (.c (.int .i64 x72))⟩), (141, ⟨.auto, some (.c (.int .u8 x74))⟩), (145, ⟨.auto, some (.c (.int .i64 x76))⟩), (158, ⟨.auto, some (.c (.int .i64 x78))⟩), (159, ⟨.auto, some (.c (.int .i64 x80))⟩), (163, ⟨.auto, some (.c (.int .i64 x82))⟩), (164, ⟨.auto, some (.c (.int .i64 x84))⟩), (169, ⟨.auto, some (.c (.int .u8 x86))⟩), (173, ⟨.auto, some (.c (.int .i64 x88))⟩), (186, ⟨.auto, some (.c (.int .i64 x90))⟩), (187, ⟨.auto, some (.c (.int .i64 x92))⟩), (191, ⟨.auto, some (.c (.int .i64 x94))⟩), (192, ⟨.auto, some (.c (.int .i64 x96))⟩), (197, ⟨.auto, some (.c (.int .u8 x98))⟩), (201, ⟨.auto, some (.c (.int .i64 x100))⟩), (214, ⟨.auto, some (.c (.int .i64 x102))⟩), (215, ⟨.auto, some (.c (.int .i64 x104))⟩), (219, ⟨.auto, some (.c (.int .i64 x106))⟩), (220, ⟨.auto, some (.c (.int .i64 x108))⟩), (225, ⟨.auto, some (.c (.int .u8 x110))⟩), (229, ⟨.auto, some (.c (.int .i64 x112))⟩), (242, ⟨.auto, some (.c (.int .i64 x114))⟩), (243, ⟨.auto, some (.c (.int .i64 x116))⟩), (247, ⟨.auto, some (.c (.int .i64 x118))⟩), (248, ⟨.auto, some (.c (.int .i64 x120))⟩), (253, ⟨.auto, some (.c (.int .u8 x122))⟩), (257, ⟨.auto, some (.c (.int .i64 x124))⟩), (270, ⟨.auto, some (.c (.int .i64 x126))⟩), (271, ⟨.auto, some (.c (.int .i64 x128))⟩), (275, ⟨.auto, some (.c (.int .i64 x130))⟩), (276, ⟨.auto, some (.c (.int .i64 x132))⟩), (281, ⟨.auto, some (.c (.int .u8 x134))⟩), (285, ⟨.auto, some (.c (.int .i64 x136))⟩), (298, ⟨.auto, some (.c (.int .i64 x138))⟩), (299, ⟨.auto, some (.c (.int .i64 x140))⟩), (303, ⟨.auto, some (.c (.int .i64 x142))⟩), (304, ⟨.auto, some (.c (.int .i64 x144))⟩), (309, ⟨.auto, some (.c (.int .u8 x146))⟩), (313, ⟨.auto, some (.c (.int .i64 x148))⟩), (326, ⟨.auto, some (.c (.int .i64 x150))⟩), (327, ⟨.auto, some (.c (.int .i64 x152))⟩), (331, ⟨.auto, some (.c (.int .i64 x154))⟩), (332, ⟨.auto, some (.c (.int .i64 x156))⟩), (337, ⟨.auto, some (.c (.int .u8 x158))⟩), (341, ⟨.auto, some (.c (.int .i64 x160))⟩), (354, ⟨.auto, some (.c (.int .i64 x162))⟩), (355, ⟨.auto, some (.c (.int .i64 x164))⟩), (359, ⟨.auto, some (.c (.int .i64 x166))⟩), (360, ⟨.auto, some (.c (.int .i64 x168))⟩), (365, ⟨.auto, some (.c (.int .u8 x170))⟩), (369, ⟨.auto, some (.c (.int .i64 x172))⟩), (382, ⟨.auto, some (.c (.int .i64 x174))⟩), (383, ⟨.auto, some (.c (.int .i64 x176))⟩), (387, ⟨.auto, some (.c (.int .i64 x178))⟩), (388, ⟨.auto, some (.c (.int .i64 x180))⟩), (393, ⟨.auto, some (.c (.int .u8 x182))⟩), (397, ⟨.auto, some (.c (.int .i64 x184))⟩), (410, ⟨.auto, some (.c (.int .i64 x186))⟩), (411, ⟨.auto, some (.c (.int .i64 x188))⟩), (415, ⟨.auto, some (.c (.int .i64 x190))⟩), (416, ⟨.auto, some (.c (.int .i64 x192))⟩), (421, ⟨.auto, some (.c (.int .u8 x194))⟩), (425, ⟨.auto, some (.c (.int .i64 x196))⟩), (438, ⟨.auto, some (.c (.int .i64 x198))⟩), (439, ⟨.auto, some (.c (.int .i64 x200))⟩), (443, ⟨.auto, some (.c (.int .i64 x202))⟩), (444, ⟨.auto, some (.c (.int .i64 x204))⟩), (449, ⟨.auto, some (.c (.int .u8 x206))⟩), (453, ⟨.auto, some (.c (.int .i64 x208))⟩), (463, ⟨.call [1] (.aggi .u8 [r18_209, r18_210, r18_211, r18_212, r18_213, r18_214, r18_215, r18_216, r18_217, r18_218, r18_219, r18_220, r18_221, r18_222, r18_223, r18_224]) [] [], none⟩), (475, ⟨.auto, some (.c (.int .i64 x227))⟩), (476, ⟨.auto, some (.c (.int .i64 x229))⟩), (480, ⟨.auto, some (.c (.int .i64 x231))⟩), (481, ⟨.auto, some (.c (.int .i64 x233))⟩), (485, ⟨.auto, some (.c (.int .u8 x235))⟩), (489, ⟨.auto, some (.c (.int .i64 x237))⟩), (501, ⟨.auto, some (.c (.int .i64 x239))⟩), (502, ⟨.auto, some (.c (.int .i64 x241))⟩), (506, ⟨.auto, some (.c (.int .i64 x243))⟩), (507, ⟨.auto, some (.c (.int .i64 x245))⟩), (511, ⟨.auto, some (.c (.int .u8 x247))⟩), (515, ⟨.auto, some (.c (.int .i64 x249))⟩), (527, ⟨.auto, some (.c (.int .i64 x251))⟩), (528, ⟨.auto, some (.c (.int .i64 x253))⟩), (532, ⟨.auto, some (.c (.int .i64 x255))⟩), (533, ⟨.auto, some (.c (.int .i64 x257))⟩), (537, ⟨.auto, some (.c (.int .u8 x259))⟩), (541, ⟨.auto, some (.c (.int .i64 x261))⟩), (553, ⟨.auto, some (.c (.int .i64 x263))⟩), (554, ⟨.auto, some (.c (.int .i64 x265))⟩), (558, ⟨.auto, some (.c (.int .i64 x267))⟩), (559, ⟨.auto, some (.c (.int .i64 x269))⟩), (563, ⟨.auto, some (.c (.int .u8 x271))⟩), (567, ⟨.auto, some (.c (.int .i64 x273))⟩), (579, ⟨.auto, some (.c (.int .i64 x275))⟩), (580, ⟨.auto, some (.c (.int .i64 x277))⟩), (584, ⟨.auto, some (.c (.int .i64 x279))⟩), (585, ⟨.auto, some (.c (.int .i64 x281))⟩), (589, ⟨.auto, some (.c (.int .u8 x283))⟩), (593, ⟨.auto, some (.c (.int .i64 x285))⟩), (605, ⟨.auto, some (.c (.int .i64 x287))⟩), (606, ⟨.auto, some (.c (.int .i64 x289))⟩), (610, ⟨.auto, some (.c (.int .i64 x291))⟩), (611, ⟨.auto, some (.c (.int .i64 x293))⟩), (615, ⟨.auto, some (.c (.int .u8 x295))⟩), (619, ⟨.auto, some (.c (.int .i64 x297))⟩), (631, ⟨.auto, some (.c (.int .i64 x299))⟩), (632, ⟨.auto, some (.c (.int .i64 x301))⟩), (636, ⟨.auto, some (.c (.int .i64 x303))⟩), (637, ⟨.auto, some (.c (.int .i64 x305))⟩), (641, ⟨.auto, some (.c (.int .u8 x307))⟩), (645, ⟨.auto, some (.c (.int .i64 x309))⟩), (657, ⟨.auto, some (.c (.int .i64 x311))⟩), (658, ⟨.auto, some (.c (.int .i64 x313))⟩), (662, ⟨.auto, some (.c (.int .i64 x315))⟩), (663, ⟨.auto, some (.c (.int .i64 x317))⟩), (667, ⟨.auto, some (.c (.int .u8 x319))⟩), (671, ⟨.auto, some (.c (.int .i64 x321))⟩), (683, ⟨.auto, some (.c (.int .i64 x323))⟩), (684, ⟨.auto, some (.c (.int .i64 x325))⟩), (688, ⟨.auto, some (.c (.int .i64 x327))⟩), (689, ⟨.auto, some (.c (.int .i64 x329))⟩), (693, ⟨.auto, some (.c (.int .u8 x331))⟩), (697, ⟨.auto, some (.c (.int .i64 x333))⟩), (709, ⟨.auto, some (.c (.int .i64 x335))⟩), (710, ⟨.auto, some (.c (.int .i64 x337))⟩), (714, ⟨.auto, some (.c (.int .i64 x339))⟩), (715, ⟨.auto, some (.c (.int .i64 x341))⟩), (719, ⟨.auto, some (.c (.int .u8 x343))⟩), (723, ⟨.auto, some (.c (.int .i64 x345))⟩), (735, ⟨.auto, some (.c (.int .i64 x347))⟩), (736, ⟨.auto, some (.c (.int .i64 x349))⟩), (740, ⟨.auto, some (.c (.int .i64 x351))⟩), (741, ⟨.auto, some (.c (.int .i64 x353))⟩), (745, ⟨.auto, some (.c (.int .u8 x355))⟩), (749, ⟨.auto, some (.c (.int .i64 x357))⟩), (761, ⟨.auto, some (.c (.int .i64 x359))⟩), (762, ⟨.auto, some (.c (.int .i64 x361))⟩), (766, ⟨.auto, some (.c (.int .i64 x363))⟩), (767, ⟨.auto, some (.c (.int .i64 x365))⟩), (771, ⟨.auto, some (.c (.int .u8 x367))⟩), (775, ⟨.auto, some (.c (.int .i64 x369))⟩), (787, ⟨.auto, some (.c (.int .i64 x371))⟩), (788, ⟨.auto, some (.c (.int .i64 x373))⟩), (792, ⟨.auto, some (.c (.int .i64 x375))⟩), (793, ⟨.auto, some (.c (.int .i64 x377))⟩), (797, ⟨.auto, some (.c (.int .u8 x379))⟩), (801, ⟨.auto, some (.c (.int .i64 x381))⟩), (813, ⟨.auto, some (.c (.int .i64 x383))⟩), (814, ⟨.auto, some (.c (.int .i64 x385))⟩), (818, ⟨.auto, some (.c (.int .i64 x387))⟩), (819, ⟨.auto, some (.c (.int .i64 x389))⟩), (823, ⟨.auto, some (.c (.int .u8 x391))⟩), (827, ⟨.auto, some (.c (.int .i64 x393))⟩), (839, ⟨.auto, some (.c (.int .i64 x395))⟩), (840, ⟨.auto, some (.c (.int .i64 x397))⟩), (844, ⟨.auto, some (.c (.int .i64 x399))⟩), (845, ⟨.auto, some (.c (.int .i64 x401))⟩), (849, ⟨.auto, some (.c (.int .u8 x403))⟩), (853, ⟨.auto, some (.c (.int .i64 x405))⟩), (865, ⟨.auto, some (.c (.int .i64 x407))⟩), (866, ⟨.auto, some (.c (.int .i64 x409))⟩), (870, ⟨.auto, some (.c (.int .i64 x411))⟩), (871, ⟨.auto, some (.c (.int .i64 x413))⟩), (875, ⟨.auto, some (.c (.int .u8 x415))⟩), (879, ⟨.auto, some (.c (.int .i64 x417))⟩), (887, ⟨.call [] (.c (.bool (true))) [] [], none⟩), (891, ⟨.auto, some (.c (.bool q420))⟩)])
    (cs := [EB (List.take 16 (List.drop 0 (splice (splice (splice (splice (splice (splice (splice (splice (splice (splice (splice (splice (splice (splice (splice (splice (splice [0, 0, 0, 0, 0, 0, 0, 0, 0, 0, 0, 0, 0, 0, 0, 0] 0 [r18_0, r18_1, r18_2, r18_3, r18_4, r18_5, r18_6, r18_7, r18_8, r18_9, r18_10, r18_11, r18_12, r18_13, r18_14, r18_15]) 0 [x235]) 1 [x247]) 2 [x259]) 3 [x271]) 4 [x283]) 5 [x295]) 6 [x307]) 7 [x319]) 8 [x331]) 9 [x343]) 10 [x355]) 11 [x367]) 12 [x379]) 13 [x391]) 14 [x403]) 15 [x415])) == List.take 16 (List.drop 0 (splice [0, 0, 0, 0, 0, 0, 0, 0, 0, 0, 0, 0, 0, 0, 0, 0] 0 [r18_209, r18_210, r18_211, r18_212, r18_213, r18_214, r18_215, r18_216, r18_217, r18_218, r18_219, r18_220, r18_221, r18_222, r18_223, r18_224]))) q420,
      Contract Try.prog 19 [] [] 13650 (.c (.bool (true))) [] [],
      EI .i64 (IntKind.wrap IntKind.i64 (Int.tdiv x413 256)) x417,
      EI .u8 (x413 % 256) x415,
      EI .i64 (IntKind.wrap IntKind.i64 (x409 + x411)) x413,
      EI .i64 (IntKind.wrap IntKind.i64 m15) x411,
      EI .i64 (IntKind.wrap IntKind.i64 (x405 + x407)) x409,
      EI .i64 (IntKind.wrap IntKind.i64 r18_15) x407,
      EI .i64 (IntKind.wrap IntKind.i64 (Int.tdiv x401 256)) x405,
      EI .u8 (x401 % 256) x403,
      EI .i64 (IntKind.wrap IntKind.i64 (x397 + x399)) x401,
      EI .i64 (IntKind.wrap IntKind.i64 m14) x399,
      EI .i64 (IntKind.wrap IntKind.i64 (x393 + x395)) x397,
      EI .i64 (IntKind.wrap IntKind.i64 r18_14) x395,
      EI .i64 (IntKind.wrap IntKind.i64 (Int.tdiv x389 256)) x393,
      EI .u8 (x389 % 256) x391,
      EI .i64 (IntKind.wrap IntKind.i64 (x385 + x387)) x389,
      EI .i64 (IntKind.wrap IntKind.i64 m13) x387,
      EI .i64 (IntKind.wrap IntKind.i64 (x381 + x383)) x385,
      EI .i64 (IntKind.wrap IntKind.i64 r18_13) x383,
      EI .i64 (IntKind.wrap IntKind.i64 (Int.tdiv x377 256)) x381,
      EI .u8 (x377 % 256) x379,
      EI .i64 (IntKind.wrap IntKind.i64 (x373 + x375)) x377,
      EI .i64 (IntKind.wrap IntKind.i64 m12) x375,
      EI .i64 (IntKind.wrap IntKind.i64 (x369 + x371)) x373,
      EI .i64 (IntKind.wrap IntKind.i64 r18_12) x371,
      EI .i64 (IntKind.wrap IntKind.i64 (Int.tdiv x365 256)) x369,
      EI .u8 (x365 % 256) x367,
      EI .i64 (IntKind.wrap IntKind.i64 (x361 + x363)) x365,
      EI .i64 (IntKind.wrap IntKind.i64 m11) x363,
      EI .i64 (IntKind.wrap IntKind.i64 (x357 + x359)) x361,
      EI .i64 (IntKind.wrap IntKind.i64 r18_11) x359,
      EI .i64 (IntKind.wrap IntKind.i64 (Int.tdiv x353 256)) x357,
      EI .u8 (x353 % 256) x355,
      EI .i64 (IntKind.wrap IntKind.i64 (x349 + x351)) x353,
      EI .i64 (IntKind.wrap IntKind.i64 m10) x351,
      EI .i64 (IntKind.wrap IntKind.i64 (x345 + x347)) x349,
      EI .i64 (IntKind.wrap IntKind.i64 r18_10) x347,
      EI .i64 (IntKind.wrap IntKind.i64 (Int.tdiv x341 256)) x345,
      EI .u8 (x341 % 256) x343,
      EI .i64 (IntKind.wrap IntKind.i64 (x337 + x339)) x341,
      EI .i64 (IntKind.wrap IntKind.i64 m9) x339,
      EI .i64 (IntKind.wrap IntKind.i64 (x333 + x335)) x337,
      EI .i64 (IntKind.wrap IntKind.i64 r18_9) x335,
      EI .i64 (IntKind.wrap IntKind.i64 (Int.tdiv x329 256)) x333,
      EI .u8 (x329 % 256) x331,
      EI .i64 (IntKind.wrap IntKind.i64 (x325 + x327)) x329,
      EI .i64 (IntKind.wrap IntKind.i64 m8) x327,
      EI .i64 (IntKind.wrap IntKind.i64 (x321 + x323)) x325,
      EI .i64 (IntKind.wrap IntKind.i64 r18_8) x323,
      EI .i64 (IntKind.wrap IntKind.i64 (Int.tdiv x317 256)) x321,
      EI .u8 (x317 % 256) x319,
      EI .i64 (IntKind.wrap IntKind.i64 (x313 + x315)) x317,
      EI .i64 (IntKind.wrap IntKind.i64 m7) x315,
      EI .i64 (IntKind.wrap IntKind.i64 (x309 + x311)) x313,
      EI .i64 (IntKind.wrap IntKind.i64 r18_7) x311,
      EI .i64 (IntKind.wrap IntKind.i64 (Int.tdiv x305 256)) x309,
      EI .u8 (x305 % 256) x307,
      EI .i64 (IntKind.wrap IntKind.i64 (x301 + x303)) x305,
      EI .i64 (IntKind.wrap IntKind.i64 m6) x303,
      EI .i64 (IntKind.wrap IntKind.i64 (x297 + x299)) x301,
      EI .i64 (IntKind.wrap IntKind.i64 r18_6) x299,
      EI .i64 (IntKind.wrap IntKind.i64 (Int.tdiv x293 256)) x297,
      EI .u8 (x293 % 256) x295,
      EI .i64 (IntKind.wrap IntKind.i64 (x289 + x291)) x293,
      EI .i64 (IntKind.wrap IntKind.i64 m5) x291,
      EI .i64 (IntKind.wrap IntKind.i64 (x285 + x287)) x289,
      EI .i64 (IntKind.wrap IntKind.i64 r18_5) x287,
      EI .i64 (IntKind.wrap IntKind.i64 (Int.tdiv x281 256)) x285,
      EI .u8 (x281 % 256) x283,
      EI .i64 (IntKind.wrap IntKind.i64 (x277 + x279)) x281,
      EI .i64 (IntKind.wrap IntKind.i64 m4) x279,
      EI .i64 (IntKind.wrap IntKind.i64 (x273 + x275)) x277,
      EI .i64 (IntKind.wrap IntKind.i64 r18_4) x275,
      EI .i64 (IntKind.wrap IntKind.i64 (Int.tdiv x269 256)) x273,
      EI .u8 (x269 % 256) x271,
      EI .i64 (IntKind.wrap IntKind.i64 (x265 + x267)) x269,
      EI .i64 (IntKind.wrap IntKind.i64 m3) x267,
      EI .i64 (IntKind.wrap IntKind.i64 (x261 + x263)) x265,
      EI .i64 (IntKind.wrap IntKind.i64 r18_3) x263,
      EI .i64 (IntKind.wrap IntKind.i64 (Int.tdiv x257 256)) x261,
      EI .u8 (x257 % 256) x259,
      EI .i64 (IntKind.wrap IntKind.i64 (x253 + x255)) x257,
      EI .i64 (IntKind.wrap IntKind.i64 m2) x255,
      EI .i64 (IntKind.wrap IntKind.i64 (x249 + x251)) x253,
      EI .i64 (IntKind.wrap IntKind.i64 r18_2) x251,
      EI .i64 (IntKind.wrap IntKind.i64 (Int.tdiv x245 256)) x249,
      EI .u8 (x245 % 256) x247,
      EI .i64 (IntKind.wrap IntKind.i64 (x241 + x243)) x245,
      EI .i64 (IntKind.wrap IntKind.i64 m1) x243,
      EI .i64 (IntKind.wrap IntKind.i64 (x237 + x239)) x241,
      EI .i64 (IntKind.wrap IntKind.i64 r18_1) x239,
      EI .i64 (IntKind.wrap IntKind.i64 (Int.tdiv x233 256)) x237,
      EI .u8 (x233 % 256) x235,
      EI .i64 (IntKind.wrap IntKind.i64 (x229 + x231)) x233,
      EI .i64 (IntKind.wrap IntKind.i64 m0) x231,
      EI .i64 (IntKind.wrap IntKind.i64 (0 + x227)) x229,
      EI .i64 (IntKind.wrap IntKind.i64 r18_0) x227,
      Contract Try.prog 18 [(.aggi .u8 [k0, k1, k2, k3, k4, k5, k6, k7, k8, k9, k10, k11, k12, k13, k14, k15, x26, x38, x50, x62, x74, x86, x98, x110, x122, x134, x146, x158, x170, x182, x194, x206]), (.c (.sl 1 0 o n 1))] [(1, (.one ⟨false, false, (.ints .u8 l)⟩))] 7138 (.aggi .u8 [r18_209, r18_210, r18_211, r18_212, r18_213, r18_214, r18_215, r18_216, r18_217, r18_218, r18_219, r18_220, r18_221, r18_222, r18_223, r18_224]) [] [],
      EI .i64 (IntKind.wrap IntKind.i64 (Int.tdiv x204 256)) x208,
      EI .u8 (x204 % 256) x206,
      EI .i64 (IntKind.wrap IntKind.i64 (x200 + x202)) x204,
      EI .i64 (IntKind.wrap IntKind.i64 m15) x202,
      EI .i64 (IntKind.wrap IntKind.i64 (x196 + x198)) x200,
      EI .i64 (IntKind.wrap IntKind.i64 k31) x198,
      EI .i64 (IntKind.wrap IntKind.i64 (Int.tdiv x192 256)) x196,
      EI .u8 (x192 % 256) x194,
      EI .i64 (IntKind.wrap IntKind.i64 (x188 + x190)) x192,
      EI .i64 (IntKind.wrap IntKind.i64 m14) x190,
      EI .i64 (IntKind.wrap IntKind.i64 (x184 + x186)) x188,
      EI .i64 (IntKind.wrap IntKind.i64 k30) x186,
      EI .i64 (IntKind.wrap IntKind.i64 (Int.tdiv x180 256)) x184,
      EI .u8 (x180 % 256) x182,
      EI .i64 (IntKind.wrap IntKind.i64 (x176 + x178)) x180,
      EI .i64 (IntKind.wrap IntKind.i64 m13) x178,
      EI .i64 (IntKind.wrap IntKind.i64 (x172 + x174)) x176,
      EI .i64 (IntKind.wrap IntKind.i64 k29) x174,
      EI .i64 (IntKind.wrap IntKind.i64 (Int.tdiv x168 256)) x172,
      EI .u8 (x168 % 256) x170,
      EI .i64 (IntKind.wrap IntKind.i64 (x164 + x166)) x168,
      EI .i64 (IntKind.wrap IntKind.i64 m12) x166,
      EI .i64 (IntKind.wrap IntKind.i64 (x160 + x162)) x164,
      EI .i64 (IntKind.wrap IntKind.i64 k28) x162,
      EI .i64 (IntKind.wrap IntKind.i64 (Int.tdiv x156 256)) x160,
      EI .u8 (x156 % 256) x158,
      EI .i64 (IntKind.wrap IntKind.i64 (x152 + x154)) x156,
      EI .i64 (IntKind.wrap IntKind.i64 m11) x154,
      EI .i64 (IntKind.wrap IntKind.i64 (x148 + x150)) x152,
      EI .i64 (IntKind.wrap IntKind.i64 k27) x150,
      EI .i64 (IntKind.wrap IntKind.i64 (Int.tdiv x144 256)) x148,
      EI .u8 (x144 % 256) x146,
      EI .i64 (IntKind.wrap IntKind.i64 (x140 + x142)) x144,
      EI .i64 (IntKind.wrap IntKind.i64 m10) x142,
      EI .i64 (IntKind.wrap IntKind.i64 (x136 + x138)) x140,
      EI .i64 (IntKind.wrap IntKind.i64 k26) x138,
      EI .i64 (IntKind.wrap IntKind.i64 (Int.tdiv x132 256)) x136,
      EI .u8 (x132 % 256) x134,
      EI .i64 (IntKind.wrap IntKind.i64 (x128 + x130)) x132,
      EI .i64 (IntKind.wrap IntKind.i64 m9) x130,
      EI .i64 (IntKind.wrap IntKind.i64 (x124 + x126)) x128,
      EI .i64 (IntKind.wrap IntKind.i64 k25) x126,
      EI .i64 (IntKind.wrap IntKind.i64 (Int.tdiv x120 256)) x124,
      EI .u8 (x120 % 256) x122,
      EI .i64 (IntKind.wrap IntKind.i64 (x116 + x118)) x120,
      EI .i64 (IntKind.wrap IntKind.i64 m8) x118,
      EI .i64 (IntKind.wrap IntKind.i64 (x112 + x114)) x116,
      EI .i64 (IntKind.wrap IntKind.i64 k24) x114,
      EI .i64 (IntKind.wrap IntKind.i64 (Int.tdiv x108 256)) x112,
      EI .u8 (x108 % 256) x110,
      EI .i64 (IntKind.wrap IntKind.i64 (x104 + x106)) x108,
      EI .i64 (IntKind.wrap IntKind.i64 m7) x106,
      EI .i64 (IntKind.wrap IntKind.i64 (x100 + x102)) x104,
      EI .i64 (IntKind.wrap IntKind.i64 k23) x102,
      EI .i64 (IntKind.wrap IntKind.i64 (Int.tdiv x96 256)) x100,
      EI .u8 (x96 % 256) x98,
      EI .i64 (IntKind.wrap IntKind.i64 (x92 + x94)) x96,
      EI .i64 (IntKind.wrap IntKind.i64 m6) x94,
      EI .i64 (IntKind.wrap IntKind.i64 (x88 + x90)) x92,
      EI .i64 (IntKind.wrap IntKind.i64 k22) x90,
      EI .i64 (IntKind.wrap IntKind.i64 (Int.tdiv x84 256)) x88,
      EI .u8 (x84 % 256) x86,
      EI .i64 (IntKind.wrap IntKind.i64 (x80 + x82)) x84,
      EI .i64 (IntKind.wrap IntKind.i64 m5) x82,
      EI .i64 (IntKind.wrap IntKind.i64 (x76 + x78)) x80,
      EI .i64 (IntKind.wrap IntKind.i64 k21) x78,
      EI .i64 (IntKind.wrap IntKind.i64 (Int.tdiv x72 256)) x76,
      EI .u8 (x72 % 256) x74,
      EI .i64 (IntKind.wrap IntKind.i64 (x68 + x70)) x72,
      EI .i64 (IntKind.wrap IntKind.i64 m4) x70,
      EI .i64 (IntKind.wrap IntKind.i64 (x64 + x66)) x68,
      EI .i64 (IntKind.wrap IntKind.i64 k20) x66,
      EI .i64 (IntKind.wrap IntKind.i64 (Int.tdiv x60 256)) x64,
      EI .u8 (x60 % 256) x62,
      EI .i64 (IntKind.wrap IntKind.i64 (x56 + x58)) x60,
      EI .i64 (IntKind.wrap IntKind.i64 m3) x58,
      EI .i64 (IntKind.wrap IntKind.i64 (x52 + x54)) x56,
      EI .i64 (IntKind.wrap IntKind.i64 k19) x54,
      EI .i64 (IntKind.wrap IntKind.i64 (Int.tdiv x48 256)) x52,
      EI .u8 (x48 % 256) x50,
      EI .i64 (IntKind.wrap IntKind.i64 (x44 + x46)) x48,
      EI .i64 (IntKind.wrap IntKind.i64 m2) x46,
      EI .i64 (IntKind.wrap IntKind.i64 (x40 + x42)) x44,
      EI .i64 (IntKind.wrap IntKind.i64 k18) x42,
      EI .i64 (IntKind.wrap IntKind.i64 (Int.tdiv x36 256)) x40,
      EI .u8 (x36 % 256) x38,
      EI .i64 (IntKind.wrap IntKind.i64 (x32 + x34)) x36,
      EI .i64 (IntKind.wrap IntKind.i64 m1) x34,
      EI .i64 (IntKind.wrap IntKind.i64 (x28 + x30)) x32,
      EI .i64 (IntKind.wrap IntKind.i64 k17) x30,
      EI .i64 (IntKind.wrap IntKind.i64 (Int.tdiv x24 256)) x28,
      EI .u8 (x24 % 256) x26,
      EI .i64 (IntKind.wrap IntKind.i64 (x20 + x22)) x24,
      EI .i64 (IntKind.wrap IntKind.i64 m0) x22,
      EI .i64 (IntKind.wrap IntKind.i64 (0 + x18)) x20,
      EI .i64 (IntKind.wrap IntKind.i64 k16) x18,
      Contract Try.prog 18 [(.aggi .u8 [k0, k1, k2, k3, k4, k5, k6, k7, k8, k9, k10, k11, k12, k13, k14, k15, k16, k17, k18, k19, k20, k21, k22, k23, k24, k25, k26, k27, k28, k29, k30, k31]), (.c (.sl 1 0 o n 1))] [(1, (.one ⟨false, false, (.ints .u8 l)⟩))] 82 (.aggi .u8 [r18_0, r18_1, r18_2, r18_3, r18_4, r18_5, r18_6, r18_7, r18_8, r18_9, r18_10, r18_11, r18_12, r18_13, r18_14, r18_15]) [] []])
    mixed Try.func5 (by kernel_rfl) (by kernel_rfl) (by kernel_rfl) rfl (by kernel_rfl) ⟨.mk h419, c418.use (by kernel_rfl) rfl rfl _ _, .mk h416, .mk h414, .mk h412, .mk h410, .mk h408, .mk h406, .mk h404, .mk h402, .mk h400, .mk h398, .mk h396, .mk h394, .mk h392, .mk h390, .mk h388, .mk h386, .mk h384, .mk h382, .mk h380, .mk h378, .mk h376, .mk h374, .mk h372, .mk h370, .mk h368, .mk h366, .mk h364, .mk h362, .mk h360, .mk h358, .mk h356, .mk h354, .mk h352, .mk h350, .mk h348, .mk h346, .mk h344, .mk h342, .mk h340, .mk h338, .mk h336, .mk h334, .mk h332, .mk h330, .mk h328, .mk h326, .mk h324, .mk h322, .mk h320, .mk h318, .mk h316, .mk h314, .mk h312, .mk h310, .mk h308, .mk h306, .mk h304, .mk h302, .mk h300, .mk h298, .mk h296, .mk h294, .mk h292, .mk h290, .mk h288, .mk h286, .mk h284, .mk h282, .mk h280, .mk h278, .mk h276, .mk h274, .mk h272, .mk h270, .mk h268, .mk h266, .mk h264, .mk h262, .mk h260, .mk h258, .mk h256, .mk h254, .mk h252, .mk h250, .mk h248, .mk h246, .mk h244, .mk h242, .mk h240, .mk h238, .mk h236, .mk h234, .mk h232, .mk h230, .mk h228, .mk h226, c225.ro [(1, (1, true))] rfl (by kernel_rfl) rfl (by kernel_rfl) rfl rfl _, .mk h207, .mk h205, .mk h203, .mk h201, .mk h199, .mk h197, .mk h195, .mk h193, .mk h191, .mk h189, .mk h187, .mk h185, .mk h183, .mk h181, .mk h179, .mk h177, .mk h175, .mk h173, .mk h171, .mk h169, .mk h167, .mk h165, .mk h163, .mk h161, .mk h159, .mk h157, .mk h155, .mk h153, .mk h151, .mk h149, .mk h147, .mk h145, .mk h143, .mk h141, .mk h139, .mk h137, .mk h135, .mk h133, .mk h131, .mk h129, .mk h127, .mk h125, .mk h123, .mk h121, .mk h119, .mk h117, .mk h115, .mk h113, .mk h111, .mk h109, .mk h107, .mk h105, .mk h103, .mk h101, .mk h99, .mk h97, .mk h95, .mk h93, .mk h91, .mk h89, .mk h87, .mk h85, .mk h83, .mk h81, .mk h79, .mk h77, .mk h75, .mk h73, .mk h71, .mk h69, .mk h67, .mk h65, .mk h63, .mk h61, .mk h59, .mk h57, .mk h55, .mk h53, .mk h51, .mk h49, .mk h47, .mk h45, .mk h43, .mk h41, .mk h39, .mk h37, .mk h35, .mk h33, .mk h31, .mk h29, .mk h27, .mk h25, .mk h23, .mk h21, .mk h19, .mk h17, c16.ro [(1, (1, true))] rfl (by kernel_rfl) rfl (by kernel_rfl) rfl rfl _, trivial⟩

end Go.Proofs.Ytokhfkjkeebfpaa.Vm

namespace Go.Proofs.Ytokhfkjkeebfpaa.Vm
open Go Go.Proofs Go.Proofs.Ytokhfkjkeebfpaa
theorem eqv_of {a b : List Int} (h : a = b) : (a == b) = true := by subst h; simp
theorem list_congr {f g : Nat → Int} (H : ∀ i, i < 16 → f i = g i) : [f 0, f 1, f 2, f 3, f 4, f 5, f 6, f 7, f 8, f 9, f 10, f 11, f 12, f 13, f 14, f 15] = [g 0, g 1, g 2, g 3, g 4, g 5, g 6, g 7, g 8, g 9, g 10, g 11, g 12, g 13, g 14, g 15] := by
  rw [H 0 (by decide), H 1 (by decide), H 2 (by decide), H 3 (by decide), H 4 (by decide), H 5 (by decide), H 6 (by decide), H 7 (by decide), H 8 (by decide), H 9 (by decide), H 10 (by decide), H 11 (by decide), H 12 (by decide), H 13 (by decide), H 14 (by decide), H 15 (by decide)]
theorem spl16 (a0 a1 a2 a3 a4 a5 a6 a7 a8 a9 a10 a11 a12 a13 a14 a15 b0 b1 b2 b3 b4 b5 b6 b7 b8 b9 b10 b11 b12 b13 b14 b15 : Int) : List.take 16 (List.drop 0 (splice (splice (splice (splice (splice (splice (splice (splice (splice (splice (splice (splice (splice (splice (splice (splice (splice [0, 0, 0, 0, 0, 0, 0, 0, 0, 0, 0, 0, 0, 0, 0, 0] 0 [a0, a1, a2, a3, a4, a5, a6, a7, a8, a9, a10, a11, a12, a13, a14, a15]) 0 [b0]) 1 [b1]) 2 [b2]) 3 [b3]) 4 [b4]) 5 [b5]) 6 [b6]) 7 [b7]) 8 [b8]) 9 [b9]) 10 [b10]) 11 [b11]) 12 [b12]) 13 [b13]) 14 [b14]) 15 [b15])) = [b0, b1, b2, b3, b4, b5, b6, b7, b8, b9, b10, b11, b12, b13, b14, b15] := by kernel_rfl
theorem spl16r (b0 b1 b2 b3 b4 b5 b6 b7 b8 b9 b10 b11 b12 b13 b14 b15 : Int) : List.take 16 (List.drop 0 (splice [0, 0, 0, 0, 0, 0, 0, 0, 0, 0, 0, 0, 0, 0, 0, 0] 0 [b0, b1, b2, b3, b4, b5, b6, b7, b8, b9, b10, b11, b12, b13, b14, b15])) = [b0, b1, b2, b3, b4, b5, b6, b7, b8, b9, b10, b11, b12, b13, b14, b15] := by kernel_rfl
theorem polyShifts_fun (k0 k1 k2 k3 k4 k5 k6 k7 k8 k9 k10 k11 k12 k13 k14 k15 : Int) (S Mf : Nat → Int) (hS : Bt S) (hM : Bt Mf) (l : List Int) {o n : Nat} (hl : o + n ≤ l.length) :
    Contract0 Try.prog 5 [(.aggi .u8 [k0, k1, k2, k3, k4, k5, k6, k7, k8, k9, k10, k11, k12, k13, k14, k15, S 0, S 1, S 2, S 3, S 4, S 5, S 6, S 7, S 8, S 9, S 10, S 11, S 12, S 13, S 14, S 15]), (.c (.sl 1 0 o n 1)), (.aggi .u8 [Mf 0, Mf 1, Mf 2, Mf 3, Mf 4, Mf 5, Mf 6, Mf 7, Mf 8, Mf 9, Mf 10, Mf 11, Mf 12, Mf 13, Mf 14, Mf 15])] [(1, .one ⟨false, false, .ints .u8 l⟩)] 2 (.c (.bool true)) [] [] := by
  obtain ⟨h, hh, hT⟩ := tag_gen k0 k1 k2 k3 k4 k5 k6 k7 k8 k9 k10 k11 k12 k13 k14 k15 l hl
  have c1 := hT hS
  have cb1 := cc_bound hS hM
  have hA : Bt (fun j => cc h S j % 256) := fun j => ⟨Int.emod_nonneg _ (by decide), Int.emod_lt_of_pos _ (by decide)⟩
  have cb2 := cc_bound hA hM
  have hS2 : Bt (fun j => cc S Mf j % 256) := fun j => ⟨Int.emod_nonneg _ (by decide), Int.emod_lt_of_pos _ (by decide)⟩
  have c2 := hT hS2
  have hE : [cc (fun j => cc h S j % 256) Mf 0 % 256, cc (fun j => cc h S j % 256) Mf 1 % 256, cc (fun j => cc h S j % 256) Mf 2 % 256, cc (fun j => cc h S j % 256) Mf 3 % 256, cc (fun j => cc h S j % 256) Mf 4 % 256, cc (fun j => cc h S j % 256) Mf 5 % 256, cc (fun j => cc h S j % 256) Mf 6 % 256, cc (fun j => cc h S j % 256) Mf 7 % 256, cc (fun j => cc h S j % 256) Mf 8 % 256, cc (fun j => cc h S j % 256) Mf 9 % 256, cc (fun j => cc h S j % 256) Mf 10 % 256, cc (fun j => cc h S j % 256) Mf 11 % 256, cc (fun j => cc h S j % 256) Mf 12 % 256, cc (fun j => cc h S j % 256) Mf 13 % 256, cc (fun j => cc h S j % 256) Mf 14 % 256, cc (fun j => cc h S j % 256) Mf 15 % 256] = [cc h (fun j => cc S Mf j % 256) 0 % 256, cc h (fun j => cc S Mf j % 256) 1 % 256, cc h (fun j => cc S Mf j % 256) 2 % 256, cc h (fun j => cc S Mf j % 256) 3 % 256, cc h (fun j => cc S Mf j % 256) 4 % 256, cc h (fun j => cc S Mf j % 256) 5 % 256, cc h (fun j => cc S Mf j % 256) 6 % 256, cc h (fun j => cc S Mf j % 256) 7 % 256, cc h (fun j => cc S Mf j % 256) 8 % 256, cc h (fun j => cc S Mf j % 256) 9 % 256, cc h (fun j => cc S Mf j % 256) 10 % 256, cc h (fun j => cc S Mf j % 256) 11 % 256, cc h (fun j => cc S Mf j % 256) 12 % 256, cc h (fun j => cc S Mf j % 256) 13 % 256, cc h (fun j => cc S Mf j % 256) 14 % 256, cc h (fun j => cc S Mf j % 256) 15 % 256] := list_congr (f := fun i => cc (fun j => cc h S j % 256) Mf i % 256) (g := fun i => cc h (fun j => cc S Mf j % 256) i % 256) (fun i _ => (cc_comm h S Mf i).1)
  exact run5 k0 k1 k2 k3 k4 k5 k6 k7 k8 k9 k10 k11 k12 k13 k14 k15 (S 0) (S 1) (S 2) (S 3) (S 4) (S 5) (S 6) (S 7) (S 8) (S 9) (S 10) (S 11) (S 12) (S 13) (S 14) (S 15) l o n (Mf 0) (Mf 1) (Mf 2) (Mf 3) (Mf 4) (Mf 5) (Mf 6) (Mf 7) (Mf 8) (Mf 9) (Mf 10) (Mf 11) (Mf 12) (Mf 13) (Mf 14) (Mf 15) (cc h S 0 % 256) (cc h S 1 % 256) (cc h S 2 % 256) (cc h S 3 % 256) (cc h S 4 % 256) (cc h S 5 % 256) (cc h S 6 % 256) (cc h S 7 % 256) (cc h S 8 % 256) (cc h S 9 % 256) (cc h S 10 % 256) (cc h S 11 % 256) (cc h S 12 % 256) (cc h S 13 % 256) (cc h S 14 % 256) (cc h S 15 % 256) (S 0) (S 0) (Mf 0) (cc S Mf 0) (cc S Mf 0 % 256) (cc S Mf 0 / 256) (S 1) (cc S Mf 0 / 256 + (S 1)) (Mf 1) (cc S Mf 1) (cc S Mf 1 % 256) (cc S Mf 1 / 256) (S 2) (cc S Mf 1 / 256 + (S 2)) (Mf 2) (cc S Mf 2) (cc S Mf 2 % 256) (cc S Mf 2 / 256) (S 3) (cc S Mf 2 / 256 + (S 3)) (Mf 3) (cc S Mf 3) (cc S Mf 3 % 256) (cc S Mf 3 / 256) (S 4) (cc S Mf 3 / 256 + (S 4)) (Mf 4) (cc S Mf 4) (cc S Mf 4 % 256) (cc S Mf 4 / 256) (S 5) (cc S Mf 4 / 256 + (S 5)) (Mf 5) (cc S Mf 5) (cc S Mf 5 % 256) (cc S Mf 5 / 256) (S 6) (cc S Mf 5 / 256 + (S 6)) (Mf 6) (cc S Mf 6) (cc S Mf 6 % 256) (cc S Mf 6 / 256) (S 7) (cc S Mf 6 / 256 + (S 7)) (Mf 7) (cc S Mf 7) (cc S Mf 7 % 256) (cc S Mf 7 / 256) (S 8) (cc S Mf 7 / 256 + (S 8)) (Mf 8) (cc S Mf 8) (cc S Mf 8 % 256) (cc S Mf 8 / 256) (S 9) (cc S Mf 8 / 256 + (S 9)) (Mf 9) (cc S Mf 9) (cc S Mf 9 % 256) (cc S Mf 9 / 256) (S 10) (cc S Mf 9 / 256 + (S 10)) (Mf 10) (cc S Mf 10) (cc S Mf 10 % 256) (cc S Mf 10 / 256) (S 11) (cc S Mf 10 / 256 + (S 11)) (Mf 11) (cc S Mf 11) (cc S Mf 11 % 256) (cc S Mf 11 / 256) (S 12) (cc S Mf 11 / 256 + (S 12)) (Mf 12) (cc S Mf 12) (cc S Mf 12 % 256) (cc S Mf 12 / 256) (S 13) (cc S Mf 12 / 256 + (S 13)) (Mf 13) (cc S Mf 13) (cc S Mf 13 % 256) (cc S Mf 13 / 256) (S 14) (cc S Mf 13 / 256 + (S 14)) (Mf 14) (cc S Mf 14) (cc S Mf 14 % 256) (cc S Mf 14 / 256) (S 15) (cc S Mf 14 / 256 + (S 15)) (Mf 15) (cc S Mf 15) (cc S Mf 15 % 256) (cc S Mf 15 / 256) (cc h (fun j => cc S Mf j % 256) 0 % 256) (cc h (fun j => cc S Mf j % 256) 1 % 256) (cc h (fun j => cc S Mf j % 256) 2 % 256) (cc h (fun j => cc S Mf j % 256) 3 % 256) (cc h (fun j => cc S Mf j % 256) 4 % 256) (cc h (fun j => cc S Mf j % 256) 5 % 256) (cc h (fun j => cc S Mf j % 256) 6 % 256) (cc h (fun j => cc S Mf j % 256) 7 % 256) (cc h (fun j => cc S Mf j % 256) 8 % 256) (cc h (fun j => cc S Mf j % 256) 9 % 256) (cc h (fun j => cc S Mf j % 256) 10 % 256) (cc h (fun j => cc S Mf j % 256) 11 % 256) (cc h (fun j => cc S Mf j % 256) 12 % 256) (cc h (fun j => cc S Mf j % 256) 13 % 256) (cc h (fun j => cc S Mf j % 256) 14 % 256) (cc h (fun j => cc S Mf j % 256) 15 % 256) (cc h S 0 % 256) (cc h S 0 % 256) (Mf 0) (cc (fun j => cc h S j % 256) Mf 0) (cc (fun j => cc h S j % 256) Mf 0 % 256) (cc (fun j => cc h S j % 256) Mf 0 / 256) (cc h S 1 % 256) (cc (fun j => cc h S j % 256) Mf 0 / 256 + (cc h S 1 % 256)) (Mf 1) (cc (fun j => cc h S j % 256) Mf 1) (cc (fun j => cc h S j % 256) Mf 1 % 256) (cc (fun j => cc h S j % 256) Mf 1 / 256) (cc h S 2 % 256) (cc (fun j => cc h S j % 256) Mf 1 / 256 + (cc h S 2 % 256)) (Mf 2) (cc (fun j => cc h S j % 256) Mf 2) (cc (fun j => cc h S j % 256) Mf 2 % 256) (cc (fun j => cc h S j % 256) Mf 2 / 256) (cc h S 3 % 256) (cc (fun j => cc h S j % 256) Mf 2 / 256 + (cc h S 3 % 256)) (Mf 3) (cc (fun j => cc h S j % 256) Mf 3) (cc (fun j => cc h S j % 256) Mf 3 % 256) (cc (fun j => cc h S j % 256) Mf 3 / 256) (cc h S 4 % 256) (cc (fun j => cc h S j % 256) Mf 3 / 256 + (cc h S 4 % 256)) (Mf 4) (cc (fun j => cc h S j % 256) Mf 4) (cc (fun j => cc h S j % 256) Mf 4 % 256) (cc (fun j => cc h S j % 256) Mf 4 / 256) (cc h S 5 % 256) (cc (fun j => cc h S j % 256) Mf 4 / 256 + (cc h S 5 % 256)) (Mf 5) (cc (fun j => cc h S j % 256) Mf 5) (cc (fun j => cc h S j % 256) Mf 5 % 256) (cc (fun j => cc h S j % 256) Mf 5 / 256) (cc h S 6 % 256) (cc (fun j => cc h S j % 256) Mf 5 / 256 + (cc h S 6 % 256)) (Mf 6) (cc (fun j => cc h S j % 256) Mf 6) (cc (fun j => cc h S j % 256) Mf 6 % 256) (cc (fun j => cc h S j % 256) Mf 6 / 256) (cc h S 7 % 256) (cc (fun j => cc h S j % 256) Mf 6 / 256 + (cc h S 7 % 256)) (Mf 7) (cc (fun j => cc h S j % 256) Mf 7) (cc (fun j => cc h S j % 256) Mf 7 % 256) (cc (fun j => cc h S j % 256) Mf 7 / 256) (cc h S 8 % 256) (cc (fun j => cc h S j % 256) Mf 7 / 256 + (cc h S 8 % 256)) (Mf 8) (cc (fun j => cc h S j % 256) Mf 8) (cc (fun j => cc h S j % 256) Mf 8 % 256) (cc (fun j => cc h S j % 256) Mf 8 / 256) (cc h S 9 % 256) (cc (fun j => cc h S j % 256) Mf 8 / 256 + (cc h S 9 % 256)) (Mf 9) (cc (fun j => cc h S j % 256) Mf 9) (cc (fun j => cc h S j % 256) Mf 9 % 256) (cc (fun j => cc h S j % 256) Mf 9 / 256) (cc h S 10 % 256) (cc (fun j => cc h S j % 256) Mf 9 / 256 + (cc h S 10 % 256)) (Mf 10) (cc (fun j => cc h S j % 256) Mf 10) (cc (fun j => cc h S j % 256) Mf 10 % 256) (cc (fun j => cc h S j % 256) Mf 10 / 256) (cc h S 11 % 256) (cc (fun j => cc h S j % 256) Mf 10 / 256 + (cc h S 11 % 256)) (Mf 11) (cc (fun j => cc h S j % 256) Mf 11) (cc (fun j => cc h S j % 256) Mf 11 % 256) (cc (fun j => cc h S j % 256) Mf 11 / 256) (cc h S 12 % 256) (cc (fun j => cc h S j % 256) Mf 11 / 256 + (cc h S 12 % 256)) (Mf 12) (cc (fun j => cc h S j % 256) Mf 12) (cc (fun j => cc h S j % 256) Mf 12 % 256) (cc (fun j => cc h S j % 256) Mf 12 / 256) (cc h S 13 % 256) (cc (fun j => cc h S j % 256) Mf 12 / 256 + (cc h S 13 % 256)) (Mf 13) (cc (fun j => cc h S j % 256) Mf 13) (cc (fun j => cc h S j % 256) Mf 13 % 256) (cc (fun j => cc h S j % 256) Mf 13 / 256) (cc h S 14 % 256) (cc (fun j => cc h S j % 256) Mf 13 / 256 + (cc h S 14 % 256)) (Mf 14) (cc (fun j => cc h S j % 256) Mf 14) (cc (fun j => cc h S j % 256) Mf 14 % 256) (cc (fun j => cc h S j % 256) Mf 14 / 256) (cc h S 15 % 256) (cc (fun j => cc h S j % 256) Mf 14 / 256 + (cc h S 15 % 256)) (Mf 15) (cc (fun j => cc h S j % 256) Mf 15) (cc (fun j => cc h S j % 256) Mf 15 % 256) (cc (fun j => cc h S j % 256) Mf 15 / 256) true c1 (w1 (hS 0)) (w2 (hS 0)) (w1 (hM 0)) (wA (hS 0) (hM 0)) rfl (wF (cb1 0)) (w1 (hS 1)) (wD (cb1 0) (hS 1)) (w1 (hM 1)) (wE (cb1 0) (hS 1) (hM 1)) rfl (wF (cb1 1)) (w1 (hS 2)) (wD (cb1 1) (hS 2)) (w1 (hM 2)) (wE (cb1 1) (hS 2) (hM 2)) rfl (wF (cb1 2)) (w1 (hS 3)) (wD (cb1 2) (hS 3)) (w1 (hM 3)) (wE (cb1 2) (hS 3) (hM 3)) rfl (wF (cb1 3)) (w1 (hS 4)) (wD (cb1 3) (hS 4)) (w1 (hM 4)) (wE (cb1 3) (hS 4) (hM 4)) rfl (wF (cb1 4)) (w1 (hS 5)) (wD (cb1 4) (hS 5)) (w1 (hM 5)) (wE (cb1 4) (hS 5) (hM 5)) rfl (wF (cb1 5)) (w1 (hS 6)) (wD (cb1 5) (hS 6)) (w1 (hM 6)) (wE (cb1 5) (hS 6) (hM 6)) rfl (wF (cb1 6)) (w1 (hS 7)) (wD (cb1 6) (hS 7)) (w1 (hM 7)) (wE (cb1 6) (hS 7) (hM 7)) rfl (wF (cb1 7)) (w1 (hS 8)) (wD (cb1 7) (hS 8)) (w1 (hM 8)) (wE (cb1 7) (hS 8) (hM 8)) rfl (wF (cb1 8)) (w1 (hS 9)) (wD (cb1 8) (hS 9)) (w1 (hM 9)) (wE (cb1 8) (hS 9) (hM 9)) rfl (wF (cb1 9)) (w1 (hS 10)) (wD (cb1 9) (hS 10)) (w1 (hM 10)) (wE (cb1 9) (hS 10) (hM 10)) rfl (wF (cb1 10)) (w1 (hS 11)) (wD (cb1 10) (hS 11)) (w1 (hM 11)) (wE (cb1 10) (hS 11) (hM 11)) rfl (wF (cb1 11)) (w1 (hS 12)) (wD (cb1 11) (hS 12)) (w1 (hM 12)) (wE (cb1 11) (hS 12) (hM 12)) rfl (wF (cb1 12)) (w1 (hS 13)) (wD (cb1 12) (hS 13)) (w1 (hM 13)) (wE (cb1 12) (hS 13) (hM 13)) rfl (wF (cb1 13)) (w1 (hS 14)) (wD (cb1 13) (hS 14)) (w1 (hM 14)) (wE (cb1 13) (hS 14) (hM 14)) rfl (wF (cb1 14)) (w1 (hS 15)) (wD (cb1 14) (hS 15)) (w1 (hM 15)) (wE (cb1 14) (hS 15) (hM 15)) rfl (wF (cb1 15)) c2 (w1 (hA 0)) (w2 (hA 0)) (w1 (hM 0)) (wA (hA 0) (hM 0)) rfl (wF (cb2 0)) (w1 (hA 1)) (wD (cb2 0) (hA 1)) (w1 (hM 1)) (wE (cb2 0) (hA 1) (hM 1)) rfl (wF (cb2 1)) (w1 (hA 2)) (wD (cb2 1) (hA 2)) (w1 (hM 2)) (wE (cb2 1) (hA 2) (hM 2)) rfl (wF (cb2 2)) (w1 (hA 3)) (wD (cb2 2) (hA 3)) (w1 (hM 3)) (wE (cb2 2) (hA 3) (hM 3)) rfl (wF (cb2 3)) (w1 (hA 4)) (wD (cb2 3) (hA 4)) (w1 (hM 4)) (wE (cb2 3) (hA 4) (hM 4)) rfl (wF (cb2 4)) (w1 (hA 5)) (wD (cb2 4) (hA 5)) (w1 (hM 5)) (wE (cb2 4) (hA 5) (hM 5)) rfl (wF (cb2 5)) (w1 (hA 6)) (wD (cb2 5) (hA 6)) (w1 (hM 6)) (wE (cb2 5) (hA 6) (hM 6)) rfl (wF (cb2 6)) (w1 (hA 7)) (wD (cb2 6) (hA 7)) (w1 (hM 7)) (wE (cb2 6) (hA 7) (hM 7)) rfl (wF (cb2 7)) (w1 (hA 8)) (wD (cb2 7) (hA 8)) (w1 (hM 8)) (wE (cb2 7) (hA 8) (hM 8)) rfl (wF (cb2 8)) (w1 (hA 9)) (wD (cb2 8) (hA 9)) (w1 (hM 9)) (wE (cb2 8) (hA 9) (hM 9)) rfl (wF (cb2 9)) (w1 (hA 10)) (wD (cb2 9) (hA 10)) (w1 (hM 10)) (wE (cb2 9) (hA 10) (hM 10)) rfl (wF (cb2 10)) (w1 (hA 11)) (wD (cb2 10) (hA 11)) (w1 (hM 11)) (wE (cb2 10) (hA 11) (hM 11)) rfl (wF (cb2 11)) (w1 (hA 12)) (wD (cb2 11) (hA 12)) (w1 (hM 12)) (wE (cb2 11) (hA 12) (hM 12)) rfl (wF (cb2 12)) (w1 (hA 13)) (wD (cb2 12) (hA 13)) (w1 (hM 13)) (wE (cb2 12) (hA 13) (hM 13)) rfl (wF (cb2 13)) (w1 (hA 14)) (wD (cb2 13) (hA 14)) (w1 (hM 14)) (wE (cb2 13) (hA 14) (hM 14)) rfl (wF (cb2 14)) (w1 (hA 15)) (wD (cb2 14) (hA 15)) (w1 (hM 15)) (wE (cb2 14) (hA 15) (hM 15)) rfl (wF (cb2 15)) run19_ok (eqv_of ((spl16 _ _ _ _ _ _ _ _ _ _ _ _ _ _ _ _ _ _ _ _ _ _ _ _ _ _ _ _ _ _ _ _).trans (hE.trans (spl16r _ _ _ _ _ _ _ _ _ _ _ _ _ _ _ _).symm)))
theorem polyShifts_ok {k m : List Int} (hk : k.length = 32) (hkb : ∀ x ∈ k, 0 ≤ x ∧ x < 256) (hm : m.length = 16) (hmb : ∀ x ∈ m, 0 ≤ x ∧ x < 256) (l : List Int) {o n : Nat} (hl : o + n ≤ l.length) :
    Contract0 Try.prog 5 [(.aggi .u8 k), (.c (.sl 1 0 o n 1)), (.aggi .u8 m)] [(1, .one ⟨false, false, .ints .u8 l⟩)] 2 (.c (.bool true)) [] [] := by
  have hS : Bt fun i => k.getD (16 + i) 0 := fun i => bt_list hkb (16 + i)
  have run := polyShifts_fun (k.getD 0 0) (k.getD 1 0) (k.getD 2 0) (k.getD 3 0) (k.getD 4 0) (k.getD 5 0) (k.getD 6 0) (k.getD 7 0) (k.getD 8 0) (k.getD 9 0) (k.getD 10 0) (k.getD 11 0) (k.getD 12 0) (k.getD 13 0) (k.getD 14 0) (k.getD 15 0) (fun i => k.getD (16 + i) 0) (fun i => m.getD i 0) hS (bt_list hmb) l hl
  have ek : k = [k.getD 0 0, k.getD 1 0, k.getD 2 0, k.getD 3 0, k.getD 4 0, k.getD 5 0, k.getD 6 0, k.getD 7 0, k.getD 8 0, k.getD 9 0, k.getD 10 0, k.getD 11 0, k.getD 12 0, k.getD 13 0, k.getD 14 0, k.getD 15 0, k.getD 16 0, k.getD 17 0, k.getD 18 0, k.getD 19 0, k.getD 20 0, k.getD 21 0, k.getD 22 0, k.getD 23 0, k.getD 24 0, k.getD 25 0, k.getD 26 0, k.getD 27 0, k.getD 28 0, k.getD 29 0, k.getD 30 0, k.getD 31 0] := row_getD k 32 hk
  rw [ek, row16 hm]
  exact run
end Go.Proofs.Ytokhfkjkeebfpaa.Vm
