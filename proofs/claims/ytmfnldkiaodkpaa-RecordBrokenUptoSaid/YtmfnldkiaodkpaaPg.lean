/- What functions of the program come to: parts of the walk (Pg). -/
import Derived.Test.YtmfnldkiaodkpaaPw
import Derived.KernelRfl
import Derived.Test.YtmfnldkiaodkpaaProg
import Derived.Test.YtmfnldkiaodkpaaPe
set_option linter.unusedSimpArgs false
set_option linter.unusedVariables false
namespace Go.Proofs.Ytmfnldkiaodkpaa.Vm
open Go Go.Proofs Go.Proofs.Ytmfnldkiaodkpaa
set_option maxRecDepth 100000
theorem run64 (a0 a1 a2 a3 a4 x1 x3 x5 x7 x9 x11 x13 x15 x17 x19 x21 x23 x25 x27 x29 x31 x33 x35 x37 x39 : Int)
    (h0 : ((a0 + 0) % 18446744073709551616) = x1)
    (h2 : (x1 / 67108864) = x3)
    (h4 : (bAnd IntKind.u64 x1 67108863) = x5)
    (h6 : ((a1 + x3) % 18446744073709551616) = x7)
    (h8 : (x7 / 67108864) = x9)
    (h10 : (bAnd IntKind.u64 x7 67108863) = x11)
    (h12 : ((a2 + x9) % 18446744073709551616) = x13)
    (h14 : (x13 / 67108864) = x15)
    (h16 : (bAnd IntKind.u64 x13 67108863) = x17)
    (h18 : ((a3 + x15) % 18446744073709551616) = x19)
    (h20 : (x19 / 67108864) = x21)
    (h22 : (bAnd IntKind.u64 x19 67108863) = x23)
    (h24 : ((a4 + x21) % 18446744073709551616) = x25)
    (h26 : (x25 / 67108864) = x27)
    (h28 : (bAnd IntKind.u64 x25 67108863) = x29)
    (h30 : (5 * x27 % 18446744073709551616) = x31)
    (h32 : ((x5 + x31) % 18446744073709551616) = x33)
    (h34 : (x33 / 67108864) = x35)
    (h36 : ((x11 + x35) % 18446744073709551616) = x37)
    (h38 : (bAnd IntKind.u64 x33 67108863) = x39)   :
    PureF Try.prog 84 [(.aggi .u64 [a0, a1, a2, a3, a4])] (.aggi .u64 [x39, x37, x17, x23, x29]) :=
  Contract0.of_frun (fn := Try.f84) (c := bodyOf Try.f84) (fuel := 300) (k := kOf Try.prog Try.f84) (outs := []) (hs := [(12, ⟨.auto, some (.c (.int .u64 x1))⟩), (18, ⟨.auto, some (.c (.int .u64 x3))⟩), (23, ⟨.auto, some (.c (.int .u64 x5))⟩), (36, ⟨.auto, some (.c (.int .u64 x7))⟩), (42, ⟨.auto, some (.c (.int .u64 x9))⟩), (47, ⟨.auto, some (.c (.int .u64 x11))⟩), (60, ⟨.auto, some (.c (.int .u64 x13))⟩), (66, ⟨.auto, some (.c (.int .u64 x15))⟩), (71, ⟨.auto, some (.c (.int .u64 x17))⟩), (84, ⟨.auto, some (.c (.int .u64 x19))⟩), (90, ⟨.auto, some (.c (.int .u64 x21))⟩), (95, ⟨.auto, some (.c (.int .u64 x23))⟩), (108, ⟨.auto, some (.c (.int .u64 x25))⟩), (114, ⟨.auto, some (.c (.int .u64 x27))⟩), (119, ⟨.auto, some (.c (.int .u64 x29))⟩), (129, ⟨.auto, some (.c (.int .u64 x31))⟩), (130, ⟨.auto, some (.c (.int .u64 x33))⟩), (137, ⟨.auto, some (.c (.int .u64 x35))⟩), (138, ⟨.auto, some (.c (.int .u64 x37))⟩), (143, ⟨.auto, some (.c (.int .u64 x39))⟩)])
    (cs := [EI .u64 (bAnd IntKind.u64 x33 67108863) x39,
      EI .u64 ((x11 + x35) % 18446744073709551616) x37,
      EI .u64 (x33 / 67108864) x35,
      EI .u64 ((x5 + x31) % 18446744073709551616) x33,
      EI .u64 (5 * x27 % 18446744073709551616) x31,
      EI .u64 (bAnd IntKind.u64 x25 67108863) x29,
      EI .u64 (x25 / 67108864) x27,
      EI .u64 ((a4 + x21) % 18446744073709551616) x25,
      EI .u64 (bAnd IntKind.u64 x19 67108863) x23,
      EI .u64 (x19 / 67108864) x21,
      EI .u64 ((a3 + x15) % 18446744073709551616) x19,
      EI .u64 (bAnd IntKind.u64 x13 67108863) x17,
      EI .u64 (x13 / 67108864) x15,
      EI .u64 ((a2 + x9) % 18446744073709551616) x13,
      EI .u64 (bAnd IntKind.u64 x7 67108863) x11,
      EI .u64 (x7 / 67108864) x9,
      EI .u64 ((a1 + x3) % 18446744073709551616) x7,
      EI .u64 (bAnd IntKind.u64 x1 67108863) x5,
      EI .u64 (x1 / 67108864) x3,
      EI .u64 ((a0 + 0) % 18446744073709551616) x1])
    mixed Try.func84 (by kernel_rfl) (by kernel_rfl) (by kernel_rfl) rfl (by kernel_rfl) ⟨.mk h38, .mk h36, .mk h34, .mk h32, .mk h30, .mk h28, .mk h26, .mk h24, .mk h22, .mk h20, .mk h18, .mk h16, .mk h14, .mk h12, .mk h10, .mk h8, .mk h6, .mk h4, .mk h2, .mk h0, trivial⟩

end Go.Proofs.Ytmfnldkiaodkpaa.Vm

namespace Go.Proofs.Ytmfnldkiaodkpaa.Vm
open Go Go.Proofs Go.Proofs.Ytmfnldkiaodkpaa
theorem carry_any (a0 a1 a2 a3 a4 : Int) : ∃ e : W.El, PureF Try.prog 84 [(.aggi .u64 [a0, a1, a2, a3, a4])] (.aggi .u64 (W.el e)) := by
  obtain ⟨x1, h0⟩ : ∃ z : Int, (a0 + 0) % 18446744073709551616 = z := ⟨_, rfl⟩
  obtain ⟨x3, h2⟩ : ∃ z : Int, x1 / 67108864 = z := ⟨_, rfl⟩
  obtain ⟨x5, h4⟩ : ∃ z : Int, bAnd IntKind.u64 x1 67108863 = z := ⟨_, rfl⟩
  obtain ⟨x7, h6⟩ : ∃ z : Int, (a1 + x3) % 18446744073709551616 = z := ⟨_, rfl⟩
  obtain ⟨x9, h8⟩ : ∃ z : Int, x7 / 67108864 = z := ⟨_, rfl⟩
  obtain ⟨x11, h10⟩ : ∃ z : Int, bAnd IntKind.u64 x7 67108863 = z := ⟨_, rfl⟩
  obtain ⟨x13, h12⟩ : ∃ z : Int, (a2 + x9) % 18446744073709551616 = z := ⟨_, rfl⟩
  obtain ⟨x15, h14⟩ : ∃ z : Int, x13 / 67108864 = z := ⟨_, rfl⟩
  obtain ⟨x17, h16⟩ : ∃ z : Int, bAnd IntKind.u64 x13 67108863 = z := ⟨_, rfl⟩
  obtain ⟨x19, h18⟩ : ∃ z : Int, (a3 + x15) % 18446744073709551616 = z := ⟨_, rfl⟩
  obtain ⟨x21, h20⟩ : ∃ z : Int, x19 / 67108864 = z := ⟨_, rfl⟩
  obtain ⟨x23, h22⟩ : ∃ z : Int, bAnd IntKind.u64 x19 67108863 = z := ⟨_, rfl⟩
  obtain ⟨x25, h24⟩ : ∃ z : Int, (a4 + x21) % 18446744073709551616 = z := ⟨_, rfl⟩
  obtain ⟨x27, h26⟩ : ∃ z : Int, x25 / 67108864 = z := ⟨_, rfl⟩
  obtain ⟨x29, h28⟩ : ∃ z : Int, bAnd IntKind.u64 x25 67108863 = z := ⟨_, rfl⟩
  obtain ⟨x31, h30⟩ : ∃ z : Int, 5 * x27 % 18446744073709551616 = z := ⟨_, rfl⟩
  obtain ⟨x33, h32⟩ : ∃ z : Int, (x5 + x31) % 18446744073709551616 = z := ⟨_, rfl⟩
  obtain ⟨x35, h34⟩ : ∃ z : Int, x33 / 67108864 = z := ⟨_, rfl⟩
  obtain ⟨x37, h36⟩ : ∃ z : Int, (x11 + x35) % 18446744073709551616 = z := ⟨_, rfl⟩
  obtain ⟨x39, h38⟩ : ∃ z : Int, bAnd IntKind.u64 x33 67108863 = z := ⟨_, rfl⟩
  have run := run64 a0 a1 a2 a3 a4 x1 x3 x5 x7 x9 x11 x13 x15 x17 x19 x21 x23 x25 x27 x29 x31 x33 x35 x37 x39 h0 h2 h4 h6 h8 h10 h12 h14 h16 h18 h20 h22 h24 h26 h28 h30 h32 h34 h36 h38
  exact ⟨⟨_, _, _, _, _⟩, run⟩
theorem times_any (a b : W.El) : ∃ e : W.El, PureF Try.prog 60 [(.aggi .u64 (W.el a)), (.aggi .u64 (W.el b))] (.aggi .u64 (W.el e)) := by
  obtain ⟨x1, h0⟩ : ∃ z : Int, List.getD (List.take 5 (List.drop 0 (W.el a))) 0 0 = z := ⟨_, rfl⟩
  obtain ⟨x3, h2⟩ : ∃ z : Int, List.getD (List.take 5 (List.drop 0 (W.el b))) 0 0 = z := ⟨_, rfl⟩
  obtain ⟨x5, h4⟩ : ∃ z : Int, x1 * x3 % 18446744073709551616 = z := ⟨_, rfl⟩
  obtain ⟨x7, h6⟩ : ∃ z : Int, (0 + x5) % 18446744073709551616 = z := ⟨_, rfl⟩
  obtain ⟨x9, h8⟩ : ∃ z : Int, List.getD (List.take 5 (List.drop 0 (W.el b))) 1 0 = z := ⟨_, rfl⟩
  obtain ⟨x11, h10⟩ : ∃ z : Int, List.getD (splice [0, 0, 0, 0, 0] 0 [x7]) 1 0 = z := ⟨_, rfl⟩
  obtain ⟨x13, h12⟩ : ∃ z : Int, x1 * x9 % 18446744073709551616 = z := ⟨_, rfl⟩
  obtain ⟨x15, h14⟩ : ∃ z : Int, (x11 + x13) % 18446744073709551616 = z := ⟨_, rfl⟩
  obtain ⟨x17, h16⟩ : ∃ z : Int, List.getD (List.take 5 (List.drop 0 (W.el b))) 2 0 = z := ⟨_, rfl⟩
  obtain ⟨x19, h18⟩ : ∃ z : Int, List.getD (splice (splice [0, 0, 0, 0, 0] 0 [x7]) 1 [x15]) 2 0 = z := ⟨_, rfl⟩
  obtain ⟨x21, h20⟩ : ∃ z : Int, x1 * x17 % 18446744073709551616 = z := ⟨_, rfl⟩
  obtain ⟨x23, h22⟩ : ∃ z : Int, (x19 + x21) % 18446744073709551616 = z := ⟨_, rfl⟩
  obtain ⟨x25, h24⟩ : ∃ z : Int, List.getD (List.take 5 (List.drop 0 (W.el b))) 3 0 = z := ⟨_, rfl⟩
  obtain ⟨x27, h26⟩ : ∃ z : Int, List.getD (splice (splice (splice [0, 0, 0, 0, 0] 0 [x7]) 1 [x15]) 2 [x23]) 3 0 = z := ⟨_, rfl⟩
  obtain ⟨x29, h28⟩ : ∃ z : Int, x1 * x25 % 18446744073709551616 = z := ⟨_, rfl⟩
  obtain ⟨x31, h30⟩ : ∃ z : Int, (x27 + x29) % 18446744073709551616 = z := ⟨_, rfl⟩
  obtain ⟨x33, h32⟩ : ∃ z : Int, List.getD (List.take 5 (List.drop 0 (W.el b))) 4 0 = z := ⟨_, rfl⟩
  obtain ⟨x35, h34⟩ : ∃ z : Int, List.getD (splice (splice (splice (splice [0, 0, 0, 0, 0] 0 [x7]) 1 [x15]) 2 [x23]) 3 [x31]) 4 0 = z := ⟨_, rfl⟩
  obtain ⟨x37, h36⟩ : ∃ z : Int, x1 * x33 % 18446744073709551616 = z := ⟨_, rfl⟩
  obtain ⟨x39, h38⟩ : ∃ z : Int, (x35 + x37) % 18446744073709551616 = z := ⟨_, rfl⟩
  obtain ⟨x41, h40⟩ : ∃ z : Int, List.getD (List.take 5 (List.drop 0 (W.el a))) 1 0 = z := ⟨_, rfl⟩
  obtain ⟨x43, h42⟩ : ∃ z : Int, List.getD (List.take 5 (List.drop 0 (W.el b))) 0 0 = z := ⟨_, rfl⟩
  obtain ⟨x45, h44⟩ : ∃ z : Int, x41 * x43 % 18446744073709551616 = z := ⟨_, rfl⟩
  obtain ⟨x47, h46⟩ : ∃ z : Int, (x15 + x45) % 18446744073709551616 = z := ⟨_, rfl⟩
  obtain ⟨x49, h48⟩ : ∃ z : Int, List.getD (List.take 5 (List.drop 0 (W.el b))) 1 0 = z := ⟨_, rfl⟩
  obtain ⟨x51, h50⟩ : ∃ z : Int, x41 * x49 % 18446744073709551616 = z := ⟨_, rfl⟩
  obtain ⟨x53, h52⟩ : ∃ z : Int, (x23 + x51) % 18446744073709551616 = z := ⟨_, rfl⟩
  obtain ⟨x55, h54⟩ : ∃ z : Int, List.getD (List.take 5 (List.drop 0 (W.el b))) 2 0 = z := ⟨_, rfl⟩
  obtain ⟨x57, h56⟩ : ∃ z : Int, x41 * x55 % 18446744073709551616 = z := ⟨_, rfl⟩
  obtain ⟨x59, h58⟩ : ∃ z : Int, (x31 + x57) % 18446744073709551616 = z := ⟨_, rfl⟩
  obtain ⟨x61, h60⟩ : ∃ z : Int, List.getD (List.take 5 (List.drop 0 (W.el b))) 3 0 = z := ⟨_, rfl⟩
  obtain ⟨x63, h62⟩ : ∃ z : Int, x41 * x61 % 18446744073709551616 = z := ⟨_, rfl⟩
  obtain ⟨x65, h64⟩ : ∃ z : Int, (x39 + x63) % 18446744073709551616 = z := ⟨_, rfl⟩
  obtain ⟨x67, h66⟩ : ∃ z : Int, List.getD (List.take 5 (List.drop 0 (W.el b))) 4 0 = z := ⟨_, rfl⟩
  obtain ⟨x69, h68⟩ : ∃ z : Int, 5 * x41 % 18446744073709551616 = z := ⟨_, rfl⟩
  obtain ⟨x71, h70⟩ : ∃ z : Int, x69 * x67 % 18446744073709551616 = z := ⟨_, rfl⟩
  obtain ⟨x73, h72⟩ : ∃ z : Int, (x7 + x71) % 18446744073709551616 = z := ⟨_, rfl⟩
  obtain ⟨x75, h74⟩ : ∃ z : Int, List.getD (List.take 5 (List.drop 0 (W.el a))) 2 0 = z := ⟨_, rfl⟩
  obtain ⟨x77, h76⟩ : ∃ z : Int, List.getD (List.take 5 (List.drop 0 (W.el b))) 0 0 = z := ⟨_, rfl⟩
  obtain ⟨x79, h78⟩ : ∃ z : Int, x75 * x77 % 18446744073709551616 = z := ⟨_, rfl⟩
  obtain ⟨x81, h80⟩ : ∃ z : Int, (x53 + x79) % 18446744073709551616 = z := ⟨_, rfl⟩
  obtain ⟨x83, h82⟩ : ∃ z : Int, List.getD (List.take 5 (List.drop 0 (W.el b))) 1 0 = z := ⟨_, rfl⟩
  obtain ⟨x85, h84⟩ : ∃ z : Int, x75 * x83 % 18446744073709551616 = z := ⟨_, rfl⟩
  obtain ⟨x87, h86⟩ : ∃ z : Int, (x59 + x85) % 18446744073709551616 = z := ⟨_, rfl⟩
  obtain ⟨x89, h88⟩ : ∃ z : Int, List.getD (List.take 5 (List.drop 0 (W.el b))) 2 0 = z := ⟨_, rfl⟩
  obtain ⟨x91, h90⟩ : ∃ z : Int, x75 * x89 % 18446744073709551616 = z := ⟨_, rfl⟩
  obtain ⟨x93, h92⟩ : ∃ z : Int, (x65 + x91) % 18446744073709551616 = z := ⟨_, rfl⟩
  obtain ⟨x95, h94⟩ : ∃ z : Int, List.getD (List.take 5 (List.drop 0 (W.el b))) 3 0 = z := ⟨_, rfl⟩
  obtain ⟨x97, h96⟩ : ∃ z : Int, 5 * x75 % 18446744073709551616 = z := ⟨_, rfl⟩
  obtain ⟨x99, h98⟩ : ∃ z : Int, x97 * x95 % 18446744073709551616 = z := ⟨_, rfl⟩
  obtain ⟨x101, h100⟩ : ∃ z : Int, (x73 + x99) % 18446744073709551616 = z := ⟨_, rfl⟩
  obtain ⟨x103, h102⟩ : ∃ z : Int, List.getD (List.take 5 (List.drop 0 (W.el b))) 4 0 = z := ⟨_, rfl⟩
  obtain ⟨x105, h104⟩ : ∃ z : Int, 5 * x75 % 18446744073709551616 = z := ⟨_, rfl⟩
  obtain ⟨x107, h106⟩ : ∃ z : Int, x105 * x103 % 18446744073709551616 = z := ⟨_, rfl⟩
  obtain ⟨x109, h108⟩ : ∃ z : Int, (x47 + x107) % 18446744073709551616 = z := ⟨_, rfl⟩
  obtain ⟨x111, h110⟩ : ∃ z : Int, List.getD (List.take 5 (List.drop 0 (W.el a))) 3 0 = z := ⟨_, rfl⟩
  obtain ⟨x113, h112⟩ : ∃ z : Int, List.getD (List.take 5 (List.drop 0 (W.el b))) 0 0 = z := ⟨_, rfl⟩
  obtain ⟨x115, h114⟩ : ∃ z : Int, x111 * x113 % 18446744073709551616 = z := ⟨_, rfl⟩
  obtain ⟨x117, h116⟩ : ∃ z : Int, (x87 + x115) % 18446744073709551616 = z := ⟨_, rfl⟩
  obtain ⟨x119, h118⟩ : ∃ z : Int, List.getD (List.take 5 (List.drop 0 (W.el b))) 1 0 = z := ⟨_, rfl⟩
  obtain ⟨x121, h120⟩ : ∃ z : Int, x111 * x119 % 18446744073709551616 = z := ⟨_, rfl⟩
  obtain ⟨x123, h122⟩ : ∃ z : Int, (x93 + x121) % 18446744073709551616 = z := ⟨_, rfl⟩
  obtain ⟨x125, h124⟩ : ∃ z : Int, List.getD (List.take 5 (List.drop 0 (W.el b))) 2 0 = z := ⟨_, rfl⟩
  obtain ⟨x127, h126⟩ : ∃ z : Int, 5 * x111 % 18446744073709551616 = z := ⟨_, rfl⟩
  obtain ⟨x129, h128⟩ : ∃ z : Int, x127 * x125 % 18446744073709551616 = z := ⟨_, rfl⟩
  obtain ⟨x131, h130⟩ : ∃ z : Int, (x101 + x129) % 18446744073709551616 = z := ⟨_, rfl⟩
  obtain ⟨x133, h132⟩ : ∃ z : Int, List.getD (List.take 5 (List.drop 0 (W.el b))) 3 0 = z := ⟨_, rfl⟩
  obtain ⟨x135, h134⟩ : ∃ z : Int, 5 * x111 % 18446744073709551616 = z := ⟨_, rfl⟩
  obtain ⟨x137, h136⟩ : ∃ z : Int, x135 * x133 % 18446744073709551616 = z := ⟨_, rfl⟩
  obtain ⟨x139, h138⟩ : ∃ z : Int, (x109 + x137) % 18446744073709551616 = z := ⟨_, rfl⟩
  obtain ⟨x141, h140⟩ : ∃ z : Int, List.getD (List.take 5 (List.drop 0 (W.el b))) 4 0 = z := ⟨_, rfl⟩
  obtain ⟨x143, h142⟩ : ∃ z : Int, 5 * x111 % 18446744073709551616 = z := ⟨_, rfl⟩
  obtain ⟨x145, h144⟩ : ∃ z : Int, x143 * x141 % 18446744073709551616 = z := ⟨_, rfl⟩
  obtain ⟨x147, h146⟩ : ∃ z : Int, (x81 + x145) % 18446744073709551616 = z := ⟨_, rfl⟩
  obtain ⟨x149, h148⟩ : ∃ z : Int, List.getD (List.take 5 (List.drop 0 (W.el a))) 4 0 = z := ⟨_, rfl⟩
  obtain ⟨x151, h150⟩ : ∃ z : Int, List.getD (List.take 5 (List.drop 0 (W.el b))) 0 0 = z := ⟨_, rfl⟩
  obtain ⟨x153, h152⟩ : ∃ z : Int, x149 * x151 % 18446744073709551616 = z := ⟨_, rfl⟩
  obtain ⟨x155, h154⟩ : ∃ z : Int, (x123 + x153) % 18446744073709551616 = z := ⟨_, rfl⟩
  obtain ⟨x157, h156⟩ : ∃ z : Int, List.getD (List.take 5 (List.drop 0 (W.el b))) 1 0 = z := ⟨_, rfl⟩
  obtain ⟨x159, h158⟩ : ∃ z : Int, 5 * x149 % 18446744073709551616 = z := ⟨_, rfl⟩
  obtain ⟨x161, h160⟩ : ∃ z : Int, x159 * x157 % 18446744073709551616 = z := ⟨_, rfl⟩
  obtain ⟨x163, h162⟩ : ∃ z : Int, (x131 + x161) % 18446744073709551616 = z := ⟨_, rfl⟩
  obtain ⟨x165, h164⟩ : ∃ z : Int, List.getD (List.take 5 (List.drop 0 (W.el b))) 2 0 = z := ⟨_, rfl⟩
  obtain ⟨x167, h166⟩ : ∃ z : Int, 5 * x149 % 18446744073709551616 = z := ⟨_, rfl⟩
  obtain ⟨x169, h168⟩ : ∃ z : Int, x167 * x165 % 18446744073709551616 = z := ⟨_, rfl⟩
  obtain ⟨x171, h170⟩ : ∃ z : Int, (x139 + x169) % 18446744073709551616 = z := ⟨_, rfl⟩
  obtain ⟨x173, h172⟩ : ∃ z : Int, List.getD (List.take 5 (List.drop 0 (W.el b))) 3 0 = z := ⟨_, rfl⟩
  obtain ⟨x175, h174⟩ : ∃ z : Int, 5 * x149 % 18446744073709551616 = z := ⟨_, rfl⟩
  obtain ⟨x177, h176⟩ : ∃ z : Int, x175 * x173 % 18446744073709551616 = z := ⟨_, rfl⟩
  obtain ⟨x179, h178⟩ : ∃ z : Int, (x147 + x177) % 18446744073709551616 = z := ⟨_, rfl⟩
  obtain ⟨x181, h180⟩ : ∃ z : Int, List.getD (List.take 5 (List.drop 0 (W.el b))) 4 0 = z := ⟨_, rfl⟩
  obtain ⟨x183, h182⟩ : ∃ z : Int, 5 * x149 % 18446744073709551616 = z := ⟨_, rfl⟩
  obtain ⟨x185, h184⟩ : ∃ z : Int, x183 * x181 % 18446744073709551616 = z := ⟨_, rfl⟩
  obtain ⟨x187, h186⟩ : ∃ z : Int, (x117 + x185) % 18446744073709551616 = z := ⟨_, rfl⟩
  obtain ⟨r64_188e, c189⟩ := carry_any _ _ _ _ _
  have run := run44 a b x1 x3 x5 x7 x9 x11 x13 x15 x17 x19 x21 x23 x25 x27 x29 x31 x33 x35 x37 x39 x41 x43 x45 x47 x49 x51 x53 x55 x57 x59 x61 x63 x65 x67 x69 x71 x73 x75 x77 x79 x81 x83 x85 x87 x89 x91 x93 x95 x97 x99 x101 x103 x105 x107 x109 x111 x113 x115 x117 x119 x121 x123 x125 x127 x129 x131 x133 x135 x137 x139 x141 x143 x145 x147 x149 x151 x153 x155 x157 x159 x161 x163 x165 x167 x169 x171 x173 x175 x177 x179 x181 x183 x185 x187 r64_188e h0 h2 h4 h6 h8 h10 h12 h14 h16 h18 h20 h22 h24 h26 h28 h30 h32 h34 h36 h38 h40 h42 h44 h46 h48 h50 h52 h54 h56 h58 h60 h62 h64 h66 h68 h70 h72 h74 h76 h78 h80 h82 h84 h86 h88 h90 h92 h94 h96 h98 h100 h102 h104 h106 h108 h110 h112 h114 h116 h118 h120 h122 h124 h126 h128 h130 h132 h134 h136 h138 h140 h142 h144 h146 h148 h150 h152 h154 h156 h158 h160 h162 h164 h166 h168 h170 h172 h174 h176 h178 h180 h182 h184 h186 c189
  exact ⟨_, run⟩
theorem least_any (a : W.El) : ∃ e : W.El, PureF Try.prog 61 [(.aggi .u64 (W.el a))] (.aggi .u64 (W.el e)) := by
  obtain ⟨r64_0e, c1⟩ := carry_any _ _ _ _ _
  obtain ⟨r64_2e, c3⟩ := carry_any _ _ _ _ _
  obtain ⟨r64_4e, c5⟩ := carry_any _ _ _ _ _
  obtain ⟨x7, h6⟩ : ∃ z : Int, List.getD (splice [0, 0, 0, 0, 0] 0 (List.take 5 (List.drop 0 (splice (W.el a) 0 (W.el r64_4e))))) 0 0 = z := ⟨_, rfl⟩
  obtain ⟨x9, h8⟩ : ∃ z : Int, (x7 + 5) % 18446744073709551616 = z := ⟨_, rfl⟩
  obtain ⟨x11, h10⟩ : ∃ z : Int, (x9 + 0) % 18446744073709551616 = z := ⟨_, rfl⟩
  obtain ⟨x13, h12⟩ : ∃ z : Int, x11 / 67108864 = z := ⟨_, rfl⟩
  obtain ⟨x15, h14⟩ : ∃ z : Int, bAnd IntKind.u64 x11 67108863 = z := ⟨_, rfl⟩
  obtain ⟨x17, h16⟩ : ∃ z : Int, List.getD (splice (splice (splice (splice [0, 0, 0, 0, 0] 0 (List.take 5 (List.drop 0 (splice (W.el a) 0 (W.el r64_4e))))) 0 [x9]) 0 [x11]) 0 [x15]) 1 0 = z := ⟨_, rfl⟩
  obtain ⟨x19, h18⟩ : ∃ z : Int, (x17 + x13) % 18446744073709551616 = z := ⟨_, rfl⟩
  obtain ⟨x21, h20⟩ : ∃ z : Int, x19 / 67108864 = z := ⟨_, rfl⟩
  obtain ⟨x23, h22⟩ : ∃ z : Int, bAnd IntKind.u64 x19 67108863 = z := ⟨_, rfl⟩
  obtain ⟨x25, h24⟩ : ∃ z : Int, List.getD (splice (splice (splice (splice (splice (splice [0, 0, 0, 0, 0] 0 (List.take 5 (List.drop 0 (splice (W.el a) 0 (W.el r64_4e))))) 0 [x9]) 0 [x11]) 0 [x15]) 1 [x19]) 1 [x23]) 2 0 = z := ⟨_, rfl⟩
  obtain ⟨x27, h26⟩ : ∃ z : Int, (x25 + x21) % 18446744073709551616 = z := ⟨_, rfl⟩
  obtain ⟨x29, h28⟩ : ∃ z : Int, x27 / 67108864 = z := ⟨_, rfl⟩
  obtain ⟨x31, h30⟩ : ∃ z : Int, bAnd IntKind.u64 x27 67108863 = z := ⟨_, rfl⟩
  obtain ⟨x33, h32⟩ : ∃ z : Int, List.getD (splice (splice (splice (splice (splice (splice (splice (splice [0, 0, 0, 0, 0] 0 (List.take 5 (List.drop 0 (splice (W.el a) 0 (W.el r64_4e))))) 0 [x9]) 0 [x11]) 0 [x15]) 1 [x19]) 1 [x23]) 2 [x27]) 2 [x31]) 3 0 = z := ⟨_, rfl⟩
  obtain ⟨x35, h34⟩ : ∃ z : Int, (x33 + x29) % 18446744073709551616 = z := ⟨_, rfl⟩
  obtain ⟨x37, h36⟩ : ∃ z : Int, x35 / 67108864 = z := ⟨_, rfl⟩
  obtain ⟨x39, h38⟩ : ∃ z : Int, bAnd IntKind.u64 x35 67108863 = z := ⟨_, rfl⟩
  obtain ⟨x41, h40⟩ : ∃ z : Int, List.getD (splice (splice (splice (splice (splice (splice (splice (splice (splice (splice [0, 0, 0, 0, 0] 0 (List.take 5 (List.drop 0 (splice (W.el a) 0 (W.el r64_4e))))) 0 [x9]) 0 [x11]) 0 [x15]) 1 [x19]) 1 [x23]) 2 [x27]) 2 [x31]) 3 [x35]) 3 [x39]) 4 0 = z := ⟨_, rfl⟩
  obtain ⟨x43, h42⟩ : ∃ z : Int, (x41 + x37) % 18446744073709551616 = z := ⟨_, rfl⟩
  obtain ⟨x45, h44⟩ : ∃ z : Int, x43 / 67108864 = z := ⟨_, rfl⟩
  obtain ⟨x47, h46⟩ : ∃ z : Int, bAnd IntKind.u64 x43 67108863 = z := ⟨_, rfl⟩
  by_cases hq : (x45 == 1) = true
  · exact ⟨⟨_, _, _, _, _⟩, run45a a r64_0e r64_2e r64_4e x7 x9 x11 x13 x15 x17 x19 x21 x23 x25 x27 x29 x31 x33 x35 x37 x39 x41 x43 x45 x47 true c1 c3 c5 h6 h8 h10 h12 h14 h16 h18 h20 h22 h24 h26 h28 h30 h32 h34 h36 h38 h40 h42 h44 h46 hq rfl⟩
  · exact ⟨⟨_, _, _, _, _⟩, run45b a r64_0e r64_2e r64_4e x7 x9 x11 x13 x15 x17 x19 x21 x23 x25 x27 x29 x31 x33 x35 x37 x39 x41 x43 x45 x47 false c1 c3 c5 h6 h8 h10 h12 h14 h16 h18 h20 h22 h24 h26 h28 h30 h32 h34 h36 h38 h40 h42 h44 h46 (Bool.eq_false_iff.mpr hq) rfl⟩
theorem mod256 {a x : Int} (h : a % 256 = x) : 0 ≤ x ∧ x < 256 := by omega
theorem bytes_any (a : W.El) : ∃ h : List Int, h.length = 16 ∧ (∀ x ∈ h, 0 ≤ x ∧ x < 256) ∧ PureF Try.prog 62 [(.aggi .u64 (W.el a))] (.aggi .u8 h) := by
  obtain ⟨x1, h0⟩ : ∃ z : Int, List.getD (W.el a) 0 0 = z := ⟨_, rfl⟩
  obtain ⟨x3, h2⟩ : ∃ z : Int, x1 / 1 = z := ⟨_, rfl⟩
  obtain ⟨x5, h4⟩ : ∃ z : Int, List.getD (W.el a) 1 0 = z := ⟨_, rfl⟩
  obtain ⟨x7, h6⟩ : ∃ z : Int, x5 * 67108864 % 18446744073709551616 = z := ⟨_, rfl⟩
  obtain ⟨x9, h8⟩ : ∃ z : Int, bOr IntKind.u64 x3 x7 = z := ⟨_, rfl⟩
  obtain ⟨x11, h10⟩ : ∃ z : Int, x9 % 256 = z := ⟨_, rfl⟩
  obtain ⟨x13, h12⟩ : ∃ z : Int, List.getD (W.el a) 0 0 = z := ⟨_, rfl⟩
  obtain ⟨x15, h14⟩ : ∃ z : Int, x13 / 256 = z := ⟨_, rfl⟩
  obtain ⟨x17, h16⟩ : ∃ z : Int, List.getD (W.el a) 1 0 = z := ⟨_, rfl⟩
  obtain ⟨x19, h18⟩ : ∃ z : Int, x17 * 262144 % 18446744073709551616 = z := ⟨_, rfl⟩
  obtain ⟨x21, h20⟩ : ∃ z : Int, bOr IntKind.u64 x15 x19 = z := ⟨_, rfl⟩
  obtain ⟨x23, h22⟩ : ∃ z : Int, x21 % 256 = z := ⟨_, rfl⟩
  obtain ⟨x25, h24⟩ : ∃ z : Int, List.getD (W.el a) 0 0 = z := ⟨_, rfl⟩
  obtain ⟨x27, h26⟩ : ∃ z : Int, x25 / 65536 = z := ⟨_, rfl⟩
  obtain ⟨x29, h28⟩ : ∃ z : Int, List.getD (W.el a) 1 0 = z := ⟨_, rfl⟩
  obtain ⟨x31, h30⟩ : ∃ z : Int, x29 * 1024 % 18446744073709551616 = z := ⟨_, rfl⟩
  obtain ⟨x33, h32⟩ : ∃ z : Int, bOr IntKind.u64 x27 x31 = z := ⟨_, rfl⟩
  obtain ⟨x35, h34⟩ : ∃ z : Int, x33 % 256 = z := ⟨_, rfl⟩
  obtain ⟨x37, h36⟩ : ∃ z : Int, List.getD (W.el a) 0 0 = z := ⟨_, rfl⟩
  obtain ⟨x39, h38⟩ : ∃ z : Int, x37 / 16777216 = z := ⟨_, rfl⟩
  obtain ⟨x41, h40⟩ : ∃ z : Int, List.getD (W.el a) 1 0 = z := ⟨_, rfl⟩
  obtain ⟨x43, h42⟩ : ∃ z : Int, x41 * 4 % 18446744073709551616 = z := ⟨_, rfl⟩
  obtain ⟨x45, h44⟩ : ∃ z : Int, bOr IntKind.u64 x39 x43 = z := ⟨_, rfl⟩
  obtain ⟨x47, h46⟩ : ∃ z : Int, x45 % 256 = z := ⟨_, rfl⟩
  obtain ⟨x49, h48⟩ : ∃ z : Int, List.getD (W.el a) 1 0 = z := ⟨_, rfl⟩
  obtain ⟨x51, h50⟩ : ∃ z : Int, x49 / 64 = z := ⟨_, rfl⟩
  obtain ⟨x53, h52⟩ : ∃ z : Int, List.getD (W.el a) 2 0 = z := ⟨_, rfl⟩
  obtain ⟨x55, h54⟩ : ∃ z : Int, x53 * 1048576 % 18446744073709551616 = z := ⟨_, rfl⟩
  obtain ⟨x57, h56⟩ : ∃ z : Int, bOr IntKind.u64 x51 x55 = z := ⟨_, rfl⟩
  obtain ⟨x59, h58⟩ : ∃ z : Int, x57 % 256 = z := ⟨_, rfl⟩
  obtain ⟨x61, h60⟩ : ∃ z : Int, List.getD (W.el a) 1 0 = z := ⟨_, rfl⟩
  obtain ⟨x63, h62⟩ : ∃ z : Int, x61 / 16384 = z := ⟨_, rfl⟩
  obtain ⟨x65, h64⟩ : ∃ z : Int, List.getD (W.el a) 2 0 = z := ⟨_, rfl⟩
  obtain ⟨x67, h66⟩ : ∃ z : Int, x65 * 4096 % 18446744073709551616 = z := ⟨_, rfl⟩
  obtain ⟨x69, h68⟩ : ∃ z : Int, bOr IntKind.u64 x63 x67 = z := ⟨_, rfl⟩
  obtain ⟨x71, h70⟩ : ∃ z : Int, x69 % 256 = z := ⟨_, rfl⟩
  obtain ⟨x73, h72⟩ : ∃ z : Int, List.getD (W.el a) 1 0 = z := ⟨_, rfl⟩
  obtain ⟨x75, h74⟩ : ∃ z : Int, x73 / 4194304 = z := ⟨_, rfl⟩
  obtain ⟨x77, h76⟩ : ∃ z : Int, List.getD (W.el a) 2 0 = z := ⟨_, rfl⟩
  obtain ⟨x79, h78⟩ : ∃ z : Int, x77 * 16 % 18446744073709551616 = z := ⟨_, rfl⟩
  obtain ⟨x81, h80⟩ : ∃ z : Int, bOr IntKind.u64 x75 x79 = z := ⟨_, rfl⟩
  obtain ⟨x83, h82⟩ : ∃ z : Int, x81 % 256 = z := ⟨_, rfl⟩
  obtain ⟨x85, h84⟩ : ∃ z : Int, List.getD (W.el a) 2 0 = z := ⟨_, rfl⟩
  obtain ⟨x87, h86⟩ : ∃ z : Int, x85 / 16 = z := ⟨_, rfl⟩
  obtain ⟨x89, h88⟩ : ∃ z : Int, List.getD (W.el a) 3 0 = z := ⟨_, rfl⟩
  obtain ⟨x91, h90⟩ : ∃ z : Int, x89 * 4194304 % 18446744073709551616 = z := ⟨_, rfl⟩
  obtain ⟨x93, h92⟩ : ∃ z : Int, bOr IntKind.u64 x87 x91 = z := ⟨_, rfl⟩
  obtain ⟨x95, h94⟩ : ∃ z : Int, x93 % 256 = z := ⟨_, rfl⟩
  obtain ⟨x97, h96⟩ : ∃ z : Int, List.getD (W.el a) 2 0 = z := ⟨_, rfl⟩
  obtain ⟨x99, h98⟩ : ∃ z : Int, x97 / 4096 = z := ⟨_, rfl⟩
  obtain ⟨x101, h100⟩ : ∃ z : Int, List.getD (W.el a) 3 0 = z := ⟨_, rfl⟩
  obtain ⟨x103, h102⟩ : ∃ z : Int, x101 * 16384 % 18446744073709551616 = z := ⟨_, rfl⟩
  obtain ⟨x105, h104⟩ : ∃ z : Int, bOr IntKind.u64 x99 x103 = z := ⟨_, rfl⟩
  obtain ⟨x107, h106⟩ : ∃ z : Int, x105 % 256 = z := ⟨_, rfl⟩
  obtain ⟨x109, h108⟩ : ∃ z : Int, List.getD (W.el a) 2 0 = z := ⟨_, rfl⟩
  obtain ⟨x111, h110⟩ : ∃ z : Int, x109 / 1048576 = z := ⟨_, rfl⟩
  obtain ⟨x113, h112⟩ : ∃ z : Int, List.getD (W.el a) 3 0 = z := ⟨_, rfl⟩
  obtain ⟨x115, h114⟩ : ∃ z : Int, x113 * 64 % 18446744073709551616 = z := ⟨_, rfl⟩
  obtain ⟨x117, h116⟩ : ∃ z : Int, bOr IntKind.u64 x111 x115 = z := ⟨_, rfl⟩
  obtain ⟨x119, h118⟩ : ∃ z : Int, x117 % 256 = z := ⟨_, rfl⟩
  obtain ⟨x121, h120⟩ : ∃ z : Int, List.getD (W.el a) 3 0 = z := ⟨_, rfl⟩
  obtain ⟨x123, h122⟩ : ∃ z : Int, x121 / 4 = z := ⟨_, rfl⟩
  obtain ⟨x125, h124⟩ : ∃ z : Int, List.getD (W.el a) 4 0 = z := ⟨_, rfl⟩
  obtain ⟨x127, h126⟩ : ∃ z : Int, x125 * 16777216 % 18446744073709551616 = z := ⟨_, rfl⟩
  obtain ⟨x129, h128⟩ : ∃ z : Int, bOr IntKind.u64 x123 x127 = z := ⟨_, rfl⟩
  obtain ⟨x131, h130⟩ : ∃ z : Int, x129 % 256 = z := ⟨_, rfl⟩
  obtain ⟨x133, h132⟩ : ∃ z : Int, List.getD (W.el a) 3 0 = z := ⟨_, rfl⟩
  obtain ⟨x135, h134⟩ : ∃ z : Int, x133 / 1024 = z := ⟨_, rfl⟩
  obtain ⟨x137, h136⟩ : ∃ z : Int, List.getD (W.el a) 4 0 = z := ⟨_, rfl⟩
  obtain ⟨x139, h138⟩ : ∃ z : Int, x137 * 65536 % 18446744073709551616 = z := ⟨_, rfl⟩
  obtain ⟨x141, h140⟩ : ∃ z : Int, bOr IntKind.u64 x135 x139 = z := ⟨_, rfl⟩
  obtain ⟨x143, h142⟩ : ∃ z : Int, x141 % 256 = z := ⟨_, rfl⟩
  obtain ⟨x145, h144⟩ : ∃ z : Int, List.getD (W.el a) 3 0 = z := ⟨_, rfl⟩
  obtain ⟨x147, h146⟩ : ∃ z : Int, x145 / 262144 = z := ⟨_, rfl⟩
  obtain ⟨x149, h148⟩ : ∃ z : Int, List.getD (W.el a) 4 0 = z := ⟨_, rfl⟩
  obtain ⟨x151, h150⟩ : ∃ z : Int, x149 * 256 % 18446744073709551616 = z := ⟨_, rfl⟩
  obtain ⟨x153, h152⟩ : ∃ z : Int, bOr IntKind.u64 x147 x151 = z := ⟨_, rfl⟩
  obtain ⟨x155, h154⟩ : ∃ z : Int, x153 % 256 = z := ⟨_, rfl⟩
  obtain ⟨x157, h156⟩ : ∃ z : Int, List.getD (W.el a) 4 0 = z := ⟨_, rfl⟩
  obtain ⟨x159, h158⟩ : ∃ z : Int, x157 / 1 = z := ⟨_, rfl⟩
  obtain ⟨x161, h160⟩ : ∃ z : Int, x159 % 256 = z := ⟨_, rfl⟩
  obtain ⟨x163, h162⟩ : ∃ z : Int, List.getD (W.el a) 4 0 = z := ⟨_, rfl⟩
  obtain ⟨x165, h164⟩ : ∃ z : Int, x163 / 256 = z := ⟨_, rfl⟩
  obtain ⟨x167, h166⟩ : ∃ z : Int, x165 % 256 = z := ⟨_, rfl⟩
  obtain ⟨x169, h168⟩ : ∃ z : Int, List.getD (W.el a) 4 0 = z := ⟨_, rfl⟩
  obtain ⟨x171, h170⟩ : ∃ z : Int, x169 / 65536 = z := ⟨_, rfl⟩
  obtain ⟨x173, h172⟩ : ∃ z : Int, x171 % 256 = z := ⟨_, rfl⟩
  have run := run46 a x1 x3 x5 x7 x9 x11 x13 x15 x17 x19 x21 x23 x25 x27 x29 x31 x33 x35 x37 x39 x41 x43 x45 x47 x49 x51 x53 x55 x57 x59 x61 x63 x65 x67 x69 x71 x73 x75 x77 x79 x81 x83 x85 x87 x89 x91 x93 x95 x97 x99 x101 x103 x105 x107 x109 x111 x113 x115 x117 x119 x121 x123 x125 x127 x129 x131 x133 x135 x137 x139 x141 x143 x145 x147 x149 x151 x153 x155 x157 x159 x161 x163 x165 x167 x169 x171 x173 h0 h2 h4 h6 h8 h10 h12 h14 h16 h18 h20 h22 h24 h26 h28 h30 h32 h34 h36 h38 h40 h42 h44 h46 h48 h50 h52 h54 h56 h58 h60 h62 h64 h66 h68 h70 h72 h74 h76 h78 h80 h82 h84 h86 h88 h90 h92 h94 h96 h98 h100 h102 h104 h106 h108 h110 h112 h114 h116 h118 h120 h122 h124 h126 h128 h130 h132 h134 h136 h138 h140 h142 h144 h146 h148 h150 h152 h154 h156 h158 h160 h162 h164 h166 h168 h170 h172
  refine ⟨_, rfl, ?_, run⟩
  simp only [List.forall_mem_cons]
  exact ⟨mod256 h10, mod256 h22, mod256 h34, mod256 h46, mod256 h58, mod256 h70, mod256 h82, mod256 h94, mod256 h106, mod256 h118, mod256 h130, mod256 h142, mod256 h154, mod256 h160, mod256 h166, mod256 h172, fun _ h => by cases h⟩
end Go.Proofs.Ytmfnldkiaodkpaa.Vm

namespace Go.Proofs.Ytmfnldkiaodkpaa.Vm
open Go Go.Proofs Go.Proofs.Ytmfnldkiaodkpaa
noncomputable def splitE (l : List Int) : W.El := open Classical in if h : 17 ≤ l.length then Classical.choose (split_any l h) else ⟨0, 0, 0, 0, 0⟩
theorem splitE_ok {l : List Int} (h : 17 ≤ l.length) : PureF Try.prog 59 [(.aggi .u8 l)] (.aggi .u64 (W.el (splitE l))) := by
  unfold splitE
  rw [dif_pos h]
  exact Classical.choose_spec (split_any l h)
noncomputable def timesE (a b : W.El) : W.El := Classical.choose (times_any a b)
theorem timesE_ok (a b : W.El) : PureF Try.prog 60 [(.aggi .u64 (W.el a)), (.aggi .u64 (W.el b))] (.aggi .u64 (W.el (timesE a b))) := Classical.choose_spec (times_any a b)
def addEl (a s : W.El) : W.El := ⟨(a.a0 + s.a0) % 18446744073709551616, (a.a1 + s.a1) % 18446744073709551616, (a.a2 + s.a2) % 18446744073709551616, (a.a3 + s.a3) % 18446744073709551616, (a.a4 + s.a4) % 18446744073709551616⟩
def blkA (l : List Int) (p t : Nat) : List Int := splice [(0 : Int), (0 : Int), (0 : Int), (0 : Int), (0 : Int), (0 : Int), (0 : Int), (0 : Int), (0 : Int), (0 : Int), (0 : Int), (0 : Int), (0 : Int), (0 : Int), (0 : Int), (0 : Int), (0 : Int)] (0 : Nat) (List.take (mulE (min (Int.toNat ((t : Int) - (0 : Int))) (17 : Nat)) (1 : Nat)) (List.drop (0 : Nat) (List.take (mulE (Int.toNat ((t : Int) - (0 : Int))) (1 : Nat)) (List.drop (addO p (0 : Nat)) l))))
def blkB (l : List Int) (p t : Nat) : List Int := splice (blkA l p t) (addO (0 : Nat) (mulE (Int.toNat (t : Int)) (1 : Nat))) [(1 : Int)]
def blk (l : List Int) (p t : Nat) : List Int := List.take 17 (List.drop 0 (blkB l p t))
theorem blkA_len {l : List Int} {p t : Nat} (ht : t ≤ 16) : (blkA l p t).length = 17 := by
  have e1 : (((t : Nat) : Int) - 0).toNat = t := by omega
  unfold blkA
  rw [splice_len]
  · rfl
  · rw [e1, mulE1]
    simp only [List.length_take, List.length_drop, List.length_cons, List.length_nil]
    omega
theorem blkB_len {l : List Int} {p t : Nat} (ht : t ≤ 16) : (blkB l p t).length = 17 := by
  unfold blkB
  rw [splice_len, blkA_len ht]
  rw [blkA_len ht, Int.toNat_natCast, off_eqP]
  simp only [List.length_cons, List.length_nil]
  omega
/-- What is reckoned of a text, from its m last bytes on. -/
noncomputable def loopF (l : List Int) (r : W.El) (q m : Nat) (a : W.El) : W.El :=
  if _h : m = 0 then a else loopF l r q (m - min m 16) (timesE (addEl a (splitE (blk l (q - m) (min m 16)))) r)
termination_by m
decreasing_by omega
theorem loop18 (k l : List Int) (r : W.El) {o n : Nat} (hl : o + n ≤ l.length) :
    CodeOk Try.prog 95 4338 (kAt (kOf Try.prog Try.f18) [true, true, true, true, true, true, false, false]) (L18I k l r o n 0 0 0 0 0) (.exit 2) (L18J k l r (o + n) 0 (loopF l r (o + n) n ⟨0, 0, 0, 0, 0⟩).a0 (loopF l r (o + n) n ⟨0, 0, 0, 0, 0⟩).a1 (loopF l r (o + n) n ⟨0, 0, 0, 0, 0⟩).a2 (loopF l r (o + n) n ⟨0, 0, 0, 0, 0⟩).a3 (loopF l r (o + n) n ⟨0, 0, 0, 0, 0⟩).a4) := by
  generalize hF : loopF l r (o + n) n ⟨0, 0, 0, 0, 0⟩ = F
  have key := CodeOk.loop (P := Try.prog) (nt := 95) (n0 := 4338) (k := kAt (kOf Try.prog Try.f18) [true, true, true, true, true, true, false, false, false]) (ex := .exit 2) (s' := L18J k l r (o + n) 0 F.a0 F.a1 F.a2 F.a3 F.a4)
    (fun x : Nat × W.El => L18I k l r (o + n - x.1) x.1 x.2.a0 x.2.a1 x.2.a2 x.2.a3 x.2.a4) (fun x => x.1 ≤ n ∧ loopF l r (o + n) x.1 x.2 = F) (fun x => x.1) (by simp) ?_ (n, ⟨0, 0, 0, 0, 0⟩) ⟨Nat.le_refl _, hF⟩
  · have e : o + n - n = o := by omega
    dsimp only at key
    rw [e] at key
    have hk : kAt (kOf Try.prog Try.f18) [true, true, true, true, true, true, false, false] = .loop (kAt (kOf Try.prog Try.f18) [true, true, true, true, true, true, false, false, false]) := by kernel_rfl
    rw [hk]
    exact key
  · rintro ⟨m, a⟩ ⟨hm, hI⟩
    dsimp only at hm hI ⊢
    rw [loopF] at hI
    by_cases h0 : m = 0
    · right
      subst h0
      rw [dif_pos rfl] at hI
      subst hI
      exact run18_out k l r (o + n) 0 _ _ _ _ _ _ rfl (by decide)
    · left
      rw [dif_neg h0] at hI
      obtain ⟨t, ht⟩ : ∃ t : Nat, t = min m 16 := ⟨_, rfl⟩
      rw [← ht] at hI
      have hx : (bif decide (((m : Nat) : Int) < 16) then ((m : Nat) : Int) else 16) = (t : Int) := by
        by_cases h : m < 16
        · rw [decide_eq_true (by omega), cond_true]; omega
        · rw [decide_eq_false (by omega), cond_false]; omega
      have b : 1 ≤ t ∧ t ≤ 16 ∧ t ≤ m := by omega
      have e1 : (((t : Nat) : Int) - 0).toNat = t := by omega
      have hlen := blkA_len (l := l) (p := o + n - m) b.2.1
      have hlen2 := blkB_len (l := l) (p := o + n - m) b.2.1
      have c104 := splitE_ok (l := blk l (o + n - m) t) (by unfold blk; rw [List.length_take, List.drop_zero, hlen2]; omega)
      have run := run18_go k l r (o + n - m) m a.a0 a.a1 a.a2 a.a3 a.a4 _ _ _ _ (splitE (blk l (o + n - m) t)) _ _ _ _ _ _ _ _ _ _ (timesE (addEl a (splitE (blk l (o + n - m) t))) r) rfl (decide_eq_true (by omega)) rfl hx ⟨by omega, by omega, by omega⟩ rfl ⟨by rw [e1, addO_eq]; omega, by omega⟩ ⟨by omega, by omega⟩ ⟨by show _ ≤ (blkA l (o + n - m) t).length; rw [hlen, Int.toNat_natCast, off_eqP]; omega, rfl⟩ ⟨by omega, by omega, by omega⟩ (by show _ ≤ (blkB l (o + n - m) t).length; rw [hlen2]; omega) c104 rfl rfl rfl rfl rfl rfl rfl rfl rfl rfl (timesE_ok (addEl a (splitE (blk l (o + n - m) t))) r)
      refine ⟨(m - t, timesE (addEl a (splitE (blk l (o + n - m) t))) r), ⟨by dsimp only; omega, hI⟩, by dsimp only; omega, ?_⟩
      have e2 : addO (o + n - m) (mulE (Int.toNat (t : Int)) 1) = o + n - (m - t) := by rw [addO_eq, mulE1, Int.toNat_natCast]; omega
      have e3 : Int.toNat (((m : Nat) : Int) - (t : Int)) = m - t := by omega
      rw [e2, e3] at run
      exact run
/-- A sum, byte by byte. -/
def cc (h s : Nat → Int) : Nat → Int
  | 0 => h 0 + s 0
  | i + 1 => cc h s i / 256 + h (i + 1) + s (i + 1)
def Bt (h : Nat → Int) : Prop := ∀ i, 0 ≤ h i ∧ h i < 256
theorem cc_bound {h s : Nat → Int} (hh : Bt h) (hs : Bt s) : ∀ i, 0 ≤ cc h s i ∧ cc h s i < 512
  | 0 => by have := hh 0; have := hs 0; show 0 ≤ h 0 + s 0 ∧ _; constructor; omega; show h 0 + s 0 < 512; omega
  | i + 1 => by
    have h1 := cc_bound hh hs i; have h2 := hh (i + 1); have h3 := hs (i + 1)
    have e : cc h s (i + 1) = cc h s i / 256 + h (i + 1) + s (i + 1) := rfl
    rw [e]; omega
theorem cc_comm (h s m : Nat → Int) : ∀ i, cc (fun j => cc h s j % 256) m i % 256 = cc h (fun j => cc s m j % 256) i % 256 ∧ cc h s i / 256 + cc (fun j => cc h s j % 256) m i / 256 = cc s m i / 256 + cc h (fun j => cc s m j % 256) i / 256
  | 0 => by
    show (((h 0 + s 0) % 256 + m 0) % 256 = (h 0 + (s 0 + m 0) % 256) % 256) ∧ ((h 0 + s 0) / 256 + ((h 0 + s 0) % 256 + m 0) / 256 = (s 0 + m 0) / 256 + (h 0 + (s 0 + m 0) % 256) / 256)
    omega
  | i + 1 => by
    have ih := (cc_comm h s m i).2
    have e1 : cc h s (i + 1) = cc h s i / 256 + h (i + 1) + s (i + 1) := rfl
    have e2 : cc (fun j => cc h s j % 256) m (i + 1) = cc (fun j => cc h s j % 256) m i / 256 + cc h s (i + 1) % 256 + m (i + 1) := rfl
    have e3 : cc s m (i + 1) = cc s m i / 256 + s (i + 1) + m (i + 1) := rfl
    have e4 : cc h (fun j => cc s m j % 256) (i + 1) = cc h (fun j => cc s m j % 256) i / 256 + h (i + 1) + cc s m (i + 1) % 256 := rfl
    rw [e2, e4, e1, e3]
    omega
theorem wA {a b : Int} (ha : 0 ≤ a ∧ a < 256) (hb : 0 ≤ b ∧ b < 256) : IntKind.wrap IntKind.i64 (a + b) = a + b := wrapP (by unfold I64p; omega)
theorem wB {a b : Int} (ha : 0 ≤ a ∧ a < 256) (hb : 0 ≤ b ∧ b < 256) : IntKind.wrap IntKind.i64 (0 + (a + b)) = a + b := by rw [Int.zero_add]; exact wA ha hb
theorem wC {c a b : Int} (hc : 0 ≤ c ∧ c < 512) (ha : 0 ≤ a ∧ a < 256) (hb : 0 ≤ b ∧ b < 256) : IntKind.wrap IntKind.i64 (c / 256 + (a + b)) = c / 256 + a + b := by
  rw [← Int.add_assoc]; exact wrapP (by unfold I64p; omega)
theorem wD {c a : Int} (hc : 0 ≤ c ∧ c < 512) (ha : 0 ≤ a ∧ a < 256) : IntKind.wrap IntKind.i64 (c / 256 + a) = c / 256 + a := wrapP (by unfold I64p; omega)
theorem wE {c a b : Int} (hc : 0 ≤ c ∧ c < 512) (ha : 0 ≤ a ∧ a < 256) (hb : 0 ≤ b ∧ b < 256) : IntKind.wrap IntKind.i64 (c / 256 + a + b) = c / 256 + a + b := wrapP (by unfold I64p; omega)
theorem wF {c : Int} (hc : 0 ≤ c ∧ c < 512) : IntKind.wrap IntKind.i64 (Int.tdiv c 256) = c / 256 := by
  rw [Int.tdiv_eq_ediv_of_nonneg hc.1]; exact wrapP (by unfold I64p; omega)
theorem bt_list {l : List Int} (h : ∀ x ∈ l, 0 ≤ x ∧ x < 256) : Bt fun i => l.getD i 0 := by
  intro i
  by_cases hi : i < l.length
  · show 0 ≤ l.getD i 0 ∧ l.getD i 0 < 256
    rw [List.getD_eq_getElem?_getD, List.getElem?_eq_getElem hi]
    exact h _ (List.getElem_mem hi)
  · show 0 ≤ l.getD i 0 ∧ l.getD i 0 < 256
    rw [List.getD_eq_getElem?_getD, List.getElem?_eq_none (Nat.le_of_not_lt hi)]
    decide
/-- Tag: what is reckoned of r and the text, and s added to it. -/
theorem tag_gen (k0 k1 k2 k3 k4 k5 k6 k7 k8 k9 k10 k11 k12 k13 k14 k15 : Int) (l : List Int) {o n : Nat} (hl : o + n ≤ l.length) : ∃ h : Nat → Int, Bt h ∧ ∀ {S : Nat → Int}, Bt S →
    Contract0 Try.prog 18 [(.aggi .u8 [k0, k1, k2, k3, k4, k5, k6, k7, k8, k9, k10, k11, k12, k13, k14, k15, (S 0), (S 1), (S 2), (S 3), (S 4), (S 5), (S 6), (S 7), (S 8), (S 9), (S 10), (S 11), (S 12), (S 13), (S 14), (S 15)]), (.c (.sl 1 0 o n 1))] [(1, .one ⟨false, false, .ints .u8 l⟩)] 2 (.aggi .u8 [cc h S 0 % 256, cc h S 1 % 256, cc h S 2 % 256, cc h S 3 % 256, cc h S 4 % 256, cc h S 5 % 256, cc h S 6 % 256, cc h S 7 % 256, cc h S 8 % 256, cc h S 9 % 256, cc h S 10 % 256, cc h S 11 % 256, cc h S 12 % 256, cc h S 13 % 256, cc h S 14 % 256, cc h S 15 % 256]) [] [] := by
  have c43 := splitE_ok (l := [bAnd IntKind.u8 k0 255, bAnd IntKind.u8 k1 255, bAnd IntKind.u8 k2 255, bAnd IntKind.u8 k3 15, bAnd IntKind.u8 k4 252, bAnd IntKind.u8 k5 255, bAnd IntKind.u8 k6 255, bAnd IntKind.u8 k7 15, bAnd IntKind.u8 k8 252, bAnd IntKind.u8 k9 255, bAnd IntKind.u8 k10 255, bAnd IntKind.u8 k11 15, bAnd IntKind.u8 k12 252, bAnd IntKind.u8 k13 255, bAnd IntKind.u8 k14 255, bAnd IntKind.u8 k15 15, 0]) (Nat.le_of_ble_eq_true rfl)
  generalize splitE [bAnd IntKind.u8 k0 255, bAnd IntKind.u8 k1 255, bAnd IntKind.u8 k2 255, bAnd IntKind.u8 k3 15, bAnd IntKind.u8 k4 252, bAnd IntKind.u8 k5 255, bAnd IntKind.u8 k6 255, bAnd IntKind.u8 k7 15, bAnd IntKind.u8 k8 252, bAnd IntKind.u8 k9 255, bAnd IntKind.u8 k10 255, bAnd IntKind.u8 k11 15, bAnd IntKind.u8 k12 252, bAnd IntKind.u8 k13 255, bAnd IntKind.u8 k14 255, bAnd IntKind.u8 k15 15, 0] = R at c43
  obtain ⟨E, c45⟩ := least_any (loopF l R (o + n) n ⟨0, 0, 0, 0, 0⟩)
  obtain ⟨hl16, hlen, hbt, c46⟩ := bytes_any E
  rw [row16 hlen] at c46
  refine ⟨fun i => hl16.getD i 0, bt_list hbt, ?_⟩
  intro S hS
  have hL := loop18 [k0, k1, k2, k3, k4, k5, k6, k7, k8, k9, k10, k11, k12, k13, k14, k15, (S 0), (S 1), (S 2), (S 3), (S 4), (S 5), (S 6), (S 7), (S 8), (S 9), (S 10), (S 11), (S 12), (S 13), (S 14), (S 15)] l R hl
  have hh := bt_list hbt
  generalize hdef : (fun i => hl16.getD i 0) = h at hh ⊢
  have c46 : PureF Try.prog 62 [(.aggi .u64 (W.el E))] (.aggi .u8 [h 0, h 1, h 2, h 3, h 4, h 5, h 6, h 7, h 8, h 9, h 10, h 11, h 12, h 13, h 14, h 15]) := by subst hdef; exact c46
  have cb := cc_bound hh hS
  exact run18 [k0, k1, k2, k3, k4, k5, k6, k7, k8, k9, k10, k11, k12, k13, k14, k15, (S 0), (S 1), (S 2), (S 3), (S 4), (S 5), (S 6), (S 7), (S 8), (S 9), (S 10), (S 11), (S 12), (S 13), (S 14), (S 15)] l o n k0 _ k1 _ k2 _ k3 _ k4 _ k5 _ k6 _ k7 _ k8 _ k9 _ k10 _ k11 _ k12 _ k13 _ k14 _ k15 _ R (o + n) 0 _ _ _ _ _ E (h 0) (h 1) (h 2) (h 3) (h 4) (h 5) (h 6) (h 7) (h 8) (h 9) (h 10) (h 11) (h 12) (h 13) (h 14) (h 15) (h 0) (S 0) (S 0) (h 0 + S 0) (cc h S 0) _ _ (h 1) (S 1) (S 1) (h 1 + S 1) (cc h S 1) _ _ (h 2) (S 2) (S 2) (h 2 + S 2) (cc h S 2) _ _ (h 3) (S 3) (S 3) (h 3 + S 3) (cc h S 3) _ _ (h 4) (S 4) (S 4) (h 4 + S 4) (cc h S 4) _ _ (h 5) (S 5) (S 5) (h 5 + S 5) (cc h S 5) _ _ (h 6) (S 6) (S 6) (h 6 + S 6) (cc h S 6) _ _ (h 7) (S 7) (S 7) (h 7 + S 7) (cc h S 7) _ _ (h 8) (S 8) (S 8) (h 8 + S 8) (cc h S 8) _ _ (h 9) (S 9) (S 9) (h 9 + S 9) (cc h S 9) _ _ (h 10) (S 10) (S 10) (h 10 + S 10) (cc h S 10) _ _ (h 11) (S 11) (S 11) (h 11 + S 11) (cc h S 11) _ _ (h 12) (S 12) (S 12) (h 12 + S 12) (cc h S 12) _ _ (h 13) (S 13) (S 13) (h 13 + S 13) (cc h S 13) _ _ (h 14) (S 14) (S 14) (h 14 + S 14) (cc h S 14) _ _ (h 15) (S 15) (S 15) (h 15 + S 15) (cc h S 15) _ _ run38a_ok run38b_ok run37 rfl (Nat.le_of_ble_eq_true rfl) rfl rfl (Nat.le_of_ble_eq_true rfl) rfl rfl (Nat.le_of_ble_eq_true rfl) rfl rfl (Nat.le_of_ble_eq_true rfl) rfl rfl (Nat.le_of_ble_eq_true rfl) rfl rfl (Nat.le_of_ble_eq_true rfl) rfl rfl (Nat.le_of_ble_eq_true rfl) rfl rfl (Nat.le_of_ble_eq_true rfl) rfl rfl (Nat.le_of_ble_eq_true rfl) rfl rfl (Nat.le_of_ble_eq_true rfl) rfl rfl (Nat.le_of_ble_eq_true rfl) rfl rfl (Nat.le_of_ble_eq_true rfl) rfl rfl (Nat.le_of_ble_eq_true rfl) rfl rfl (Nat.le_of_ble_eq_true rfl) rfl rfl (Nat.le_of_ble_eq_true rfl) rfl rfl (Nat.le_of_ble_eq_true rfl) rfl c43 hL c45 c46 (w1 (hh 0)) rfl (Nat.le_of_ble_eq_true rfl) (w1 (hS 0)) (wA (hh 0) (hS 0)) (wB (hh 0) (hS 0)) rfl rfl (w1 (hh 1)) rfl (Nat.le_of_ble_eq_true rfl) (w1 (hS 1)) (wA (hh 1) (hS 1)) (wC (cb 0) (hh 1) (hS 1)) rfl rfl (w1 (hh 2)) rfl (Nat.le_of_ble_eq_true rfl) (w1 (hS 2)) (wA (hh 2) (hS 2)) (wC (cb 1) (hh 2) (hS 2)) rfl rfl (w1 (hh 3)) rfl (Nat.le_of_ble_eq_true rfl) (w1 (hS 3)) (wA (hh 3) (hS 3)) (wC (cb 2) (hh 3) (hS 3)) rfl rfl (w1 (hh 4)) rfl (Nat.le_of_ble_eq_true rfl) (w1 (hS 4)) (wA (hh 4) (hS 4)) (wC (cb 3) (hh 4) (hS 4)) rfl rfl (w1 (hh 5)) rfl (Nat.le_of_ble_eq_true rfl) (w1 (hS 5)) (wA (hh 5) (hS 5)) (wC (cb 4) (hh 5) (hS 5)) rfl rfl (w1 (hh 6)) rfl (Nat.le_of_ble_eq_true rfl) (w1 (hS 6)) (wA (hh 6) (hS 6)) (wC (cb 5) (hh 6) (hS 6)) rfl rfl (w1 (hh 7)) rfl (Nat.le_of_ble_eq_true rfl) (w1 (hS 7)) (wA (hh 7) (hS 7)) (wC (cb 6) (hh 7) (hS 7)) rfl rfl (w1 (hh 8)) rfl (Nat.le_of_ble_eq_true rfl) (w1 (hS 8)) (wA (hh 8) (hS 8)) (wC (cb 7) (hh 8) (hS 8)) rfl rfl (w1 (hh 9)) rfl (Nat.le_of_ble_eq_true rfl) (w1 (hS 9)) (wA (hh 9) (hS 9)) (wC (cb 8) (hh 9) (hS 9)) rfl rfl (w1 (hh 10)) rfl (Nat.le_of_ble_eq_true rfl) (w1 (hS 10)) (wA (hh 10) (hS 10)) (wC (cb 9) (hh 10) (hS 10)) rfl rfl (w1 (hh 11)) rfl (Nat.le_of_ble_eq_true rfl) (w1 (hS 11)) (wA (hh 11) (hS 11)) (wC (cb 10) (hh 11) (hS 11)) rfl rfl (w1 (hh 12)) rfl (Nat.le_of_ble_eq_true rfl) (w1 (hS 12)) (wA (hh 12) (hS 12)) (wC (cb 11) (hh 12) (hS 12)) rfl rfl (w1 (hh 13)) rfl (Nat.le_of_ble_eq_true rfl) (w1 (hS 13)) (wA (hh 13) (hS 13)) (wC (cb 12) (hh 13) (hS 13)) rfl rfl (w1 (hh 14)) rfl (Nat.le_of_ble_eq_true rfl) (w1 (hS 14)) (wA (hh 14) (hS 14)) (wC (cb 13) (hh 14) (hS 14)) rfl rfl (w1 (hh 15)) rfl (Nat.le_of_ble_eq_true rfl) (w1 (hS 15)) (wA (hh 15) (hS 15)) (wC (cb 14) (hh 15) (hS 15)) rfl rfl
end Go.Proofs.Ytmfnldkiaodkpaa.Vm
