/- What functions of the program come to: parts of the walk (Fa). -/
import Derived.Test.YtkjbjgkjplmkhaaDoorVmb
import Derived.Test.YtkjbjgkjplmkhaaDoorWa
import Derived.KernelRfl
import Derived.Test.YtkjbjgkjplmkhaaDoorProg
set_option linter.unusedSimpArgs false
set_option linter.unusedVariables false
namespace Go.Proofs.YtkjbjgkjplmkhaaDoor.Vm
open Go Go.Proofs Go.Proofs.YtkjbjgkjplmkhaaDoor
set_option maxRecDepth 100000
theorem run45 (ex : Bool) (l : List Int) (o n : Nat) (x1 : Int) (q3 : Bool) (x7 x10 x12 x14 x17 x20 x22 x24 x27 x30 x32 x34 x37 x40 x42 x44 x47 x50 x52 x54 x57 x60 x62 x64 x67 x70 x72 x74 x77 x80 x82 x84 : Int)
    (h0 : (↑n) = x1)
    (h2 : (decide (x1 < 8)) = q3)
    (h4 : q3 = false)
    (c5 : ((0 : Int) ≤ (0 : Int) ∧ (0 : Int) < (↑n : Int)))
    (h6 : (List.getD l (addO o 0) 0) = x7)
    (c8 : (addO o (0 : Nat) + (1 : Nat) ≤ List.length l))
    (h9 : (x7 % 18446744073709551616) = x10)
    (h11 : (x10 * 1 % 18446744073709551616) = x12)
    (h13 : (bOr IntKind.u64 0 x12) = x14)
    (c15 : ((0 : Int) ≤ (1 : Int) ∧ (1 : Int) < (↑n : Int)))
    (h16 : (List.getD l (addO o 1) 0) = x17)
    (c18 : (addO o (1 : Nat) + (1 : Nat) ≤ List.length l))
    (h19 : (x17 % 18446744073709551616) = x20)
    (h21 : (x20 * 256 % 18446744073709551616) = x22)
    (h23 : (bOr IntKind.u64 x14 x22) = x24)
    (c25 : ((0 : Int) ≤ (2 : Int) ∧ (2 : Int) < (↑n : Int)))
    (h26 : (List.getD l (addO o 2) 0) = x27)
    (c28 : (addO o (2 : Nat) + (1 : Nat) ≤ List.length l))
    (h29 : (x27 % 18446744073709551616) = x30)
    (h31 : (x30 * 65536 % 18446744073709551616) = x32)
    (h33 : (bOr IntKind.u64 x24 x32) = x34)
    (c35 : ((0 : Int) ≤ (3 : Int) ∧ (3 : Int) < (↑n : Int)))
    (h36 : (List.getD l (addO o 3) 0) = x37)
    (c38 : (addO o (3 : Nat) + (1 : Nat) ≤ List.length l))
    (h39 : (x37 % 18446744073709551616) = x40)
    (h41 : (x40 * 16777216 % 18446744073709551616) = x42)
    (h43 : (bOr IntKind.u64 x34 x42) = x44)
    (c45 : ((0 : Int) ≤ (4 : Int) ∧ (4 : Int) < (↑n : Int)))
    (h46 : (List.getD l (addO o 4) 0) = x47)
    (c48 : (addO o (4 : Nat) + (1 : Nat) ≤ List.length l))
    (h49 : (x47 % 18446744073709551616) = x50)
    (h51 : (x50 * 4294967296 % 18446744073709551616) = x52)
    (h53 : (bOr IntKind.u64 x44 x52) = x54)
    (c55 : ((0 : Int) ≤ (5 : Int) ∧ (5 : Int) < (↑n : Int)))
    (h56 : (List.getD l (addO o 5) 0) = x57)
    (c58 : (addO o (5 : Nat) + (1 : Nat) ≤ List.length l))
    (h59 : (x57 % 18446744073709551616) = x60)
    (h61 : (x60 * 1099511627776 % 18446744073709551616) = x62)
    (h63 : (bOr IntKind.u64 x54 x62) = x64)
    (c65 : ((0 : Int) ≤ (6 : Int) ∧ (6 : Int) < (↑n : Int)))
    (h66 : (List.getD l (addO o 6) 0) = x67)
    (c68 : (addO o (6 : Nat) + (1 : Nat) ≤ List.length l))
    (h69 : (x67 % 18446744073709551616) = x70)
    (h71 : (x70 * 281474976710656 % 18446744073709551616) = x72)
    (h73 : (bOr IntKind.u64 x64 x72) = x74)
    (c75 : ((0 : Int) ≤ (7 : Int) ∧ (7 : Int) < (↑n : Int)))
    (h76 : (List.getD l (addO o 7) 0) = x77)
    (c78 : (addO o (7 : Nat) + (1 : Nat) ≤ List.length l))
    (h79 : (x77 % 18446744073709551616) = x80)
    (h81 : (x80 * 72057594037927936 % 18446744073709551616) = x82)
    (h83 : (bOr IntKind.u64 x74 x82) = x84) :
    Contract0 Tryd.prog 50 [(.c (.sl 1 0 o n 1)), (.c (.int .i64 8))] [(1, .one ⟨false, ex, .ints .u8 l⟩)] 2 (.tup [(.c (.int .u64 x84)), (.c (.bool (true)))]) [] [] :=
  Contract0.of_frun (fn := Tryd.f50) (c := bodyOf Tryd.f50) (fuel := 300) (k := kOf Tryd.prog Tryd.f50) (outs := []) (hs := [(3, ⟨.auto, some (.c (.int .i64 x1))⟩), (5, ⟨.auto, some (.c (.bool q3))⟩), (6, ⟨.auto, some (.c (.bool false))⟩), (17, ⟨.ask, none⟩), (18, ⟨.ask, some (.c (.int .u8 x7))⟩), (19, ⟨.auto, some (.c (.int .u64 x10))⟩), (22, ⟨.auto, some (.c (.int .u64 x12))⟩), (23, ⟨.auto, some (.c (.int .u64 x14))⟩), (34, ⟨.ask, none⟩), (35, ⟨.ask, some (.c (.int .u8 x17))⟩), (36, ⟨.auto, some (.c (.int .u64 x20))⟩), (39, ⟨.auto, some (.c (.int .u64 x22))⟩), (40, ⟨.auto, some (.c (.int .u64 x24))⟩), (51, ⟨.ask, none⟩), (52, ⟨.ask, some (.c (.int .u8 x27))⟩), (53, ⟨.auto, some (.c (.int .u64 x30))⟩), (56, ⟨.auto, some (.c (.int .u64 x32))⟩), (57, ⟨.auto, some (.c (.int .u64 x34))⟩), (68, ⟨.ask, none⟩), (69, ⟨.ask, some (.c (.int .u8 x37))⟩), (70, ⟨.auto, some (.c (.int .u64 x40))⟩), (73, ⟨.auto, some (.c (.int .u64 x42))⟩), (74, ⟨.auto, some (.c (.int .u64 x44))⟩), (85, ⟨.ask, none⟩), (86, ⟨.ask, some (.c (.int .u8 x47))⟩), (87, ⟨.auto, some (.c (.int .u64 x50))⟩), (90, ⟨.auto, some (.c (.int .u64 x52))⟩), (91, ⟨.auto, some (.c (.int .u64 x54))⟩), (102, ⟨.ask, none⟩), (103, ⟨.ask, some (.c (.int .u8 x57))⟩), (104, ⟨.auto, some (.c (.int .u64 x60))⟩), (107, ⟨.auto, some (.c (.int .u64 x62))⟩), (108, ⟨.auto, some (.c (.int .u64 x64))⟩), (119, ⟨.ask, none⟩), (120, ⟨.ask, some (.c (.int .u8 x67))⟩), (121, ⟨.auto, some (.c (.int .u64 x70))⟩), (124, ⟨.auto, some (.c (.int .u64 x72))⟩), (125, ⟨.auto, some (.c (.int .u64 x74))⟩), (136, ⟨.ask, none⟩), (137, ⟨.ask, some (.c (.int .u8 x77))⟩), (138, ⟨.auto, some (.c (.int .u64 x80))⟩), (141, ⟨.auto, some (.c (.int .u64 x82))⟩), (142, ⟨.auto, some (.c (.int .u64 x84))⟩)])
    (cs := [EI .u64 (bOr IntKind.u64 x74 x82) x84,
      EI .u64 (x80 * 72057594037927936 % 18446744073709551616) x82,
      EI .u64 (x77 % 18446744073709551616) x80,
      EI .u8 (List.getD l (addO o 7) 0) x77,
      (addO o (7 : Nat) + (1 : Nat) ≤ List.length l),
      ((0 : Int) ≤ (7 : Int) ∧ (7 : Int) < (↑n : Int)),
      EI .u64 (bOr IntKind.u64 x64 x72) x74,
      EI .u64 (x70 * 281474976710656 % 18446744073709551616) x72,
      EI .u64 (x67 % 18446744073709551616) x70,
      EI .u8 (List.getD l (addO o 6) 0) x67,
      (addO o (6 : Nat) + (1 : Nat) ≤ List.length l),
      ((0 : Int) ≤ (6 : Int) ∧ (6 : Int) < (↑n : Int)),
      EI .u64 (bOr IntKind.u64 x54 x62) x64,
      EI .u64 (x60 * 1099511627776 % 18446744073709551616) x62,
      EI .u64 (x57 % 18446744073709551616) x60,
      EI .u8 (List.getD l (addO o 5) 0) x57,
      (addO o (5 : Nat) + (1 : Nat) ≤ List.length l),
      ((0 : Int) ≤ (5 : Int) ∧ (5 : Int) < (↑n : Int)),
      EI .u64 (bOr IntKind.u64 x44 x52) x54,
      EI .u64 (x50 * 4294967296 % 18446744073709551616) x52,
      EI .u64 (x47 % 18446744073709551616) x50,
      EI .u8 (List.getD l (addO o 4) 0) x47,
      (addO o (4 : Nat) + (1 : Nat) ≤ List.length l),
      ((0 : Int) ≤ (4 : Int) ∧ (4 : Int) < (↑n : Int)),
      EI .u64 (bOr IntKind.u64 x34 x42) x44,
      EI .u64 (x40 * 16777216 % 18446744073709551616) x42,
      EI .u64 (x37 % 18446744073709551616) x40,
      EI .u8 (List.getD l (addO o 3) 0) x37,
      (addO o (3 : Nat) + (1 : Nat) ≤ List.length l),
      ((0 : Int) ≤ (3 : Int) ∧ (3 : Int) < (↑n : Int)),
      EI .u64 (bOr IntKind.u64 x24 x32) x34,
      EI .u64 (x30 * 65536 % 18446744073709551616) x32,
      EI .u64 (x27 % 18446744073709551616) x30,
      EI .u8 (List.getD l (addO o 2) 0) x27,
      (addO o (2 : Nat) + (1 : Nat) ≤ List.length l),
      ((0 : Int) ≤ (2 : Int) ∧ (2 : Int) < (↑n : Int)),
      EI .u64 (bOr IntKind.u64 x14 x22) x24,
      EI .u64 (x20 * 256 % 18446744073709551616) x22,
      EI .u64 (x17 % 18446744073709551616) x20,
      EI .u8 (List.getD l (addO o 1) 0) x17,
      (addO o (1 : Nat) + (1 : Nat) ≤ List.length l),
      ((0 : Int) ≤ (1 : Int) ∧ (1 : Int) < (↑n : Int)),
      EI .u64 (bOr IntKind.u64 0 x12) x14,
      EI .u64 (x10 * 1 % 18446744073709551616) x12,
      EI .u64 (x7 % 18446744073709551616) x10,
      EI .u8 (List.getD l (addO o 0) 0) x7,
      (addO o (0 : Nat) + (1 : Nat) ≤ List.length l),
      ((0 : Int) ≤ (0 : Int) ∧ (0 : Int) < (↑n : Int)),
      q3 = false,
      EB (decide (x1 < 8)) q3,
      EI .i64 (↑n) x1])
    mixed Tryd.func50 (by kernel_rfl) (by kernel_rfl) (by kernel_rfl) rfl (by kernel_rfl) ⟨.mk h83, .mk h81, .mk h79, .mk h76, c78, c75, .mk h73, .mk h71, .mk h69, .mk h66, c68, c65, .mk h63, .mk h61, .mk h59, .mk h56, c58, c55, .mk h53, .mk h51, .mk h49, .mk h46, c48, c45, .mk h43, .mk h41, .mk h39, .mk h36, c38, c35, .mk h33, .mk h31, .mk h29, .mk h26, c28, c25, .mk h23, .mk h21, .mk h19, .mk h16, c18, c15, .mk h13, .mk h11, .mk h9, .mk h6, c8, c5, h4, .mk h2, .mk h0, trivial⟩

theorem run41 (ex : Bool) (l : List Int) (o n : Nat) (r45_0 : Int)
    (c1 : Contract0 Tryd.prog 50 [(.c (.sl 1 0 o n 1)), (.c (.int .i64 8))] [(1, (.one ⟨false, ex, (.ints .u8 l)⟩))] 2 (.tup [(.c (.int .u64 r45_0)), (.c (.bool (true)))]) [] []) :
    Contract0 Tryd.prog 44 [(.c (.sl 1 0 o n 1))] [(1, .one ⟨false, ex, .ints .u8 l⟩)] 2 (.tup [(.c (.int .u64 r45_0)), (.c (.bool (true)))]) [] [] :=
  Contract0.of_frun (fn := Tryd.f44) (c := bodyOf Tryd.f44) (fuel := 300) (k := kOf Tryd.prog Tryd.f44) (outs := []) (hs := [(3, ⟨.call [1] (.tup [(.c (.int .u64 r45_0)), (.c (.bool (true)))]) [] [], none⟩)])
    (cs := [Contract Tryd.prog 50 [(.c (.sl 1 0 o n 1)), (.c (.int .i64 8))] [(1, (.one ⟨false, ex, (.ints .u8 l)⟩))] 50 (.tup [(.c (.int .u64 r45_0)), (.c (.bool (true)))]) [] []])
    mixed Tryd.func44 (by kernel_rfl) (by kernel_rfl) (by kernel_rfl) rfl (by kernel_rfl) ⟨c1.ro [(1, (1, true))] rfl (by kernel_rfl) rfl (by kernel_rfl) rfl rfl _, trivial⟩

theorem run35_0 (b r41_0 : Int)
    (c1 : Contract0 Tryd.prog 44 [(.c (.sl 1 0 0 32 1))] [(1, (.one ⟨false, true, (.ints .u8 (W.bts b))⟩))] 2 (.tup [(.c (.int .u64 r41_0)), (.c (.bool (true)))]) [] []) :
    PureF Tryd.prog 34 [(.aggi .u8 (W.bts b)), (.c (.int .i64 0))] (.c (.int .u64 r41_0)) :=
  Contract0.of_frun (fn := Tryd.f34) (c := bodyOf Tryd.f34) (fuel := 300) (k := kOf Tryd.prog Tryd.f34) (outs := []) (hs := [(4, ⟨.call [1] (.tup [(.c (.int .u64 r41_0)), (.c (.bool (true)))]) [] [], none⟩)])
    (cs := [Contract Tryd.prog 44 [(.c (.sl 1 0 0 32 1))] [(1, (.one ⟨true, true, (.ints .u8 (W.bts b))⟩))] 65 (.tup [(.c (.int .u64 r41_0)), (.c (.bool (true)))]) [] []])
    mixed Tryd.func34 (by kernel_rfl) (by kernel_rfl) (by kernel_rfl) rfl (by kernel_rfl) ⟨c1.ro [(1, (1, true))] rfl (by kernel_rfl) rfl (by kernel_rfl) rfl rfl _, trivial⟩

theorem run35_6 (b r41_0 : Int)
    (c1 : Contract0 Tryd.prog 44 [(.c (.sl 1 0 6 26 1))] [(1, (.one ⟨false, true, (.ints .u8 (W.bts b))⟩))] 2 (.tup [(.c (.int .u64 r41_0)), (.c (.bool (true)))]) [] []) :
    PureF Tryd.prog 34 [(.aggi .u8 (W.bts b)), (.c (.int .i64 6))] (.c (.int .u64 r41_0)) :=
  Contract0.of_frun (fn := Tryd.f34) (c := bodyOf Tryd.f34) (fuel := 300) (k := kOf Tryd.prog Tryd.f34) (outs := []) (hs := [(4, ⟨.call [1] (.tup [(.c (.int .u64 r41_0)), (.c (.bool (true)))]) [] [], none⟩)])
    (cs := [Contract Tryd.prog 44 [(.c (.sl 1 0 6 26 1))] [(1, (.one ⟨true, true, (.ints .u8 (W.bts b))⟩))] 65 (.tup [(.c (.int .u64 r41_0)), (.c (.bool (true)))]) [] []])
    mixed Tryd.func34 (by kernel_rfl) (by kernel_rfl) (by kernel_rfl) rfl (by kernel_rfl) ⟨c1.ro [(1, (1, true))] rfl (by kernel_rfl) rfl (by kernel_rfl) rfl rfl _, trivial⟩

theorem run35_12 (b r41_0 : Int)
    (c1 : Contract0 Tryd.prog 44 [(.c (.sl 1 0 12 20 1))] [(1, (.one ⟨false, true, (.ints .u8 (W.bts b))⟩))] 2 (.tup [(.c (.int .u64 r41_0)), (.c (.bool (true)))]) [] []) :
    PureF Tryd.prog 34 [(.aggi .u8 (W.bts b)), (.c (.int .i64 12))] (.c (.int .u64 r41_0)) :=
  Contract0.of_frun (fn := Tryd.f34) (c := bodyOf Tryd.f34) (fuel := 300) (k := kOf Tryd.prog Tryd.f34) (outs := []) (hs := [(4, ⟨.call [1] (.tup [(.c (.int .u64 r41_0)), (.c (.bool (true)))]) [] [], none⟩)])
    (cs := [Contract Tryd.prog 44 [(.c (.sl 1 0 12 20 1))] [(1, (.one ⟨true, true, (.ints .u8 (W.bts b))⟩))] 65 (.tup [(.c (.int .u64 r41_0)), (.c (.bool (true)))]) [] []])
    mixed Tryd.func34 (by kernel_rfl) (by kernel_rfl) (by kernel_rfl) rfl (by kernel_rfl) ⟨c1.ro [(1, (1, true))] rfl (by kernel_rfl) rfl (by kernel_rfl) rfl rfl _, trivial⟩

theorem run35_19 (b r41_0 : Int)
    (c1 : Contract0 Tryd.prog 44 [(.c (.sl 1 0 19 13 1))] [(1, (.one ⟨false, true, (.ints .u8 (W.bts b))⟩))] 2 (.tup [(.c (.int .u64 r41_0)), (.c (.bool (true)))]) [] []) :
    PureF Tryd.prog 34 [(.aggi .u8 (W.bts b)), (.c (.int .i64 19))] (.c (.int .u64 r41_0)) :=
  Contract0.of_frun (fn := Tryd.f34) (c := bodyOf Tryd.f34) (fuel := 300) (k := kOf Tryd.prog Tryd.f34) (outs := []) (hs := [(4, ⟨.call [1] (.tup [(.c (.int .u64 r41_0)), (.c (.bool (true)))]) [] [], none⟩)])
    (cs := [Contract Tryd.prog 44 [(.c (.sl 1 0 19 13 1))] [(1, (.one ⟨true, true, (.ints .u8 (W.bts b))⟩))] 65 (.tup [(.c (.int .u64 r41_0)), (.c (.bool (true)))]) [] []])
    mixed Tryd.func34 (by kernel_rfl) (by kernel_rfl) (by kernel_rfl) rfl (by kernel_rfl) ⟨c1.ro [(1, (1, true))] rfl (by kernel_rfl) rfl (by kernel_rfl) rfl rfl _, trivial⟩

theorem run35_24 (b r41_0 : Int)
    (c1 : Contract0 Tryd.prog 44 [(.c (.sl 1 0 24 8 1))] [(1, (.one ⟨false, true, (.ints .u8 (W.bts b))⟩))] 2 (.tup [(.c (.int .u64 r41_0)), (.c (.bool (true)))]) [] []) :
    PureF Tryd.prog 34 [(.aggi .u8 (W.bts b)), (.c (.int .i64 24))] (.c (.int .u64 r41_0)) :=
  Contract0.of_frun (fn := Tryd.f34) (c := bodyOf Tryd.f34) (fuel := 300) (k := kOf Tryd.prog Tryd.f34) (outs := []) (hs := [(4, ⟨.call [1] (.tup [(.c (.int .u64 r41_0)), (.c (.bool (true)))]) [] [], none⟩)])
    (cs := [Contract Tryd.prog 44 [(.c (.sl 1 0 24 8 1))] [(1, (.one ⟨true, true, (.ints .u8 (W.bts b))⟩))] 65 (.tup [(.c (.int .u64 r41_0)), (.c (.bool (true)))]) [] []])
    mixed Tryd.func34 (by kernel_rfl) (by kernel_rfl) (by kernel_rfl) rfl (by kernel_rfl) ⟨c1.ro [(1, (1, true))] rfl (by kernel_rfl) rfl (by kernel_rfl) rfl rfl _, trivial⟩

theorem run14 (b r35_0 x3 r35_4 x7 x9 r35_10 x13 x15 r35_16 x19 x21 r35_22 x25 x27 : Int)
    (c1 : PureF Tryd.prog 34 [(.aggi .u8 (Go.Proofs.YtkjbjgkjplmkhaaDoor.W.bts b)), (.c (.int .i64 0))] (.c (.int .u64 r35_0)))
    (h2 : (bAnd IntKind.u64 r35_0 2251799813685247) = x3)
    (c5 : PureF Tryd.prog 34 [(.aggi .u8 (Go.Proofs.YtkjbjgkjplmkhaaDoor.W.bts b)), (.c (.int .i64 6))] (.c (.int .u64 r35_4)))
    (h6 : (r35_4 / 8) = x7)
    (h8 : (bAnd IntKind.u64 x7 2251799813685247) = x9)
    (c11 : PureF Tryd.prog 34 [(.aggi .u8 (Go.Proofs.YtkjbjgkjplmkhaaDoor.W.bts b)), (.c (.int .i64 12))] (.c (.int .u64 r35_10)))
    (h12 : (r35_10 / 64) = x13)
    (h14 : (bAnd IntKind.u64 x13 2251799813685247) = x15)
    (c17 : PureF Tryd.prog 34 [(.aggi .u8 (Go.Proofs.YtkjbjgkjplmkhaaDoor.W.bts b)), (.c (.int .i64 19))] (.c (.int .u64 r35_16)))
    (h18 : (r35_16 / 2) = x19)
    (h20 : (bAnd IntKind.u64 x19 2251799813685247) = x21)
    (c23 : PureF Tryd.prog 34 [(.aggi .u8 (Go.Proofs.YtkjbjgkjplmkhaaDoor.W.bts b)), (.c (.int .i64 24))] (.c (.int .u64 r35_22)))
    (h24 : (r35_22 / 4096) = x25)
    (h26 : (bAnd IntKind.u64 x25 2251799813685247) = x27) :
    PureF Tryd.prog 8 [(.aggi .u8 (W.bts b))] (.aggi .u64 [x3, x9, x15, x21, x27]) :=
  Contract0.of_frun (fn := Tryd.f8) (c := bodyOf Tryd.f8) (fuel := 300) (k := kOf Tryd.prog Tryd.f8) (outs := []) (hs := [(3, ⟨.call [] (.c (.int .u64 r35_0)) [] [], none⟩), (4, ⟨.auto, some (.c (.int .u64 x3))⟩), (6, ⟨.call [] (.c (.int .u64 r35_4)) [] [], none⟩), (7, ⟨.auto, some (.c (.int .u64 x7))⟩), (8, ⟨.auto, some (.c (.int .u64 x9))⟩), (10, ⟨.call [] (.c (.int .u64 r35_10)) [] [], none⟩), (11, ⟨.auto, some (.c (.int .u64 x13))⟩), (12, ⟨.auto, some (.c (.int .u64 x15))⟩), (14, ⟨.call [] (.c (.int .u64 r35_16)) [] [], none⟩), (15, ⟨.auto, some (.c (.int .u64 x19))⟩), (16, ⟨.auto, some (.c (.int .u64 x21))⟩), (18, ⟨.call [] (.c (.int .u64 r35_22)) [] [], none⟩), (19, ⟨.auto, some (.c (.int .u64 x25))⟩), (20, ⟨.auto, some (.c (.int .u64 x27))⟩)])
    (cs := [EI .u64 (bAnd IntKind.u64 x25 2251799813685247) x27,
      EI .u64 (r35_22 / 4096) x25,
      Contract Tryd.prog 34 [(.aggi .u8 (Go.Proofs.YtkjbjgkjplmkhaaDoor.W.bts b)), (.c (.int .i64 24))] [] 289 (.c (.int .u64 r35_22)) [] [],
      EI .u64 (bAnd IntKind.u64 x19 2251799813685247) x21,
      EI .u64 (r35_16 / 2) x19,
      Contract Tryd.prog 34 [(.aggi .u8 (Go.Proofs.YtkjbjgkjplmkhaaDoor.W.bts b)), (.c (.int .i64 19))] [] 225 (.c (.int .u64 r35_16)) [] [],
      EI .u64 (bAnd IntKind.u64 x13 2251799813685247) x15,
      EI .u64 (r35_10 / 64) x13,
      Contract Tryd.prog 34 [(.aggi .u8 (Go.Proofs.YtkjbjgkjplmkhaaDoor.W.bts b)), (.c (.int .i64 12))] [] 161 (.c (.int .u64 r35_10)) [] [],
      EI .u64 (bAnd IntKind.u64 x7 2251799813685247) x9,
      EI .u64 (r35_4 / 8) x7,
      Contract Tryd.prog 34 [(.aggi .u8 (Go.Proofs.YtkjbjgkjplmkhaaDoor.W.bts b)), (.c (.int .i64 6))] [] 97 (.c (.int .u64 r35_4)) [] [],
      EI .u64 (bAnd IntKind.u64 r35_0 2251799813685247) x3,
      Contract Tryd.prog 34 [(.aggi .u8 (Go.Proofs.YtkjbjgkjplmkhaaDoor.W.bts b)), (.c (.int .i64 0))] [] 49 (.c (.int .u64 r35_0)) [] []])
    mixed Tryd.func8 (by kernel_rfl) (by kernel_rfl) (by kernel_rfl) rfl (by kernel_rfl) ⟨.mk h26, .mk h24, c23.use (by kernel_rfl) rfl rfl _ _, .mk h20, .mk h18, c17.use (by kernel_rfl) rfl rfl _ _, .mk h14, .mk h12, c11.use (by kernel_rfl) rfl rfl _ _, .mk h8, .mk h6, c5.use (by kernel_rfl) rfl rfl _ _, .mk h2, c1.use (by kernel_rfl) rfl rfl _ _, trivial⟩

theorem run36 (a0 a1 a2 a3 a4 x1 x3 x5 x7 x9 x11 x13 x15 x17 x19 x21 x23 x25 x27 x29 x31 x33 : Int)
    (h0 : (a4 / 2251799813685248) = x1)
    (h2 : (x1 * 19 % 18446744073709551616) = x3)
    (h4 : (bAnd IntKind.u64 a0 2251799813685247) = x5)
    (h6 : ((x5 + x3) % 18446744073709551616) = x7)
    (h8 : (a0 / 2251799813685248) = x9)
    (h10 : (bAnd IntKind.u64 a1 2251799813685247) = x11)
    (h12 : ((x11 + x9) % 18446744073709551616) = x13)
    (h14 : (a1 / 2251799813685248) = x15)
    (h16 : (bAnd IntKind.u64 a2 2251799813685247) = x17)
    (h18 : ((x17 + x15) % 18446744073709551616) = x19)
    (h20 : (a2 / 2251799813685248) = x21)
    (h22 : (bAnd IntKind.u64 a3 2251799813685247) = x23)
    (h24 : ((x23 + x21) % 18446744073709551616) = x25)
    (h26 : (a3 / 2251799813685248) = x27)
    (h28 : (bAnd IntKind.u64 a4 2251799813685247) = x29)
    (h30 : ((x29 + x27) % 18446744073709551616) = x31)
    (h32 : (a4 / 2251799813685248) = x33) :
    PureF Tryd.prog 39 [(.aggi .u64 [a0, a1, a2, a3, a4])] (.aggi .u64 [x7, x13, x19, x25, x31]) :=
  Contract0.of_frun (fn := Tryd.f39) (c := bodyOf Tryd.f39) (fuel := 300) (k := kOf Tryd.prog Tryd.f39) (outs := []) (hs := [(6, ⟨.auto, some (.c (.int .u64 x1))⟩), (7, ⟨.auto, some (.c (.int .u64 x3))⟩), (20, ⟨.auto, some (.c (.int .u64 x5))⟩), (22, ⟨.auto, some (.c (.int .u64 x7))⟩), (27, ⟨.auto, some (.c (.int .u64 x9))⟩), (39, ⟨.auto, some (.c (.int .u64 x11))⟩), (41, ⟨.auto, some (.c (.int .u64 x13))⟩), (46, ⟨.auto, some (.c (.int .u64 x15))⟩), (58, ⟨.auto, some (.c (.int .u64 x17))⟩), (60, ⟨.auto, some (.c (.int .u64 x19))⟩), (65, ⟨.auto, some (.c (.int .u64 x21))⟩), (77, ⟨.auto, some (.c (.int .u64 x23))⟩), (79, ⟨.auto, some (.c (.int .u64 x25))⟩), (84, ⟨.auto, some (.c (.int .u64 x27))⟩), (96, ⟨.auto, some (.c (.int .u64 x29))⟩), (98, ⟨.auto, some (.c (.int .u64 x31))⟩), (103, ⟨.auto, some (.c (.int .u64 x33))⟩)])
    (cs := [EI .u64 (a4 / 2251799813685248) x33,
      EI .u64 ((x29 + x27) % 18446744073709551616) x31,
      EI .u64 (bAnd IntKind.u64 a4 2251799813685247) x29,
      EI .u64 (a3 / 2251799813685248) x27,
      EI .u64 ((x23 + x21) % 18446744073709551616) x25,
      EI .u64 (bAnd IntKind.u64 a3 2251799813685247) x23,
      EI .u64 (a2 / 2251799813685248) x21,
      EI .u64 ((x17 + x15) % 18446744073709551616) x19,
      EI .u64 (bAnd IntKind.u64 a2 2251799813685247) x17,
      EI .u64 (a1 / 2251799813685248) x15,
      EI .u64 ((x11 + x9) % 18446744073709551616) x13,
      EI .u64 (bAnd IntKind.u64 a1 2251799813685247) x11,
      EI .u64 (a0 / 2251799813685248) x9,
      EI .u64 ((x5 + x3) % 18446744073709551616) x7,
      EI .u64 (bAnd IntKind.u64 a0 2251799813685247) x5,
      EI .u64 (x1 * 19 % 18446744073709551616) x3,
      EI .u64 (a4 / 2251799813685248) x1])
    mixed Tryd.func39 (by kernel_rfl) (by kernel_rfl) (by kernel_rfl) rfl (by kernel_rfl) ⟨.mk h32, .mk h30, .mk h28, .mk h26, .mk h24, .mk h22, .mk h20, .mk h18, .mk h16, .mk h14, .mk h12, .mk h10, .mk h8, .mk h6, .mk h4, .mk h2, .mk h0, trivial⟩

theorem run16 (a0 a1 a2 a3 a4 r36_0 r36_1 r36_2 r36_3 r36_4 r36_6 r36_7 r36_8 r36_9 r36_10 x13 x15 x17 x19 x21 x23 x25 x27 x29 x31 x33 x35 x37 x39 x41 x43 x45 x47 x49 x51 x53 x55 x57 x59 x61 x63 x65 x67 x69 x71 x73 x75 x77 x79 x81 x83 x85 x87 x89 x91 x93 x95 x97 x99 x101 x103 x105 x107 x109 x111 x113 x115 x117 x119 x121 x123 x125 x127 x129 x131 x133 x135 x137 x139 x141 x143 x145 x147 x149 x151 x153 x155 x157 x159 x161 x163 x165 x167 x169 x171 x173 x175 x177 x179 x181 x183 x185 x187 x189 x191 x193 x195 x197 x199 x201 x203 x205 x207 : Int)
    (c5 : PureF Tryd.prog 39 [(.aggi .u64 [a0, a1, a2, a3, a4])] (.aggi .u64 [r36_0, r36_1, r36_2, r36_3, r36_4]))
    (c11 : PureF Tryd.prog 39 [(.aggi .u64 [r36_0, r36_1, r36_2, r36_3, r36_4])] (.aggi .u64 [r36_6, r36_7, r36_8, r36_9, r36_10]))
    (h12 : ((r36_6 + 19) % 18446744073709551616) = x13)
    (h14 : (x13 / 2251799813685248) = x15)
    (h16 : ((r36_7 + x15) % 18446744073709551616) = x17)
    (h18 : (x17 / 2251799813685248) = x19)
    (h20 : ((r36_8 + x19) % 18446744073709551616) = x21)
    (h22 : (x21 / 2251799813685248) = x23)
    (h24 : ((r36_9 + x23) % 18446744073709551616) = x25)
    (h26 : (x25 / 2251799813685248) = x27)
    (h28 : ((r36_10 + x27) % 18446744073709551616) = x29)
    (h30 : (x29 / 2251799813685248) = x31)
    (h32 : (19 * x31 % 18446744073709551616) = x33)
    (h34 : ((r36_6 + x33) % 18446744073709551616) = x35)
    (h36 : (x35 / 2251799813685248) = x37)
    (h38 : (bAnd IntKind.u64 x35 2251799813685247) = x39)
    (h40 : ((r36_7 + x37) % 18446744073709551616) = x41)
    (h42 : (x41 / 2251799813685248) = x43)
    (h44 : (bAnd IntKind.u64 x41 2251799813685247) = x45)
    (h46 : ((r36_8 + x43) % 18446744073709551616) = x47)
    (h48 : (x47 / 2251799813685248) = x49)
    (h50 : (bAnd IntKind.u64 x47 2251799813685247) = x51)
    (h52 : ((r36_9 + x49) % 18446744073709551616) = x53)
    (h54 : (x53 / 2251799813685248) = x55)
    (h56 : (bAnd IntKind.u64 x53 2251799813685247) = x57)
    (h58 : ((r36_10 + x55) % 18446744073709551616) = x59)
    (h60 : (x59 / 2251799813685248) = x61)
    (h62 : (bAnd IntKind.u64 x59 2251799813685247) = x63)
    (h64 : (x39 / 1) = x65)
    (h66 : (x65 % 256) = x67)
    (h68 : (x39 / 256) = x69)
    (h70 : (x69 % 256) = x71)
    (h72 : (x39 / 65536) = x73)
    (h74 : (x73 % 256) = x75)
    (h76 : (x39 / 16777216) = x77)
    (h78 : (x77 % 256) = x79)
    (h80 : (x39 / 4294967296) = x81)
    (h82 : (x81 % 256) = x83)
    (h84 : (x39 / 1099511627776) = x85)
    (h86 : (x85 % 256) = x87)
    (h88 : (x39 / 281474976710656) = x89)
    (h90 : (x45 * 8 % 18446744073709551616) = x91)
    (h92 : (bOr IntKind.u64 x89 x91) = x93)
    (h94 : (x93 % 256) = x95)
    (h96 : (x45 / 32) = x97)
    (h98 : (x97 % 256) = x99)
    (h100 : (x45 / 8192) = x101)
    (h102 : (x101 % 256) = x103)
    (h104 : (x45 / 2097152) = x105)
    (h106 : (x105 % 256) = x107)
    (h108 : (x45 / 536870912) = x109)
    (h110 : (x109 % 256) = x111)
    (h112 : (x45 / 137438953472) = x113)
    (h114 : (x113 % 256) = x115)
    (h116 : (x45 / 35184372088832) = x117)
    (h118 : (x51 * 64 % 18446744073709551616) = x119)
    (h120 : (bOr IntKind.u64 x117 x119) = x121)
    (h122 : (x121 % 256) = x123)
    (h124 : (x51 / 4) = x125)
    (h126 : (x125 % 256) = x127)
    (h128 : (x51 / 1024) = x129)
    (h130 : (x129 % 256) = x131)
    (h132 : (x51 / 262144) = x133)
    (h134 : (x133 % 256) = x135)
    (h136 : (x51 / 67108864) = x137)
    (h138 : (x137 % 256) = x139)
    (h140 : (x51 / 17179869184) = x141)
    (h142 : (x141 % 256) = x143)
    (h144 : (x51 / 4398046511104) = x145)
    (h146 : (x145 % 256) = x147)
    (h148 : (x51 / 1125899906842624) = x149)
    (h150 : (x57 * 2 % 18446744073709551616) = x151)
    (h152 : (bOr IntKind.u64 x149 x151) = x153)
    (h154 : (x153 % 256) = x155)
    (h156 : (x57 / 128) = x157)
    (h158 : (x157 % 256) = x159)
    (h160 : (x57 / 32768) = x161)
    (h162 : (x161 % 256) = x163)
    (h164 : (x57 / 8388608) = x165)
    (h166 : (x165 % 256) = x167)
    (h168 : (x57 / 2147483648) = x169)
    (h170 : (x169 % 256) = x171)
    (h172 : (x57 / 549755813888) = x173)
    (h174 : (x173 % 256) = x175)
    (h176 : (x57 / 140737488355328) = x177)
    (h178 : (x63 * 16 % 18446744073709551616) = x179)
    (h180 : (bOr IntKind.u64 x177 x179) = x181)
    (h182 : (x181 % 256) = x183)
    (h184 : (x63 / 16) = x185)
    (h186 : (x185 % 256) = x187)
    (h188 : (x63 / 4096) = x189)
    (h190 : (x189 % 256) = x191)
    (h192 : (x63 / 1048576) = x193)
    (h194 : (x193 % 256) = x195)
    (h196 : (x63 / 268435456) = x197)
    (h198 : (x197 % 256) = x199)
    (h200 : (x63 / 68719476736) = x201)
    (h202 : (x201 % 256) = x203)
    (h204 : (x63 / 17592186044416) = x205)
    (h206 : (x205 % 256) = x207) :
    PureF Tryd.prog 12 [(.aggi .u64 [a0, a1, a2, a3, a4])] (.aggi .u8 [x67, x71, x75, x79, x83, x87, x95, x99, x103, x107, x111, x115, x123, x127, x131, x135, x139, x143, x147, x155, x159, x163, x167, x171, x175, x183, x187, x191, x195, x199, x203, x207]) :=
  Contract0.of_frun (fn := Tryd.f12) (c := bodyOf Tryd.f12) (fuel := 300) (k := kOf Tryd.prog Tryd.f12) (outs := []) (hs := [(3, ⟨.call [] (.aggi .u64 [r36_0, r36_1, r36_2, r36_3, r36_4]) [] [], none⟩), (4, ⟨.call [] (.aggi .u64 [r36_6, r36_7, r36_8, r36_9, r36_10]) [] [], none⟩), (9, ⟨.auto, some (.c (.int .u64 x13))⟩), (10, ⟨.auto, some (.c (.int .u64 x15))⟩), (21, ⟨.auto, some (.c (.int .u64 x17))⟩), (22, ⟨.auto, some (.c (.int .u64 x19))⟩), (35, ⟨.auto, some (.c (.int .u64 x21))⟩), (36, ⟨.auto, some (.c (.int .u64 x23))⟩), (49, ⟨.auto, some (.c (.int .u64 x25))⟩), (50, ⟨.auto, some (.c (.int .u64 x27))⟩), (63, ⟨.auto, some (.c (.int .u64 x29))⟩), (64, ⟨.auto, some (.c (.int .u64 x31))⟩), (73, ⟨.auto, some (.c (.int .u64 x33))⟩), (85, ⟨.auto, some (.c (.int .u64 x35))⟩), (93, ⟨.auto, some (.c (.int .u64 x37))⟩), (99, ⟨.auto, some (.c (.int .u64 x39))⟩), (114, ⟨.auto, some (.c (.int .u64 x41))⟩), (122, ⟨.auto, some (.c (.int .u64 x43))⟩), (128, ⟨.auto, some (.c (.int .u64 x45))⟩), (143, ⟨.auto, some (.c (.int .u64 x47))⟩), (151, ⟨.auto, some (.c (.int .u64 x49))⟩), (157, ⟨.auto, some (.c (.int .u64 x51))⟩), (172, ⟨.auto, some (.c (.int .u64 x53))⟩), (180, ⟨.auto, some (.c (.int .u64 x55))⟩), (186, ⟨.auto, some (.c (.int .u64 x57))⟩), (201, ⟨.auto, some (.c (.int .u64 x59))⟩), (209, ⟨.auto, some (.c (.int .u64 x61))⟩), (215, ⟨.auto, some (.c (.int .u64 x63))⟩), (243, ⟨.auto, some (.c (.int .u64 x65))⟩), (254, ⟨.auto, some (.c (.int .u8 x67))⟩), (277, ⟨.auto, some (.c (.int .u64 x69))⟩), (288, ⟨.auto, some (.c (.int .u8 x71))⟩), (311, ⟨.auto, some (.c (.int .u64 x73))⟩), (322, ⟨.auto, some (.c (.int .u8 x75))⟩), (345, ⟨.auto, some (.c (.int .u64 x77))⟩), (356, ⟨.auto, some (.c (.int .u8 x79))⟩), (379, ⟨.auto, some (.c (.int .u64 x81))⟩), (390, ⟨.auto, some (.c (.int .u8 x83))⟩), (413, ⟨.auto, some (.c (.int .u64 x85))⟩), (424, ⟨.auto, some (.c (.int .u8 x87))⟩), (447, ⟨.auto, some (.c (.int .u64 x89))⟩), (464, ⟨.auto, some (.c (.int .u64 x91))⟩), (465, ⟨.auto, some (.c (.int .u64 x93))⟩), (469, ⟨.auto, some (.c (.int .u8 x95))⟩), (492, ⟨.auto, some (.c (.int .u64 x97))⟩), (503, ⟨.auto, some (.c (.int .u8 x99))⟩), (526, ⟨.auto, some (.c (.int .u64 x101))⟩), (537, ⟨.auto, some (.c (.int .u8 x103))⟩), (560, ⟨.auto, some (.c (.int .u64 x105))⟩), (571, ⟨.auto, some (.c (.int .u8 x107))⟩), (594, ⟨.auto, some (.c (.int .u64 x109))⟩), (605, ⟨.auto, some (.c (.int .u8 x111))⟩), (628, ⟨.auto, some (.c (.int .u64 x113))⟩), (639, ⟨.auto, some (.c (.int .u8 x115))⟩), (662, ⟨.auto, some (.c (.int .u64 x117))⟩), (679, ⟨.auto, some (.c (.int .u64 x119))⟩), (680, ⟨.auto, some (.c (.int .u64 x121))⟩), (684, ⟨.auto, some (.c (.int .u8 x123))⟩), (707, ⟨.auto, some (.c (.int .u64 x125))⟩), (718, ⟨.auto, some (.c (.int .u8 x127))⟩), (741, ⟨.auto, some (.c (.int .u64 x129))⟩), (752, ⟨.auto, some (.c (.int .u8 x131))⟩), (775, ⟨.auto, some (.c (.int .u64 x133))⟩), (786, ⟨.auto, some (.c (.int .u8 x135))⟩), (809, ⟨.auto, some (.c (.int .u64 x137))⟩), (820, ⟨.auto, some (.c (.int .u8 x139))⟩), (843, ⟨.auto, some (.c (.int .u64 x141))⟩), (854, ⟨.auto, some (.c (.int .u8 x143))⟩), (877, ⟨.auto, some (.c (.int .u64 x145))⟩), (888, ⟨.auto, some (.c (.int .u8 x147))⟩), (911, ⟨.auto, some (.c (.int .u64 x149))⟩), (928, ⟨.auto, some (.c (.int .u64 x151))⟩), (929, ⟨.auto, some (.c (.int .u64 x153))⟩), (933, ⟨.auto, some (.c (.int .u8 x155))⟩), (956, ⟨.auto, some (.c (.int .u64 x157))⟩), (967, ⟨.auto, some (.c (.int .u8 x159))⟩), (990, ⟨.auto, some (.c (.int .u64 x161))⟩), (1001, ⟨.auto, some (.c (.int .u8 x163))⟩), (1024, ⟨.auto, some (.c (.int .u64 x165))⟩), (1035, ⟨.auto, some (.c (.int .u8 x167))⟩), (1058, ⟨.auto, some (.c (.int .u64 x169))⟩), (1069, ⟨.auto, some (.c (.int .u8 x171))⟩), (1092, ⟨.auto, some (.c (.int .u64 x173))⟩), (1103, ⟨.auto, some (.c (.int .u8 x175))⟩), (1126, ⟨.auto, some (.c (.int .u64 x177))⟩), (1143, ⟨.auto, some (.c (.int .u64 x179))⟩), (1144, ⟨.auto, some (.c (.int .u64 x181))⟩), (1148, ⟨.auto, some (.c (.int .u8 x183))⟩), (1171, ⟨.auto, some (.c (.int .u64 x185))⟩), (1182, ⟨.auto, some (.c (.int .u8 x187))⟩), (1205, ⟨.auto, some (.c (.int .u64 x189))⟩), (1216, ⟨.auto, some (.c (.int .u8 x191))⟩), (1239, ⟨.auto, some (.c (.int .u64 x193))⟩), (1250, ⟨.auto, some (.c (.int .u8 x195))⟩), (1273, ⟨.auto, some (.c (.int .u64 x197))⟩), (1284, ⟨.auto, some (.c (.int .u8 x199))⟩), (1307, ⟨.auto, some (.c (.int .u64 x201))⟩), (1318, ⟨.auto, some (.c (.int .u8 x203))⟩), (1341, ⟨.auto, some (.c (.int .u64 x205))⟩), (1352, ⟨.auto, some (.c (.int .u8 x207))⟩)])
    (cs := [EI .u8 (x205 % 256) x207,
      EI .u64 (x63 / 17592186044416) x205,
      EI .u8 (x201 % 256) x203,
      EI .u64 (x63 / 68719476736) x201,
      EI .u8 (x197 % 256) x199,
      EI .u64 (x63 / 268435456) x197,
      EI .u8 (x193 % 256) x195,
      EI .u64 (x63 / 1048576) x193,
      EI .u8 (x189 % 256) x191,
      EI .u64 (x63 / 4096) x189,
      EI .u8 (x185 % 256) x187,
      EI .u64 (x63 / 16) x185,
      EI .u8 (x181 % 256) x183,
      EI .u64 (bOr IntKind.u64 x177 x179) x181,
      EI .u64 (x63 * 16 % 18446744073709551616) x179,
      EI .u64 (x57 / 140737488355328) x177,
      EI .u8 (x173 % 256) x175,
      EI .u64 (x57 / 549755813888) x173,
      EI .u8 (x169 % 256) x171,
      EI .u64 (x57 / 2147483648) x169,
      EI .u8 (x165 % 256) x167,
      EI .u64 (x57 / 8388608) x165,
      EI .u8 (x161 % 256) x163,
      EI .u64 (x57 / 32768) x161,
      EI .u8 (x157 % 256) x159,
      EI .u64 (x57 / 128) x157,
      EI .u8 (x153 % 256) x155,
      EI .u64 (bOr IntKind.u64 x149 x151) x153,
      EI .u64 (x57 * 2 % 18446744073709551616) x151,
      EI .u64 (x51 / 1125899906842624) x149,
      EI .u8 (x145 % 256) x147,
      EI .u64 (x51 / 4398046511104) x145,
      EI .u8 (x141 % 256) x143,
      EI .u64 (x51 / 17179869184) x141,
      EI .u8 (x137 % 256) x139,
      EI .u64 (x51 / 67108864) x137,
      EI .u8 (x133 % 256) x135,
      EI .u64 (x51 / 262144) x133,
      EI .u8 (x129 % 256) x131,
      EI .u64 (x51 / 1024) x129,
      EI .u8 (x125 % 256) x127,
      EI .u64 (x51 / 4) x125,
      EI .u8 (x121 % 256) x123,
      EI .u64 (bOr IntKind.u64 x117 x119) x121,
      EI .u64 (x51 * 64 % 18446744073709551616) x119,
      EI .u64 (x45 / 35184372088832) x117,
      EI .u8 (x113 % 256) x115,
      EI .u64 (x45 / 137438953472) x113,
      EI .u8 (x109 % 256) x111,
      EI .u64 (x45 / 536870912) x109,
      EI .u8 (x105 % 256) x107,
      EI .u64 (x45 / 2097152) x105,
      EI .u8 (x101 % 256) x103,
      EI .u64 (x45 / 8192) x101,
      EI .u8 (x97 % 256) x99,
      EI .u64 (x45 / 32) x97,
      EI .u8 (x93 % 256) x95,
      EI .u64 (bOr IntKind.u64 x89 x91) x93,
      EI .u64 (x45 * 8 % 18446744073709551616) x91,
      EI .u64 (x39 / 281474976710656) x89,
      EI .u8 (x85 % 256) x87,
      EI .u64 (x39 / 1099511627776) x85,
      EI .u8 (x81 % 256) x83,
      EI .u64 (x39 / 4294967296) x81,
      EI .u8 (x77 % 256) x79,
      EI .u64 (x39 / 16777216) x77,
      EI .u8 (x73 % 256) x75,
      EI .u64 (x39 / 65536) x73,
      EI .u8 (x69 % 256) x71,
      EI .u64 (x39 / 256) x69,
      EI .u8 (x65 % 256) x67,
      EI .u64 (x39 / 1) x65,
      EI .u64 (bAnd IntKind.u64 x59 2251799813685247) x63,
      EI .u64 (x59 / 2251799813685248) x61,
      EI .u64 ((r36_10 + x55) % 18446744073709551616) x59,
      EI .u64 (bAnd IntKind.u64 x53 2251799813685247) x57,
      EI .u64 (x53 / 2251799813685248) x55,
      EI .u64 ((r36_9 + x49) % 18446744073709551616) x53,
      EI .u64 (bAnd IntKind.u64 x47 2251799813685247) x51,
      EI .u64 (x47 / 2251799813685248) x49,
      EI .u64 ((r36_8 + x43) % 18446744073709551616) x47,
      EI .u64 (bAnd IntKind.u64 x41 2251799813685247) x45,
      EI .u64 (x41 / 2251799813685248) x43,
      EI .u64 ((r36_7 + x37) % 18446744073709551616) x41,
      EI .u64 (bAnd IntKind.u64 x35 2251799813685247) x39,
      EI .u64 (x35 / 2251799813685248) x37,
      EI .u64 ((r36_6 + x33) % 18446744073709551616) x35,
      EI .u64 (19 * x31 % 18446744073709551616) x33,
      EI .u64 (x29 / 2251799813685248) x31,
      EI .u64 ((r36_10 + x27) % 18446744073709551616) x29,
      EI .u64 (x25 / 2251799813685248) x27,
      EI .u64 ((r36_9 + x23) % 18446744073709551616) x25,
      EI .u64 (x21 / 2251799813685248) x23,
      EI .u64 ((r36_8 + x19) % 18446744073709551616) x21,
      EI .u64 (x17 / 2251799813685248) x19,
      EI .u64 ((r36_7 + x15) % 18446744073709551616) x17,
      EI .u64 (x13 / 2251799813685248) x15,
      EI .u64 ((r36_6 + 19) % 18446744073709551616) x13,
      Contract Tryd.prog 39 [(.aggi .u64 [r36_0, r36_1, r36_2, r36_3, r36_4])] [] 65 (.aggi .u64 [r36_6, r36_7, r36_8, r36_9, r36_10]) [] [],
      Contract Tryd.prog 39 [(.aggi .u64 [a0, a1, a2, a3, a4])] [] 49 (.aggi .u64 [r36_0, r36_1, r36_2, r36_3, r36_4]) [] []])
    mixed Tryd.func12 (by kernel_rfl) (by kernel_rfl) (by kernel_rfl) rfl (by kernel_rfl) ⟨.mk h206, .mk h204, .mk h202, .mk h200, .mk h198, .mk h196, .mk h194, .mk h192, .mk h190, .mk h188, .mk h186, .mk h184, .mk h182, .mk h180, .mk h178, .mk h176, .mk h174, .mk h172, .mk h170, .mk h168, .mk h166, .mk h164, .mk h162, .mk h160, .mk h158, .mk h156, .mk h154, .mk h152, .mk h150, .mk h148, .mk h146, .mk h144, .mk h142, .mk h140, .mk h138, .mk h136, .mk h134, .mk h132, .mk h130, .mk h128, .mk h126, .mk h124, .mk h122, .mk h120, .mk h118, .mk h116, .mk h114, .mk h112, .mk h110, .mk h108, .mk h106, .mk h104, .mk h102, .mk h100, .mk h98, .mk h96, .mk h94, .mk h92, .mk h90, .mk h88, .mk h86, .mk h84, .mk h82, .mk h80, .mk h78, .mk h76, .mk h74, .mk h72, .mk h70, .mk h68, .mk h66, .mk h64, .mk h62, .mk h60, .mk h58, .mk h56, .mk h54, .mk h52, .mk h50, .mk h48, .mk h46, .mk h44, .mk h42, .mk h40, .mk h38, .mk h36, .mk h34, .mk h32, .mk h30, .mk h28, .mk h26, .mk h24, .mk h22, .mk h20, .mk h18, .mk h16, .mk h14, .mk h12, c11.use (by kernel_rfl) rfl rfl _ _, c5.use (by kernel_rfl) rfl rfl _ _, trivial⟩

theorem run24 :
    PureF Tryd.prog 36 [] (.aggi .u64 [0, 0, 0, 0, 0]) :=
  Contract0.of_frun (fn := Tryd.f36) (c := bodyOf Tryd.f36) (fuel := 300) (k := kOf Tryd.prog Tryd.f36) (outs := []) (hs := [])
    (cs := [])
    mixed Tryd.func36 (by kernel_rfl) (by kernel_rfl) (by kernel_rfl) rfl (by kernel_rfl) trivial

theorem run28 :
    PureF Tryd.prog 37 [] (.aggi .u64 [1, 0, 0, 0, 0]) :=
  Contract0.of_frun (fn := Tryd.f37) (c := bodyOf Tryd.f37) (fuel := 300) (k := kOf Tryd.prog Tryd.f37) (outs := []) (hs := [])
    (cs := [])
    mixed Tryd.func37 (by kernel_rfl) (by kernel_rfl) (by kernel_rfl) rfl (by kernel_rfl) trivial

theorem run23 (a0 a1 a2 a3 a4 b0 b1 b2 b3 b4 r36_0 r36_1 r36_2 r36_3 r36_4 x7 x9 x11 x13 x15 x17 x19 x21 x23 x25 r36_26 r36_27 r36_28 r36_29 r36_30 : Int)
    (c5 : PureF Tryd.prog 39 [(.aggi .u64 [b0, b1, b2, b3, b4])] (.aggi .u64 [r36_0, r36_1, r36_2, r36_3, r36_4]))
    (h6 : ((9007199254740916 - r36_0) % 18446744073709551616) = x7)
    (h8 : ((a0 + x7) % 18446744073709551616) = x9)
    (h10 : ((9007199254740988 - r36_1) % 18446744073709551616) = x11)
    (h12 : ((a1 + x11) % 18446744073709551616) = x13)
    (h14 : ((9007199254740988 - r36_2) % 18446744073709551616) = x15)
    (h16 : ((a2 + x15) % 18446744073709551616) = x17)
    (h18 : ((9007199254740988 - r36_3) % 18446744073709551616) = x19)
    (h20 : ((a3 + x19) % 18446744073709551616) = x21)
    (h22 : ((9007199254740988 - r36_4) % 18446744073709551616) = x23)
    (h24 : ((a4 + x23) % 18446744073709551616) = x25)
    (c31 : PureF Tryd.prog 39 [(.aggi .u64 [x9, x13, x17, x21, x25])] (.aggi .u64 [r36_26, r36_27, r36_28, r36_29, r36_30])) :
    PureF Tryd.prog 19 [(.aggi .u64 [a0, a1, a2, a3, a4]), (.aggi .u64 [b0, b1, b2, b3, b4])] (.aggi .u64 [r36_26, r36_27, r36_28, r36_29, r36_30]) :=
  Contract0.of_frun (fn := Tryd.f19) (c := bodyOf Tryd.f19) (fuel := 300) (k := kOf Tryd.prog Tryd.f19) (outs := []) (hs := [(4, ⟨.call [] (.aggi .u64 [r36_0, r36_1, r36_2, r36_3, r36_4]) [] [], none⟩), (27, ⟨.auto, some (.c (.int .u64 x7))⟩), (28, ⟨.auto, some (.c (.int .u64 x9))⟩), (51, ⟨.auto, some (.c (.int .u64 x11))⟩), (52, ⟨.auto, some (.c (.int .u64 x13))⟩), (75, ⟨.auto, some (.c (.int .u64 x15))⟩), (76, ⟨.auto, some (.c (.int .u64 x17))⟩), (99, ⟨.auto, some (.c (.int .u64 x19))⟩), (100, ⟨.auto, some (.c (.int .u64 x21))⟩), (123, ⟨.auto, some (.c (.int .u64 x23))⟩), (124, ⟨.auto, some (.c (.int .u64 x25))⟩), (133, ⟨.call [] (.aggi .u64 [r36_26, r36_27, r36_28, r36_29, r36_30]) [] [], none⟩)])
    (cs := [Contract Tryd.prog 39 [(.aggi .u64 [x9, x13, x17, x21, x25])] [] 1953 (.aggi .u64 [r36_26, r36_27, r36_28, r36_29, r36_30]) [] [],
      EI .u64 ((a4 + x23) % 18446744073709551616) x25,
      EI .u64 ((9007199254740988 - r36_4) % 18446744073709551616) x23,
      EI .u64 ((a3 + x19) % 18446744073709551616) x21,
      EI .u64 ((9007199254740988 - r36_3) % 18446744073709551616) x19,
      EI .u64 ((a2 + x15) % 18446744073709551616) x17,
      EI .u64 ((9007199254740988 - r36_2) % 18446744073709551616) x15,
      EI .u64 ((a1 + x11) % 18446744073709551616) x13,
      EI .u64 ((9007199254740988 - r36_1) % 18446744073709551616) x11,
      EI .u64 ((a0 + x7) % 18446744073709551616) x9,
      EI .u64 ((9007199254740916 - r36_0) % 18446744073709551616) x7,
      Contract Tryd.prog 39 [(.aggi .u64 [b0, b1, b2, b3, b4])] [] 65 (.aggi .u64 [r36_0, r36_1, r36_2, r36_3, r36_4]) [] []])
    mixed Tryd.func19 (by kernel_rfl) (by kernel_rfl) (by kernel_rfl) rfl (by kernel_rfl) ⟨c31.use (by kernel_rfl) rfl rfl _ _, .mk h24, .mk h22, .mk h20, .mk h18, .mk h16, .mk h14, .mk h12, .mk h10, .mk h8, .mk h6, c5.use (by kernel_rfl) rfl rfl _ _, trivial⟩

theorem run25a (a b x1 x5 : Int)
    (h0 : (Int.tmod a b) = x1)
    (c2 : (b ≠ (0 : Int)))
    (h3 : (decide (x1 < 0)) = true)
    (h4 : (IntKind.wrap IntKind.i64 (x1 + b)) = x5) :
    PureF Tryd.prog 23 [(.c (.int .i64 a)), (.c (.int .i64 b))] (.c (.int .i64 x5)) :=
  Contract0.of_frun (fn := Tryd.f23) (c := bodyOf Tryd.f23) (fuel := 300) (k := kOf Tryd.prog Tryd.f23) (outs := []) (hs := [(3, ⟨.ask, some (.c (.int .i64 x1))⟩), (6, ⟨.auto, some (.c (.bool (true)))⟩), (10, ⟨.auto, some (.c (.int .i64 x5))⟩)])
    (cs := [EI .i64 (IntKind.wrap IntKind.i64 (x1 + b)) x5,
      EB (decide (x1 < 0)) true,
      EI .i64 (Int.tmod a b) x1,
      (b ≠ (0 : Int))])
    mixed Tryd.func23 (by kernel_rfl) (by kernel_rfl) (by kernel_rfl) rfl (by kernel_rfl) ⟨.mk h4, .mk h3, .mk h0, c2, trivial⟩

theorem run25b (a b x1 : Int)
    (h0 : (Int.tmod a b) = x1)
    (c2 : (b ≠ (0 : Int)))
    (h3 : (decide (x1 < 0)) = false) :
    PureF Tryd.prog 23 [(.c (.int .i64 a)), (.c (.int .i64 b))] (.c (.int .i64 x1)) :=
  Contract0.of_frun (fn := Tryd.f23) (c := bodyOf Tryd.f23) (fuel := 300) (k := kOf Tryd.prog Tryd.f23) (outs := []) (hs := [(3, ⟨.ask, some (.c (.int .i64 x1))⟩), (6, ⟨.auto, some (.c (.bool (false)))⟩)])
    (cs := [EB (decide (x1 < 0)) false,
      EI .i64 (Int.tmod a b) x1,
      (b ≠ (0 : Int))])
    mixed Tryd.func23 (by kernel_rfl) (by kernel_rfl) (by kernel_rfl) rfl (by kernel_rfl) ⟨.mk h3, .mk h0, c2, trivial⟩

theorem run37 (a b x1 x3 x5 x7 x9 x11 x13 x15 x17 x19 x21 x23 x25 x27 x29 x31 x33 x35 x37 x39 x41 x43 x45 x47 x49 x51 x53 x55 x57 x59 x61 x63 x65 x67 x69 x71 x73 x75 x77 x79 x81 x83 x85 x87 x89 x91 x93 x95 x97 x99 x101 x103 x105 x107 x109 x111 x113 x115 x117 x119 x121 x123 x125 x127 x129 x131 x133 x135 x137 x139 x141 x143 x145 x147 x149 x151 x153 x155 x157 x159 x161 x163 x165 x167 x169 x171 x173 x175 x177 x179 x181 x183 x185 x187 x189 x191 x193 x195 x197 x199 x201 x203 x205 x207 x209 x211 x213 x215 x217 x219 x221 x223 x225 x227 x229 x231 x233 x235 x237 x239 x241 x243 x245 x247 x249 x251 x253 x255 : Int) (q257 : Bool)
    (h0 : (List.getD (W.bts a) 0 0) = x1)
    (h2 : (List.getD (W.bts b) 0 0) = x3)
    (h4 : (bXor IntKind.u8 x1 x3) = x5)
    (h6 : (bOr IntKind.u8 0 x5) = x7)
    (h8 : (List.getD (W.bts a) 1 0) = x9)
    (h10 : (List.getD (W.bts b) 1 0) = x11)
    (h12 : (bXor IntKind.u8 x9 x11) = x13)
    (h14 : (bOr IntKind.u8 x7 x13) = x15)
    (h16 : (List.getD (W.bts a) 2 0) = x17)
    (h18 : (List.getD (W.bts b) 2 0) = x19)
    (h20 : (bXor IntKind.u8 x17 x19) = x21)
    (h22 : (bOr IntKind.u8 x15 x21) = x23)
    (h24 : (List.getD (W.bts a) 3 0) = x25)
    (h26 : (List.getD (W.bts b) 3 0) = x27)
    (h28 : (bXor IntKind.u8 x25 x27) = x29)
    (h30 : (bOr IntKind.u8 x23 x29) = x31)
    (h32 : (List.getD (W.bts a) 4 0) = x33)
    (h34 : (List.getD (W.bts b) 4 0) = x35)
    (h36 : (bXor IntKind.u8 x33 x35) = x37)
    (h38 : (bOr IntKind.u8 x31 x37) = x39)
    (h40 : (List.getD (W.bts a) 5 0) = x41)
    (h42 : (List.getD (W.bts b) 5 0) = x43)
    (h44 : (bXor IntKind.u8 x41 x43) = x45)
    (h46 : (bOr IntKind.u8 x39 x45) = x47)
    (h48 : (List.getD (W.bts a) 6 0) = x49)
    (h50 : (List.getD (W.bts b) 6 0) = x51)
    (h52 : (bXor IntKind.u8 x49 x51) = x53)
    (h54 : (bOr IntKind.u8 x47 x53) = x55)
    (h56 : (List.getD (W.bts a) 7 0) = x57)
    (h58 : (List.getD (W.bts b) 7 0) = x59)
    (h60 : (bXor IntKind.u8 x57 x59) = x61)
    (h62 : (bOr IntKind.u8 x55 x61) = x63)
    (h64 : (List.getD (W.bts a) 8 0) = x65)
    (h66 : (List.getD (W.bts b) 8 0) = x67)
    (h68 : (bXor IntKind.u8 x65 x67) = x69)
    (h70 : (bOr IntKind.u8 x63 x69) = x71)
    (h72 : (List.getD (W.bts a) 9 0) = x73)
    (h74 : (List.getD (W.bts b) 9 0) = x75)
    (h76 : (bXor IntKind.u8 x73 x75) = x77)
    (h78 : (bOr IntKind.u8 x71 x77) = x79)
    (h80 : (List.getD (W.bts a) 10 0) = x81)
    (h82 : (List.getD (W.bts b) 10 0) = x83)
    (h84 : (bXor IntKind.u8 x81 x83) = x85)
    (h86 : (bOr IntKind.u8 x79 x85) = x87)
    (h88 : (List.getD (W.bts a) 11 0) = x89)
    (h90 : (List.getD (W.bts b) 11 0) = x91)
    (h92 : (bXor IntKind.u8 x89 x91) = x93)
    (h94 : (bOr IntKind.u8 x87 x93) = x95)
    (h96 : (List.getD (W.bts a) 12 0) = x97)
    (h98 : (List.getD (W.bts b) 12 0) = x99)
    (h100 : (bXor IntKind.u8 x97 x99) = x101)
    (h102 : (bOr IntKind.u8 x95 x101) = x103)
    (h104 : (List.getD (W.bts a) 13 0) = x105)
    (h106 : (List.getD (W.bts b) 13 0) = x107)
    (h108 : (bXor IntKind.u8 x105 x107) = x109)
    (h110 : (bOr IntKind.u8 x103 x109) = x111)
    (h112 : (List.getD (W.bts a) 14 0) = x113)
    (h114 : (List.getD (W.bts b) 14 0) = x115)
    (h116 : (bXor IntKind.u8 x113 x115) = x117)
    (h118 : (bOr IntKind.u8 x111 x117) = x119)
    (h120 : (List.getD (W.bts a) 15 0) = x121)
    (h122 : (List.getD (W.bts b) 15 0) = x123)
    (h124 : (bXor IntKind.u8 x121 x123) = x125)
    (h126 : (bOr IntKind.u8 x119 x125) = x127)
    (h128 : (List.getD (W.bts a) 16 0) = x129)
    (h130 : (List.getD (W.bts b) 16 0) = x131)
    (h132 : (bXor IntKind.u8 x129 x131) = x133)
    (h134 : (bOr IntKind.u8 x127 x133) = x135)
    (h136 : (List.getD (W.bts a) 17 0) = x137)
    (h138 : (List.getD (W.bts b) 17 0) = x139)
    (h140 : (bXor IntKind.u8 x137 x139) = x141)
    (h142 : (bOr IntKind.u8 x135 x141) = x143)
    (h144 : (List.getD (W.bts a) 18 0) = x145)
    (h146 : (List.getD (W.bts b) 18 0) = x147)
    (h148 : (bXor IntKind.u8 x145 x147) = x149)
    (h150 : (bOr IntKind.u8 x143 x149) = x151)
    (h152 : (List.getD (W.bts a) 19 0) = x153)
    (h154 : (List.getD (W.bts b) 19 0) = x155)
    (h156 : (bXor IntKind.u8 x153 x155) = x157)
    (h158 : (bOr IntKind.u8 x151 x157) = x159)
    (h160 : (List.getD (W.bts a) 20 0) = x161)
    (h162 : (List.getD (W.bts b) 20 0) = x163)
    (h164 : (bXor IntKind.u8 x161 x163) = x165)
    (h166 : (bOr IntKind.u8 x159 x165) = x167)
    (h168 : (List.getD (W.bts a) 21 0) = x169)
    (h170 : (List.getD (W.bts b) 21 0) = x171)
    (h172 : (bXor IntKind.u8 x169 x171) = x173)
    (h174 : (bOr IntKind.u8 x167 x173) = x175)
    (h176 : (List.getD (W.bts a) 22 0) = x177)
    (h178 : (List.getD (W.bts b) 22 0) = x179)
    (h180 : (bXor IntKind.u8 x177 x179) = x181)
    (h182 : (bOr IntKind.u8 x175 x181) = x183)
    (h184 : (List.getD (W.bts a) 23 0) = x185)
    (h186 : (List.getD (W.bts b) 23 0) = x187)
    (h188 : (bXor IntKind.u8 x185 x187) = x189)
    (h190 : (bOr IntKind.u8 x183 x189) = x191)
    (h192 : (List.getD (W.bts a) 24 0) = x193)
    (h194 : (List.getD (W.bts b) 24 0) = x195)
    (h196 : (bXor IntKind.u8 x193 x195) = x197)
    (h198 : (bOr IntKind.u8 x191 x197) = x199)
    (h200 : (List.getD (W.bts a) 25 0) = x201)
    (h202 : (List.getD (W.bts b) 25 0) = x203)
    (h204 : (bXor IntKind.u8 x201 x203) = x205)
    (h206 : (bOr IntKind.u8 x199 x205) = x207)
    (h208 : (List.getD (W.bts a) 26 0) = x209)
    (h210 : (List.getD (W.bts b) 26 0) = x211)
    (h212 : (bXor IntKind.u8 x209 x211) = x213)
    (h214 : (bOr IntKind.u8 x207 x213) = x215)
    (h216 : (List.getD (W.bts a) 27 0) = x217)
    (h218 : (List.getD (W.bts b) 27 0) = x219)
    (h220 : (bXor IntKind.u8 x217 x219) = x221)
    (h222 : (bOr IntKind.u8 x215 x221) = x223)
    (h224 : (List.getD (W.bts a) 28 0) = x225)
    (h226 : (List.getD (W.bts b) 28 0) = x227)
    (h228 : (bXor IntKind.u8 x225 x227) = x229)
    (h230 : (bOr IntKind.u8 x223 x229) = x231)
    (h232 : (List.getD (W.bts a) 29 0) = x233)
    (h234 : (List.getD (W.bts b) 29 0) = x235)
    (h236 : (bXor IntKind.u8 x233 x235) = x237)
    (h238 : (bOr IntKind.u8 x231 x237) = x239)
    (h240 : (List.getD (W.bts a) 30 0) = x241)
    (h242 : (List.getD (W.bts b) 30 0) = x243)
    (h244 : (bXor IntKind.u8 x241 x243) = x245)
    (h246 : (bOr IntKind.u8 x239 x245) = x247)
    (h248 : (List.getD (W.bts a) 31 0) = x249)
    (h250 : (List.getD (W.bts b) 31 0) = x251)
    (h252 : (bXor IntKind.u8 x249 x251) = x253)
    (h254 : (bOr IntKind.u8 x247 x253) = x255)
    (h256 : (x255 == 0) = q257) :
    Contract0 Tryd.prog 40 [(.c (.sl 1 0 0 32 1)), (.c (.sl 2 0 0 32 1))] [(1, .one ⟨false, true, .ints .u8 (W.bts a)⟩), (2, .one ⟨false, true, .ints .u8 (W.bts b)⟩)] 3 (.c (.bool q257)) [] [] :=
  Contract0.of_frun (fn := Tryd.f40) (c := bodyOf Tryd.f40) (fuel := 300) (k := kOf Tryd.prog Tryd.f40) (outs := []) (hs := [(19, ⟨.auto, some (.c (.int .u8 x1))⟩), (23, ⟨.auto, some (.c (.int .u8 x3))⟩), (24, ⟨.auto, some (.c (.int .u8 x5))⟩), (25, ⟨.auto, some (.c (.int .u8 x7))⟩), (37, ⟨.auto, some (.c (.int .u8 x9))⟩), (41, ⟨.auto, some (.c (.int .u8 x11))⟩), (42, ⟨.auto, some (.c (.int .u8 x13))⟩), (43, ⟨.auto, some (.c (.int .u8 x15))⟩), (55, ⟨.auto, some (.c (.int .u8 x17))⟩), (59, ⟨.auto, some (.c (.int .u8 x19))⟩), (60, ⟨.auto, some (.c (.int .u8 x21))⟩), (61, ⟨.auto, some (.c (.int .u8 x23))⟩), (73, ⟨.auto, some (.c (.int .u8 x25))⟩), (77, ⟨.auto, some (.c (.int .u8 x27))⟩), (78, ⟨.auto, some (.c (.int .u8 x29))⟩), (79, ⟨.auto, some (.c (.int .u8 x31))⟩), (91, ⟨.auto, some (.c (.int .u8 x33))⟩), (95, ⟨.auto, some (.c (.int .u8 x35))⟩), (96, ⟨.auto, some (.c (.int .u8 x37))⟩), (97, ⟨.auto, some (.c (.int .u8 x39))⟩), (109, ⟨.auto, some (.c (.int .u8 x41))⟩), (113, ⟨.auto, some (.c (.int .u8 x43))⟩), (114, ⟨.auto, some (.c (.int .u8 x45))⟩), (115, ⟨.auto, some (.c (.int .u8 x47))⟩), (127, ⟨.auto, some (.c (.int .u8 x49))⟩), (131, ⟨.auto, some (.c (.int .u8 x51))⟩), (132, ⟨.auto, some (.c (.int .u8 x53))⟩), (133, ⟨.auto, some (.c (.int .u8 x55))⟩), (145, ⟨.auto, some (.c (.int .u8 x57))⟩), (149, ⟨.auto, some (.c (.int .u8 x59))⟩), (150, ⟨.auto, some (.c (.int .u8 x61))⟩), (151, ⟨.auto, some (.c (.int .u8 x63))⟩), (163, ⟨.auto, some (.c (.int .u8 x65))⟩), (167, ⟨.auto, some (.c (.int .u8 x67))⟩), (168, ⟨.auto, some (.c (.int .u8 x69))⟩), (169, ⟨.auto, some (.c (.int .u8 x71))⟩), (181, ⟨.auto, some (.c (.int .u8 x73))⟩), (185, ⟨.auto, some (.c (.int .u8 x75))⟩), (186, ⟨.auto, some (.c (.int .u8 x77))⟩), (187, ⟨.auto, some (.c (.int .u8 x79))⟩), (199, ⟨.auto, some (.c (.int .u8 x81))⟩), (203, ⟨.auto, some (.c (.int .u8 x83))⟩), (204, ⟨.auto, some (.c (.int .u8 x85))⟩), (205, ⟨.auto, some (.c (.int .u8 x87))⟩), (217, ⟨.auto, some (.c (.int .u8 x89))⟩), (221, ⟨.auto, some (.c (.int .u8 x91))⟩), (222, ⟨.auto, some (.c (.int .u8 x93))⟩), (223, ⟨.auto, some (.c (.int .u8 x95))⟩), (235, ⟨.auto, some (.c (.int .u8 x97))⟩), (239, ⟨.auto, some (.c (.int .u8 x99))⟩), (240, ⟨.auto, some (.c (.int .u8 x101))⟩), (241, ⟨.auto, some (.c (.int .u8 x103))⟩), (253, ⟨.auto, some (.c (.int .u8 x105))⟩), (257, ⟨.auto, some (.c (.int .u8 x107))⟩), (258, ⟨.auto, some (.c (.int .u8 x109))⟩), (259, ⟨.auto, some (.c (.int .u8 x111))⟩), (271, ⟨.auto, some (.c (.int .u8 x113))⟩), (275, ⟨.auto, some (.c (.int .u8 x115))⟩), (276, ⟨.auto, some (.c (.int .u8 x117))⟩), (277, ⟨.auto, some (.c (.int .u8 x119))⟩), (289, ⟨.auto, some (.c (.int .u8 x121))⟩), (293, ⟨.auto, some (.c (.int .u8 x123))⟩), (294, ⟨.auto, some (.c (.int .u8 x125))⟩), (295, ⟨.auto, some (.c (.int .u8 x127))⟩), (307, ⟨.auto, some (.c (.int .u8 x129))⟩), (311, ⟨.auto, some (.c (.int .u8 x131))⟩), (312, ⟨.auto, some (.c (.int .u8 x133))⟩), (313, ⟨.auto, some (.c (.int .u8 x135))⟩), (325, ⟨.auto, some (.c (.int .u8 x137))⟩), (329, ⟨.auto, some (.c (.int .u8 x139))⟩), (330, ⟨.auto, some (.c (.int .u8 x141))⟩), (331, ⟨.auto, some (.c (.int .u8 x143))⟩), (343, ⟨.auto, some (.c (.int .u8 x145))⟩), (347, ⟨.auto, some (.c (.int .u8 x147))⟩), (348, ⟨.auto, some (.c (.int .u8 x149))⟩), (349, ⟨.auto, some (.c (.int .u8 x151))⟩), (361, ⟨.auto, some (.c (.int .u8 x153))⟩), (365, ⟨.auto, some (.c (.int .u8 x155))⟩), (366, ⟨.auto, some (.c (.int .u8 x157))⟩), (367, ⟨.auto, some (.c (.int .u8 x159))⟩), (379, ⟨.auto, some (.c (.int .u8 x161))⟩), (383, ⟨.auto, some (.c (.int .u8 x163))⟩), (384, ⟨.auto, some (.c (.int .u8 x165))⟩), (385, ⟨.auto, some (.c (.int .u8 x167))⟩), (397, ⟨.auto, some (.c (.int .u8 x169))⟩), (401, ⟨.auto, some (.c (.int .u8 x171))⟩), (402, ⟨.auto, some (.c (.int .u8 x173))⟩), (403, ⟨.auto, some (.c (.int .u8 x175))⟩), (415, ⟨.auto, some (.c (.int .u8 x177))⟩), (419, ⟨.auto, some (.c (.int .u8 x179))⟩), (420, ⟨.auto, some (.c (.int .u8 x181))⟩), (421, ⟨.auto, some (.c (.int .u8 x183))⟩), (433, ⟨.auto, some (.c (.int .u8 x185))⟩), (437, ⟨.auto, some (.c (.int .u8 x187))⟩), (438, ⟨.auto, some (.c (.int .u8 x189))⟩), (439, ⟨.auto, some (.c (.int .u8 x191))⟩), (451, ⟨.auto, some (.c (.int .u8 x193))⟩), (455, ⟨.auto, some (.c (.int .u8 x195))⟩), (456, ⟨.auto, some (.c (.int .u8 x197))⟩), (457, ⟨.auto, some (.c (.int .u8 x199))⟩), (469, ⟨.auto, some (.c (.int .u8 x201))⟩), (473, ⟨.auto, some (.c (.int .u8 x203))⟩), (474, ⟨.auto, some (.c (.int .u8 x205))⟩), (475, ⟨.auto, some (.c (.int .u8 x207))⟩), (487, ⟨.auto, some (.c (.int .u8 x209))⟩), (491, ⟨.auto, some (.c (.int .u8 x211))⟩), (492, ⟨.auto, some (.c (.int .u8 x213))⟩), (493, ⟨.auto, some (.c (.int .u8 x215))⟩), (505, ⟨.auto, some (.c (.int .u8 x217))⟩), (509, ⟨.auto, some (.c (.int .u8 x219))⟩), (510, ⟨.auto, some (.c (.int .u8 x221))⟩), (511, ⟨.auto, some (.c (.int .u8 x223))⟩), (523, ⟨.auto, some (.c (.int .u8 x225))⟩), (527, ⟨.auto, some (.c (.int .u8 x227))⟩), (528, ⟨.auto, some (.c (.int .u8 x229))⟩), (529, ⟨.auto, some (.c (.int .u8 x231))⟩), (541, ⟨.auto, some (.c (.int .u8 x233))⟩), (545, ⟨.auto, some (.c (.int .u8 x235))⟩), (546, ⟨.auto, some (.c (.int .u8 x237))⟩), (547, ⟨.auto, some (.c (.int .u8 x239))⟩), (559, ⟨.auto, some (.c (.int .u8 x241))⟩), (563, ⟨.auto, some (.c (.int .u8 x243))⟩), (564, ⟨.auto, some (.c (.int .u8 x245))⟩), (565, ⟨.auto, some (.c (.int .u8 x247))⟩), (577, ⟨.auto, some (.c (.int .u8 x249))⟩), (581, ⟨.auto, some (.c (.int .u8 x251))⟩), (582, ⟨.auto, some (.c (.int .u8 x253))⟩), (583, ⟨.auto, some (.c (.int .u8 x255))⟩), (590, ⟨.auto, some (.c (.bool q257))⟩)])
    (cs := [EB (x255 == 0) q257,
      EI .u8 (bOr IntKind.u8 x247 x253) x255,
      EI .u8 (bXor IntKind.u8 x249 x251) x253,
      EI .u8 (List.getD (W.bts b) 31 0) x251,
      EI .u8 (List.getD (W.bts a) 31 0) x249,
      EI .u8 (bOr IntKind.u8 x239 x245) x247,
      EI .u8 (bXor IntKind.u8 x241 x243) x245,
      EI .u8 (List.getD (W.bts b) 30 0) x243,
      EI .u8 (List.getD (W.bts a) 30 0) x241,
      EI .u8 (bOr IntKind.u8 x231 x237) x239,
      EI .u8 (bXor IntKind.u8 x233 x235) x237,
      EI .u8 (List.getD (W.bts b) 29 0) x235,
      EI .u8 (List.getD (W.bts a) 29 0) x233,
      EI .u8 (bOr IntKind.u8 x223 x229) x231,
      EI .u8 (bXor IntKind.u8 x225 x227) x229,
      EI .u8 (List.getD (W.bts b) 28 0) x227,
      EI .u8 (List.getD (W.bts a) 28 0) x225,
      EI .u8 (bOr IntKind.u8 x215 x221) x223,
      EI .u8 (bXor IntKind.u8 x217 x219) x221,
      EI .u8 (List.getD (W.bts b) 27 0) x219,
      EI .u8 (List.getD (W.bts a) 27 0) x217,
      EI .u8 (bOr IntKind.u8 x207 x213) x215,
      EI .u8 (bXor IntKind.u8 x209 x211) x213,
      EI .u8 (List.getD (W.bts b) 26 0) x211,
      EI .u8 (List.getD (W.bts a) 26 0) x209,
      EI .u8 (bOr IntKind.u8 x199 x205) x207,
      EI .u8 (bXor IntKind.u8 x201 x203) x205,
      EI .u8 (List.getD (W.bts b) 25 0) x203,
      EI .u8 (List.getD (W.bts a) 25 0) x201,
      EI .u8 (bOr IntKind.u8 x191 x197) x199,
      EI .u8 (bXor IntKind.u8 x193 x195) x197,
      EI .u8 (List.getD (W.bts b) 24 0) x195,
      EI .u8 (List.getD (W.bts a) 24 0) x193,
      EI .u8 (bOr IntKind.u8 x183 x189) x191,
      EI .u8 (bXor IntKind.u8 x185 x187) x189,
      EI .u8 (List.getD (W.bts b) 23 0) x187,
      EI .u8 (List.getD (W.bts a) 23 0) x185,
      EI .u8 (bOr IntKind.u8 x175 x181) x183,
      EI .u8 (bXor IntKind.u8 x177 x179) x181,
      EI .u8 (List.getD (W.bts b) 22 0) x179,
      EI .u8 (List.getD (W.bts a) 22 0) x177,
      EI .u8 (bOr IntKind.u8 x167 x173) x175,
      EI .u8 (bXor IntKind.u8 x169 x171) x173,
      EI .u8 (List.getD (W.bts b) 21 0) x171,
      EI .u8 (List.getD (W.bts a) 21 0) x169,
      EI .u8 (bOr IntKind.u8 x159 x165) x167,
      EI .u8 (bXor IntKind.u8 x161 x163) x165,
      EI .u8 (List.getD (W.bts b) 20 0) x163,
      EI .u8 (List.getD (W.bts a) 20 0) x161,
      EI .u8 (bOr IntKind.u8 x151 x157) x159,
      EI .u8 (bXor IntKind.u8 x153 x155) x157,
      EI .u8 (List.getD (W.bts b) 19 0) x155,
      EI .u8 (List.getD (W.bts a) 19 0) x153,
      EI .u8 (bOr IntKind.u8 x143 x149) x151,
      EI .u8 (bXor IntKind.u8 x145 x147) x149,
      EI .u8 (List.getD (W.bts b) 18 0) x147,
      EI .u8 (List.getD (W.bts a) 18 0) x145,
      EI .u8 (bOr IntKind.u8 x135 x141) x143,
      EI .u8 (bXor IntKind.u8 x137 x139) x141,
      EI .u8 (List.getD (W.bts b) 17 0) x139,
      EI .u8 (List.getD (W.bts a) 17 0) x137,
      EI .u8 (bOr IntKind.u8 x127 x133) x135,
      EI .u8 (bXor IntKind.u8 x129 x131) x133,
      EI .u8 (List.getD (W.bts b) 16 0) x131,
      EI .u8 (List.getD (W.bts a) 16 0) x129,
      EI .u8 (bOr IntKind.u8 x119 x125) x127,
      EI .u8 (bXor IntKind.u8 x121 x123) x125,
      EI .u8 (List.getD (W.bts b) 15 0) x123,
      EI .u8 (List.getD (W.bts a) 15 0) x121,
      EI .u8 (bOr IntKind.u8 x111 x117) x119,
      EI .u8 (bXor IntKind.u8 x113 x115) x117,
      EI .u8 (List.getD (W.bts b) 14 0) x115,
      EI .u8 (List.getD (W.bts a) 14 0) x113,
      EI .u8 (bOr IntKind.u8 x103 x109) x111,
      EI .u8 (bXor IntKind.u8 x105 x107) x109,
      EI .u8 (List.getD (W.bts b) 13 0) x107,
      EI .u8 (List.getD (W.bts a) 13 0) x105,
      EI .u8 (bOr IntKind.u8 x95 x101) x103,
      EI .u8 (bXor IntKind.u8 x97 x99) x101,
      EI .u8 (List.getD (W.bts b) 12 0) x99,
      EI .u8 (List.getD (W.bts a) 12 0) x97,
      EI .u8 (bOr IntKind.u8 x87 x93) x95,
      EI .u8 (bXor IntKind.u8 x89 x91) x93,
      EI .u8 (List.getD (W.bts b) 11 0) x91,
      EI .u8 (List.getD (W.bts a) 11 0) x89,
      EI .u8 (bOr IntKind.u8 x79 x85) x87,
      EI .u8 (bXor IntKind.u8 x81 x83) x85,
      EI .u8 (List.getD (W.bts b) 10 0) x83,
      EI .u8 (List.getD (W.bts a) 10 0) x81,
      EI .u8 (bOr IntKind.u8 x71 x77) x79,
      EI .u8 (bXor IntKind.u8 x73 x75) x77,
      EI .u8 (List.getD (W.bts b) 9 0) x75,
      EI .u8 (List.getD (W.bts a) 9 0) x73,
      EI .u8 (bOr IntKind.u8 x63 x69) x71,
      EI .u8 (bXor IntKind.u8 x65 x67) x69,
      EI .u8 (List.getD (W.bts b) 8 0) x67,
      EI .u8 (List.getD (W.bts a) 8 0) x65,
      EI .u8 (bOr IntKind.u8 x55 x61) x63,
      EI .u8 (bXor IntKind.u8 x57 x59) x61,
      EI .u8 (List.getD (W.bts b) 7 0) x59,
      EI .u8 (List.getD (W.bts a) 7 0) x57,
      EI .u8 (bOr IntKind.u8 x47 x53) x55,
      EI .u8 (bXor IntKind.u8 x49 x51) x53,
      EI .u8 (List.getD (W.bts b) 6 0) x51,
      EI .u8 (List.getD (W.bts a) 6 0) x49,
      EI .u8 (bOr IntKind.u8 x39 x45) x47,
      EI .u8 (bXor IntKind.u8 x41 x43) x45,
      EI .u8 (List.getD (W.bts b) 5 0) x43,
      EI .u8 (List.getD (W.bts a) 5 0) x41,
      EI .u8 (bOr IntKind.u8 x31 x37) x39,
      EI .u8 (bXor IntKind.u8 x33 x35) x37,
      EI .u8 (List.getD (W.bts b) 4 0) x35,
      EI .u8 (List.getD (W.bts a) 4 0) x33,
      EI .u8 (bOr IntKind.u8 x23 x29) x31,
      EI .u8 (bXor IntKind.u8 x25 x27) x29,
      EI .u8 (List.getD (W.bts b) 3 0) x27,
      EI .u8 (List.getD (W.bts a) 3 0) x25,
      EI .u8 (bOr IntKind.u8 x15 x21) x23,
      EI .u8 (bXor IntKind.u8 x17 x19) x21,
      EI .u8 (List.getD (W.bts b) 2 0) x19,
      EI .u8 (List.getD (W.bts a) 2 0) x17,
      EI .u8 (bOr IntKind.u8 x7 x13) x15,
      EI .u8 (bXor IntKind.u8 x9 x11) x13,
      EI .u8 (List.getD (W.bts b) 1 0) x11,
      EI .u8 (List.getD (W.bts a) 1 0) x9,
      EI .u8 (bOr IntKind.u8 0 x5) x7,
      EI .u8 (bXor IntKind.u8 x1 x3) x5,
      EI .u8 (List.getD (W.bts b) 0 0) x3,
      EI .u8 (List.getD (W.bts a) 0 0) x1])
    mixed Tryd.func40 (by kernel_rfl) (by kernel_rfl) (by kernel_rfl) rfl (by kernel_rfl) ⟨.mk h256, .mk h254, .mk h252, .mk h250, .mk h248, .mk h246, .mk h244, .mk h242, .mk h240, .mk h238, .mk h236, .mk h234, .mk h232, .mk h230, .mk h228, .mk h226, .mk h224, .mk h222, .mk h220, .mk h218, .mk h216, .mk h214, .mk h212, .mk h210, .mk h208, .mk h206, .mk h204, .mk h202, .mk h200, .mk h198, .mk h196, .mk h194, .mk h192, .mk h190, .mk h188, .mk h186, .mk h184, .mk h182, .mk h180, .mk h178, .mk h176, .mk h174, .mk h172, .mk h170, .mk h168, .mk h166, .mk h164, .mk h162, .mk h160, .mk h158, .mk h156, .mk h154, .mk h152, .mk h150, .mk h148, .mk h146, .mk h144, .mk h142, .mk h140, .mk h138, .mk h136, .mk h134, .mk h132, .mk h130, .mk h128, .mk h126, .mk h124, .mk h122, .mk h120, .mk h118, .mk h116, .mk h114, .mk h112, .mk h110, .mk h108, .mk h106, .mk h104, .mk h102, .mk h100, .mk h98, .mk h96, .mk h94, .mk h92, .mk h90, .mk h88, .mk h86, .mk h84, .mk h82, .mk h80, .mk h78, .mk h76, .mk h74, .mk h72, .mk h70, .mk h68, .mk h66, .mk h64, .mk h62, .mk h60, .mk h58, .mk h56, .mk h54, .mk h52, .mk h50, .mk h48, .mk h46, .mk h44, .mk h42, .mk h40, .mk h38, .mk h36, .mk h34, .mk h32, .mk h30, .mk h28, .mk h26, .mk h24, .mk h22, .mk h20, .mk h18, .mk h16, .mk h14, .mk h12, .mk h10, .mk h8, .mk h6, .mk h4, .mk h2, .mk h0, trivial⟩

end Go.Proofs.YtkjbjgkjplmkhaaDoor.Vm
