/- What functions of the program come to: parts of the walk (Sc). -/
import Derived.Test.YtmfnldkiaodkpaaSb
import Derived.KernelRfl
import Derived.Test.YtmfnldkiaodkpaaProg
import Derived.Test.YtmfnldkiaodkpaaOc
import Derived.Test.YtmfnldkiaodkpaaCb
set_option linter.unusedSimpArgs false
set_option linter.unusedVariables false
namespace Go.Proofs.Ytmfnldkiaodkpaa.Vm
open Go Go.Proofs Go.Proofs.Ytmfnldkiaodkpaa
set_option maxRecDepth 100000
theorem press_true (g0 g1 g2 g3 g4 g5 g6 g7 : Int) (l : List Int) (o : Nat) (t : Int)
    (hl : o + 64 ≤ l.length) :
    Contract0 Try.prog 89 [(.aggi .u32 [g0, g1, g2, g3, g4, g5, g6, g7]), (.c (.sl 1 0 o 64 1)), (.c (.int .u64 t)), (.c (.bool (true)))] [(1, (.one ⟨false, false, (.ints .u8 l)⟩))] 2 (.aggi .u32 (W.press [g0, g1, g2, g3, g4, g5, g6, g7] l o t true)) [] [] :=
  Contract0.told (res := (.aggi .u32 [(bXor IntKind.u32 g0 (bXor IntKind.u32 (List.getD (W.brounds (W.mw l o) (W.bv0 [g0, g1, g2, g3, g4, g5, g6, g7] t true) 10) 0 0) (List.getD (W.brounds (W.mw l o) (W.bv0 [g0, g1, g2, g3, g4, g5, g6, g7] t true) 10) 8 0))), (bXor IntKind.u32 g1 (bXor IntKind.u32 (List.getD (W.brounds (W.mw l o) (W.bv0 [g0, g1, g2, g3, g4, g5, g6, g7] t true) 10) 1 0) (List.getD (W.brounds (W.mw l o) (W.bv0 [g0, g1, g2, g3, g4, g5, g6, g7] t true) 10) 9 0))), (bXor IntKind.u32 g2 (bXor IntKind.u32 (List.getD (W.brounds (W.mw l o) (W.bv0 [g0, g1, g2, g3, g4, g5, g6, g7] t true) 10) 2 0) (List.getD (W.brounds (W.mw l o) (W.bv0 [g0, g1, g2, g3, g4, g5, g6, g7] t true) 10) 10 0))), (bXor IntKind.u32 g3 (bXor IntKind.u32 (List.getD (W.brounds (W.mw l o) (W.bv0 [g0, g1, g2, g3, g4, g5, g6, g7] t true) 10) 3 0) (List.getD (W.brounds (W.mw l o) (W.bv0 [g0, g1, g2, g3, g4, g5, g6, g7] t true) 10) 11 0))), (bXor IntKind.u32 g4 (bXor IntKind.u32 (List.getD (W.brounds (W.mw l o) (W.bv0 [g0, g1, g2, g3, g4, g5, g6, g7] t true) 10) 4 0) (List.getD (W.brounds (W.mw l o) (W.bv0 [g0, g1, g2, g3, g4, g5, g6, g7] t true) 10) 12 0))), (bXor IntKind.u32 g5 (bXor IntKind.u32 (List.getD (W.brounds (W.mw l o) (W.bv0 [g0, g1, g2, g3, g4, g5, g6, g7] t true) 10) 5 0) (List.getD (W.brounds (W.mw l o) (W.bv0 [g0, g1, g2, g3, g4, g5, g6, g7] t true) 10) 13 0))), (bXor IntKind.u32 g6 (bXor IntKind.u32 (List.getD (W.brounds (W.mw l o) (W.bv0 [g0, g1, g2, g3, g4, g5, g6, g7] t true) 10) 6 0) (List.getD (W.brounds (W.mw l o) (W.bv0 [g0, g1, g2, g3, g4, g5, g6, g7] t true) 10) 14 0))), (bXor IntKind.u32 g7 (bXor IntKind.u32 (List.getD (W.brounds (W.mw l o) (W.bv0 [g0, g1, g2, g3, g4, g5, g6, g7] t true) 10) 7 0) (List.getD (W.brounds (W.mw l o) (W.bv0 [g0, g1, g2, g3, g4, g5, g6, g7] t true) 10) 15 0)))])) (up := []) (res' := (.aggi .u32 (W.press [g0, g1, g2, g3, g4, g5, g6, g7] l o t true))) (up' := []) (by kernel_rfl) (by rfl) (Contract0.of_frun (res := (.aggi .u32 [(bXor IntKind.u32 g0 (bXor IntKind.u32 (List.getD (W.brounds (W.mw l o) (W.bv0 [g0, g1, g2, g3, g4, g5, g6, g7] t true) 10) 0 0) (List.getD (W.brounds (W.mw l o) (W.bv0 [g0, g1, g2, g3, g4, g5, g6, g7] t true) 10) 8 0))), (bXor IntKind.u32 g1 (bXor IntKind.u32 (List.getD (W.brounds (W.mw l o) (W.bv0 [g0, g1, g2, g3, g4, g5, g6, g7] t true) 10) 1 0) (List.getD (W.brounds (W.mw l o) (W.bv0 [g0, g1, g2, g3, g4, g5, g6, g7] t true) 10) 9 0))), (bXor IntKind.u32 g2 (bXor IntKind.u32 (List.getD (W.brounds (W.mw l o) (W.bv0 [g0, g1, g2, g3, g4, g5, g6, g7] t true) 10) 2 0) (List.getD (W.brounds (W.mw l o) (W.bv0 [g0, g1, g2, g3, g4, g5, g6, g7] t true) 10) 10 0))), (bXor IntKind.u32 g3 (bXor IntKind.u32 (List.getD (W.brounds (W.mw l o) (W.bv0 [g0, g1, g2, g3, g4, g5, g6, g7] t true) 10) 3 0) (List.getD (W.brounds (W.mw l o) (W.bv0 [g0, g1, g2, g3, g4, g5, g6, g7] t true) 10) 11 0))), (bXor IntKind.u32 g4 (bXor IntKind.u32 (List.getD (W.brounds (W.mw l o) (W.bv0 [g0, g1, g2, g3, g4, g5, g6, g7] t true) 10) 4 0) (List.getD (W.brounds (W.mw l o) (W.bv0 [g0, g1, g2, g3, g4, g5, g6, g7] t true) 10) 12 0))), (bXor IntKind.u32 g5 (bXor IntKind.u32 (List.getD (W.brounds (W.mw l o) (W.bv0 [g0, g1, g2, g3, g4, g5, g6, g7] t true) 10) 5 0) (List.getD (W.brounds (W.mw l o) (W.bv0 [g0, g1, g2, g3, g4, g5, g6, g7] t true) 10) 13 0))), (bXor IntKind.u32 g6 (bXor IntKind.u32 (List.getD (W.brounds (W.mw l o) (W.bv0 [g0, g1, g2, g3, g4, g5, g6, g7] t true) 10) 6 0) (List.getD (W.brounds (W.mw l o) (W.bv0 [g0, g1, g2, g3, g4, g5, g6, g7] t true) 10) 14 0))), (bXor IntKind.u32 g7 (bXor IntKind.u32 (List.getD (W.brounds (W.mw l o) (W.bv0 [g0, g1, g2, g3, g4, g5, g6, g7] t true) 10) 7 0) (List.getD (W.brounds (W.mw l o) (W.bv0 [g0, g1, g2, g3, g4, g5, g6, g7] t true) 10) 15 0)))])) (up := []) (kill := []) (n0 := 2) (m := [(1, (.one ⟨false, false, (.ints .u8 l)⟩))]) (args := [(.aggi .u32 [g0, g1, g2, g3, g4, g5, g6, g7]), (.c (.sl 1 0 o 64 1)), (.c (.int .u64 t)), (.c (.bool (true)))]) (fn := Try.f89) (c := bodyOf Try.f89) (fuel := 300) (k := kOf Try.prog Try.f89) (outs := []) (hs := [(13, ⟨.auto, some (.c (.sl 1 0 o 64 1))⟩), (14, ⟨.call [1] (.tup [(.c (.int .u32 (W.w32 l o))), (.c (.bool (true)))]) [] [], none⟩), (30, ⟨.auto, some (.c (.sl 1 0 (o + 4) 60 1))⟩), (31, ⟨.call [1] (.tup [(.c (.int .u32 (W.w32 l (o + 4)))), (.c (.bool (true)))]) [] [], none⟩), (47, ⟨.auto, some (.c (.sl 1 0 (o + 8) 56 1))⟩), (48, ⟨.call [1] (.tup [(.c (.int .u32 (W.w32 l (o + 8)))), (.c (.bool (true)))]) [] [], none⟩), (64, ⟨.auto, some (.c (.sl 1 0 (o + 12) 52 1))⟩), (65, ⟨.call [1] (.tup [(.c (.int .u32 (W.w32 l (o + 12)))), (.c (.bool (true)))]) [] [], none⟩), (81, ⟨.auto, some (.c (.sl 1 0 (o + 16) 48 1))⟩), (82, ⟨.call [1] (.tup [(.c (.int .u32 (W.w32 l (o + 16)))), (.c (.bool (true)))]) [] [], none⟩), (98, ⟨.auto, some (.c (.sl 1 0 (o + 20) 44 1))⟩), (99, ⟨.call [1] (.tup [(.c (.int .u32 (W.w32 l (o + 20)))), (.c (.bool (true)))]) [] [], none⟩), (115, ⟨.auto, some (.c (.sl 1 0 (o + 24) 40 1))⟩), (116, ⟨.call [1] (.tup [(.c (.int .u32 (W.w32 l (o + 24)))), (.c (.bool (true)))]) [] [], none⟩), (132, ⟨.auto, some (.c (.sl 1 0 (o + 28) 36 1))⟩), (133, ⟨.call [1] (.tup [(.c (.int .u32 (W.w32 l (o + 28)))), (.c (.bool (true)))]) [] [], none⟩), (149, ⟨.auto, some (.c (.sl 1 0 (o + 32) 32 1))⟩), (150, ⟨.call [1] (.tup [(.c (.int .u32 (W.w32 l (o + 32)))), (.c (.bool (true)))]) [] [], none⟩), (166, ⟨.auto, some (.c (.sl 1 0 (o + 36) 28 1))⟩), (167, ⟨.call [1] (.tup [(.c (.int .u32 (W.w32 l (o + 36)))), (.c (.bool (true)))]) [] [], none⟩), (183, ⟨.auto, some (.c (.sl 1 0 (o + 40) 24 1))⟩), (184, ⟨.call [1] (.tup [(.c (.int .u32 (W.w32 l (o + 40)))), (.c (.bool (true)))]) [] [], none⟩), (200, ⟨.auto, some (.c (.sl 1 0 (o + 44) 20 1))⟩), (201, ⟨.call [1] (.tup [(.c (.int .u32 (W.w32 l (o + 44)))), (.c (.bool (true)))]) [] [], none⟩), (217, ⟨.auto, some (.c (.sl 1 0 (o + 48) 16 1))⟩), (218, ⟨.call [1] (.tup [(.c (.int .u32 (W.w32 l (o + 48)))), (.c (.bool (true)))]) [] [], none⟩), (234, ⟨.auto, some (.c (.sl 1 0 (o + 52) 12 1))⟩), (235, ⟨.call [1] (.tup [(.c (.int .u32 (W.w32 l (o + 52)))), (.c (.bool (true)))]) [] [], none⟩), (251, ⟨.auto, some (.c (.sl 1 0 (o + 56) 8 1))⟩), (252, ⟨.call [1] (.tup [(.c (.int .u32 (W.w32 l (o + 56)))), (.c (.bool (true)))]) [] [], none⟩), (268, ⟨.auto, some (.c (.sl 1 0 (o + 60) 4 1))⟩), (269, ⟨.call [1] (.tup [(.c (.int .u32 (W.w32 l (o + 60)))), (.c (.bool (true)))]) [] [], none⟩), (279, ⟨.call [] (.aggi .u32 [1779033703, 3144134277, 1013904242, 2773480762, 1359893119, 2600822924, 528734635, 1541459225]) [] [], none⟩), (313, ⟨.sum ⟨[4, 8, 9, 10, 13, 59], [1, 2, 18, 34, 50], [], 4722⟩ (.exit 2) (LMtI g0 g1 g2 g3 g4 g5 g6 g7 l o 10 (W.brounds (W.mw l o) (W.bv0 [g0, g1, g2, g3, g4, g5, g6, g7] t true) 10)), none⟩)])
    (cs := [CodeOk Try.prog 142 4722 (kAt (kOf Try.prog Try.f89) [true, true, true, true, true, true, true, true, true, true, false, true, false]) (LMt0 g0 g1 g2 g3 g4 g5 g6 g7 l o t) (.exit 2) (LMtI g0 g1 g2 g3 g4 g5 g6 g7 l o 10 (W.brounds (W.mw l o) (W.bv0 [g0, g1, g2, g3, g4, g5, g6, g7] t true) 10)),
      Contract Try.prog 88 [] [] 4194 (.aggi .u32 [1779033703, 3144134277, 1013904242, 2773480762, 1359893119, 2600822924, 528734635, 1541459225]) [] [],
      Contract Try.prog 96 [(.c (.sl 1 0 (o + 60) 4 1))] [(1, (.one ⟨false, false, (.ints .u8 l)⟩))] 4050 (.tup [(.c (.int .u32 (W.w32 l (o + 60)))), (.c (.bool (true)))]) [] [],
      ((.c (.sl 1 0 (addO o 60) 4 1)) : V) = (.c (.sl 1 0 (o + 60) 4 1)),
      Contract Try.prog 96 [(.c (.sl 1 0 (o + 56) 8 1))] [(1, (.one ⟨false, false, (.ints .u8 l)⟩))] 3794 (.tup [(.c (.int .u32 (W.w32 l (o + 56)))), (.c (.bool (true)))]) [] [],
      ((.c (.sl 1 0 (addO o 56) 8 1)) : V) = (.c (.sl 1 0 (o + 56) 8 1)),
      Contract Try.prog 96 [(.c (.sl 1 0 (o + 52) 12 1))] [(1, (.one ⟨false, false, (.ints .u8 l)⟩))] 3538 (.tup [(.c (.int .u32 (W.w32 l (o + 52)))), (.c (.bool (true)))]) [] [],
      ((.c (.sl 1 0 (addO o 52) 12 1)) : V) = (.c (.sl 1 0 (o + 52) 12 1)),
      Contract Try.prog 96 [(.c (.sl 1 0 (o + 48) 16 1))] [(1, (.one ⟨false, false, (.ints .u8 l)⟩))] 3282 (.tup [(.c (.int .u32 (W.w32 l (o + 48)))), (.c (.bool (true)))]) [] [],
      ((.c (.sl 1 0 (addO o 48) 16 1)) : V) = (.c (.sl 1 0 (o + 48) 16 1)),
      Contract Try.prog 96 [(.c (.sl 1 0 (o + 44) 20 1))] [(1, (.one ⟨false, false, (.ints .u8 l)⟩))] 3026 (.tup [(.c (.int .u32 (W.w32 l (o + 44)))), (.c (.bool (true)))]) [] [],
      ((.c (.sl 1 0 (addO o 44) 20 1)) : V) = (.c (.sl 1 0 (o + 44) 20 1)),
      Contract Try.prog 96 [(.c (.sl 1 0 (o + 40) 24 1))] [(1, (.one ⟨false, false, (.ints .u8 l)⟩))] 2770 (.tup [(.c (.int .u32 (W.w32 l (o + 40)))), (.c (.bool (true)))]) [] [],
      ((.c (.sl 1 0 (addO o 40) 24 1)) : V) = (.c (.sl 1 0 (o + 40) 24 1)),
      Contract Try.prog 96 [(.c (.sl 1 0 (o + 36) 28 1))] [(1, (.one ⟨false, false, (.ints .u8 l)⟩))] 2514 (.tup [(.c (.int .u32 (W.w32 l (o + 36)))), (.c (.bool (true)))]) [] [],
      ((.c (.sl 1 0 (addO o 36) 28 1)) : V) = (.c (.sl 1 0 (o + 36) 28 1)),
      Contract Try.prog 96 [(.c (.sl 1 0 (o + 32) 32 1))] [(1, (.one ⟨false, false, (.ints .u8 l)⟩))] 2258 (.tup [(.c (.int .u32 (W.w32 l (o + 32)))), (.c (.bool (true)))]) [] [],
      ((.c (.sl 1 0 (addO o 32) 32 1)) : V) = (.c (.sl 1 0 (o + 32) 32 1)),
      Contract Try.prog 96 [(.c (.sl 1 0 (o + 28) 36 1))] [(1, (.one ⟨false, false, (.ints .u8 l)⟩))] 2002 (.tup [(.c (.int .u32 (W.w32 l (o + 28)))), (.c (.bool (true)))]) [] [],
      ((.c (.sl 1 0 (addO o 28) 36 1)) : V) = (.c (.sl 1 0 (o + 28) 36 1)),
      Contract Try.prog 96 [(.c (.sl 1 0 (o + 24) 40 1))] [(1, (.one ⟨false, false, (.ints .u8 l)⟩))] 1746 (.tup [(.c (.int .u32 (W.w32 l (o + 24)))), (.c (.bool (true)))]) [] [],
      ((.c (.sl 1 0 (addO o 24) 40 1)) : V) = (.c (.sl 1 0 (o + 24) 40 1)),
      Contract Try.prog 96 [(.c (.sl 1 0 (o + 20) 44 1))] [(1, (.one ⟨false, false, (.ints .u8 l)⟩))] 1490 (.tup [(.c (.int .u32 (W.w32 l (o + 20)))), (.c (.bool (true)))]) [] [],
      ((.c (.sl 1 0 (addO o 20) 44 1)) : V) = (.c (.sl 1 0 (o + 20) 44 1)),
      Contract Try.prog 96 [(.c (.sl 1 0 (o + 16) 48 1))] [(1, (.one ⟨false, false, (.ints .u8 l)⟩))] 1234 (.tup [(.c (.int .u32 (W.w32 l (o + 16)))), (.c (.bool (true)))]) [] [],
      ((.c (.sl 1 0 (addO o 16) 48 1)) : V) = (.c (.sl 1 0 (o + 16) 48 1)),
      Contract Try.prog 96 [(.c (.sl 1 0 (o + 12) 52 1))] [(1, (.one ⟨false, false, (.ints .u8 l)⟩))] 978 (.tup [(.c (.int .u32 (W.w32 l (o + 12)))), (.c (.bool (true)))]) [] [],
      ((.c (.sl 1 0 (addO o 12) 52 1)) : V) = (.c (.sl 1 0 (o + 12) 52 1)),
      Contract Try.prog 96 [(.c (.sl 1 0 (o + 8) 56 1))] [(1, (.one ⟨false, false, (.ints .u8 l)⟩))] 722 (.tup [(.c (.int .u32 (W.w32 l (o + 8)))), (.c (.bool (true)))]) [] [],
      ((.c (.sl 1 0 (addO o 8) 56 1)) : V) = (.c (.sl 1 0 (o + 8) 56 1)),
      Contract Try.prog 96 [(.c (.sl 1 0 (o + 4) 60 1))] [(1, (.one ⟨false, false, (.ints .u8 l)⟩))] 466 (.tup [(.c (.int .u32 (W.w32 l (o + 4)))), (.c (.bool (true)))]) [] [],
      ((.c (.sl 1 0 (addO o 4) 60 1)) : V) = (.c (.sl 1 0 (o + 4) 60 1)),
      Contract Try.prog 96 [(.c (.sl 1 0 o 64 1))] [(1, (.one ⟨false, false, (.ints .u8 l)⟩))] 210 (.tup [(.c (.int .u32 (W.w32 l o))), (.c (.bool (true)))]) [] [],
      ((.c (.sl 1 0 (addO o 0) 64 1)) : V) = (.c (.sl 1 0 o 64 1))])
    mixed Try.func89 (by kernel_rfl) (by kernel_rfl) (by kernel_rfl) (by kernel_rfl) (by kernel_rfl) ⟨(press_loop_true g0 g1 g2 g3 g4 g5 g6 g7 l o t (by omega)), Contract0.in1 bfirst [] [] [] [] (by kernel_rfl), Contract0.in1 (Get32 l (o + 60) 4 (by omega) (by omega)) [.b 1 1 true []] [none] [] [] (by kernel_rfl), EV.sl (by simp only [addO_eq, mulE_eq, mulE_one, Int.toNat_natCast, IntKind.wrap_i64, mmin, mmax]) (by rfl), Contract0.in1 (Get32 l (o + 56) 8 (by omega) (by omega)) [.b 1 1 true []] [none] [] [] (by kernel_rfl), EV.sl (by simp only [addO_eq, mulE_eq, mulE_one, Int.toNat_natCast, IntKind.wrap_i64, mmin, mmax]) (by rfl), Contract0.in1 (Get32 l (o + 52) 12 (by omega) (by omega)) [.b 1 1 true []] [none] [] [] (by kernel_rfl), EV.sl (by simp only [addO_eq, mulE_eq, mulE_one, Int.toNat_natCast, IntKind.wrap_i64, mmin, mmax]) (by rfl), Contract0.in1 (Get32 l (o + 48) 16 (by omega) (by omega)) [.b 1 1 true []] [none] [] [] (by kernel_rfl), EV.sl (by simp only [addO_eq, mulE_eq, mulE_one, Int.toNat_natCast, IntKind.wrap_i64, mmin, mmax]) (by rfl), Contract0.in1 (Get32 l (o + 44) 20 (by omega) (by omega)) [.b 1 1 true []] [none] [] [] (by kernel_rfl), EV.sl (by simp only [addO_eq, mulE_eq, mulE_one, Int.toNat_natCast, IntKind.wrap_i64, mmin, mmax]) (by rfl), Contract0.in1 (Get32 l (o + 40) 24 (by omega) (by omega)) [.b 1 1 true []] [none] [] [] (by kernel_rfl), EV.sl (by simp only [addO_eq, mulE_eq, mulE_one, Int.toNat_natCast, IntKind.wrap_i64, mmin, mmax]) (by rfl), Contract0.in1 (Get32 l (o + 36) 28 (by omega) (by omega)) [.b 1 1 true []] [none] [] [] (by kernel_rfl), EV.sl (by simp only [addO_eq, mulE_eq, mulE_one, Int.toNat_natCast, IntKind.wrap_i64, mmin, mmax]) (by rfl), Contract0.in1 (Get32 l (o + 32) 32 (by omega) (by omega)) [.b 1 1 true []] [none] [] [] (by kernel_rfl), EV.sl (by simp only [addO_eq, mulE_eq, mulE_one, Int.toNat_natCast, IntKind.wrap_i64, mmin, mmax]) (by rfl), Contract0.in1 (Get32 l (o + 28) 36 (by omega) (by omega)) [.b 1 1 true []] [none] [] [] (by kernel_rfl), EV.sl (by simp only [addO_eq, mulE_eq, mulE_one, Int.toNat_natCast, IntKind.wrap_i64, mmin, mmax]) (by rfl), Contract0.in1 (Get32 l (o + 24) 40 (by omega) (by omega)) [.b 1 1 true []] [none] [] [] (by kernel_rfl), EV.sl (by simp only [addO_eq, mulE_eq, mulE_one, Int.toNat_natCast, IntKind.wrap_i64, mmin, mmax]) (by rfl), Contract0.in1 (Get32 l (o + 20) 44 (by omega) (by omega)) [.b 1 1 true []] [none] [] [] (by kernel_rfl), EV.sl (by simp only [addO_eq, mulE_eq, mulE_one, Int.toNat_natCast, IntKind.wrap_i64, mmin, mmax]) (by rfl), Contract0.in1 (Get32 l (o + 16) 48 (by omega) (by omega)) [.b 1 1 true []] [none] [] [] (by kernel_rfl), EV.sl (by simp only [addO_eq, mulE_eq, mulE_one, Int.toNat_natCast, IntKind.wrap_i64, mmin, mmax]) (by rfl), Contract0.in1 (Get32 l (o + 12) 52 (by omega) (by omega)) [.b 1 1 true []] [none] [] [] (by kernel_rfl), EV.sl (by simp only [addO_eq, mulE_eq, mulE_one, Int.toNat_natCast, IntKind.wrap_i64, mmin, mmax]) (by rfl), Contract0.in1 (Get32 l (o + 8) 56 (by omega) (by omega)) [.b 1 1 true []] [none] [] [] (by kernel_rfl), EV.sl (by simp only [addO_eq, mulE_eq, mulE_one, Int.toNat_natCast, IntKind.wrap_i64, mmin, mmax]) (by rfl), Contract0.in1 (Get32 l (o + 4) 60 (by omega) (by omega)) [.b 1 1 true []] [none] [] [] (by kernel_rfl), EV.sl (by simp only [addO_eq, mulE_eq, mulE_one, Int.toNat_natCast, IntKind.wrap_i64, mmin, mmax]) (by rfl), Contract0.in1 (Get32 l o 64 (by omega) (by omega)) [.b 1 1 true []] [none] [] [] (by kernel_rfl), EV.sl (by simp only [addO_eq, mulE_eq, mulE_one, Int.toNat_natCast, IntKind.wrap_i64, mmin, mmax]; omega) (by rfl), trivial⟩)
theorem press_false (g0 g1 g2 g3 g4 g5 g6 g7 : Int) (l : List Int) (o : Nat) (t : Int)
    (hl : o + 64 ≤ l.length) :
    Contract0 Try.prog 89 [(.aggi .u32 [g0, g1, g2, g3, g4, g5, g6, g7]), (.c (.sl 1 0 o 64 1)), (.c (.int .u64 t)), (.c (.bool (false)))] [(1, (.one ⟨false, false, (.ints .u8 l)⟩))] 2 (.aggi .u32 (W.press [g0, g1, g2, g3, g4, g5, g6, g7] l o t false)) [] [] :=
  Contract0.told (res := (.aggi .u32 [(bXor IntKind.u32 g0 (bXor IntKind.u32 (List.getD (W.brounds (W.mw l o) (W.bv0 [g0, g1, g2, g3, g4, g5, g6, g7] t false) 10) 0 0) (List.getD (W.brounds (W.mw l o) (W.bv0 [g0, g1, g2, g3, g4, g5, g6, g7] t false) 10) 8 0))), (bXor IntKind.u32 g1 (bXor IntKind.u32 (List.getD (W.brounds (W.mw l o) (W.bv0 [g0, g1, g2, g3, g4, g5, g6, g7] t false) 10) 1 0) (List.getD (W.brounds (W.mw l o) (W.bv0 [g0, g1, g2, g3, g4, g5, g6, g7] t false) 10) 9 0))), (bXor IntKind.u32 g2 (bXor IntKind.u32 (List.getD (W.brounds (W.mw l o) (W.bv0 [g0, g1, g2, g3, g4, g5, g6, g7] t false) 10) 2 0) (List.getD (W.brounds (W.mw l o) (W.bv0 [g0, g1, g2, g3, g4, g5, g6, g7] t false) 10) 10 0))), (bXor IntKind.u32 g3 (bXor IntKind.u32 (List.getD (W.brounds (W.mw l o) (W.bv0 [g0, g1, g2, g3, g4, g5, g6, g7] t false) 10) 3 0) (List.getD (W.brounds (W.mw l o) (W.bv0 [g0, g1, g2, g3, g4, g5, g6, g7] t false) 10) 11 0))), (bXor IntKind.u32 g4 (bXor IntKind.u32 (List.getD (W.brounds (W.mw l o) (W.bv0 [g0, g1, g2, g3, g4, g5, g6, g7] t false) 10) 4 0) (List.getD (W.brounds (W.mw l o) (W.bv0 [g0, g1, g2, g3, g4, g5, g6, g7] t false) 10) 12 0))), (bXor IntKind.u32 g5 (bXor IntKind.u32 (List.getD (W.brounds (W.mw l o) (W.bv0 [g0, g1, g2, g3, g4, g5, g6, g7] t false) 10) 5 0) (List.getD (W.brounds (W.mw l o) (W.bv0 [g0, g1, g2, g3, g4, g5, g6, g7] t false) 10) 13 0))), (bXor IntKind.u32 g6 (bXor IntKind.u32 (List.getD (W.brounds (W.mw l o) (W.bv0 [g0, g1, g2, g3, g4, g5, g6, g7] t false) 10) 6 0) (List.getD (W.brounds (W.mw l o) (W.bv0 [g0, g1, g2, g3, g4, g5, g6, g7] t false) 10) 14 0))), (bXor IntKind.u32 g7 (bXor IntKind.u32 (List.getD (W.brounds (W.mw l o) (W.bv0 [g0, g1, g2, g3, g4, g5, g6, g7] t false) 10) 7 0) (List.getD (W.brounds (W.mw l o) (W.bv0 [g0, g1, g2, g3, g4, g5, g6, g7] t false) 10) 15 0)))])) (up := []) (res' := (.aggi .u32 (W.press [g0, g1, g2, g3, g4, g5, g6, g7] l o t false))) (up' := []) (by kernel_rfl) (by rfl) (Contract0.of_frun (res := (.aggi .u32 [(bXor IntKind.u32 g0 (bXor IntKind.u32 (List.getD (W.brounds (W.mw l o) (W.bv0 [g0, g1, g2, g3, g4, g5, g6, g7] t false) 10) 0 0) (List.getD (W.brounds (W.mw l o) (W.bv0 [g0, g1, g2, g3, g4, g5, g6, g7] t false) 10) 8 0))), (bXor IntKind.u32 g1 (bXor IntKind.u32 (List.getD (W.brounds (W.mw l o) (W.bv0 [g0, g1, g2, g3, g4, g5, g6, g7] t false) 10) 1 0) (List.getD (W.brounds (W.mw l o) (W.bv0 [g0, g1, g2, g3, g4, g5, g6, g7] t false) 10) 9 0))), (bXor IntKind.u32 g2 (bXor IntKind.u32 (List.getD (W.brounds (W.mw l o) (W.bv0 [g0, g1, g2, g3, g4, g5, g6, g7] t false) 10) 2 0) (List.getD (W.brounds (W.mw l o) (W.bv0 [g0, g1, g2, g3, g4, g5, g6, g7] t false) 10) 10 0))), (bXor IntKind.u32 g3 (bXor IntKind.u32 (List.getD (W.brounds (W.mw l o) (W.bv0 [g0, g1, g2, g3, g4, g5, g6, g7] t false) 10) 3 0) (List.getD (W.brounds (W.mw l o) (W.bv0 [g0, g1, g2, g3, g4, g5, g6, g7] t false) 10) 11 0))), (bXor IntKind.u32 g4 (bXor IntKind.u32 (List.getD (W.brounds (W.mw l o) (W.bv0 [g0, g1, g2, g3, g4, g5, g6, g7] t false) 10) 4 0) (List.getD (W.brounds (W.mw l o) (W.bv0 [g0, g1, g2, g3, g4, g5, g6, g7] t false) 10) 12 0))), (bXor IntKind.u32 g5 (bXor IntKind.u32 (List.getD (W.brounds (W.mw l o) (W.bv0 [g0, g1, g2, g3, g4, g5, g6, g7] t false) 10) 5 0) (List.getD (W.brounds (W.mw l o) (W.bv0 [g0, g1, g2, g3, g4, g5, g6, g7] t false) 10) 13 0))), (bXor IntKind.u32 g6 (bXor IntKind.u32 (List.getD (W.brounds (W.mw l o) (W.bv0 [g0, g1, g2, g3, g4, g5, g6, g7] t false) 10) 6 0) (List.getD (W.brounds (W.mw l o) (W.bv0 [g0, g1, g2, g3, g4, g5, g6, g7] t false) 10) 14 0))), (bXor IntKind.u32 g7 (bXor IntKind.u32 (List.getD (W.brounds (W.mw l o) (W.bv0 [g0, g1, g2, g3, g4, g5, g6, g7] t false) 10) 7 0) (List.getD (W.brounds (W.mw l o) (W.bv0 [g0, g1, g2, g3, g4, g5, g6, g7] t false) 10) 15 0)))])) (up := []) (kill := []) (n0 := 2) (m := [(1, (.one ⟨false, false, (.ints .u8 l)⟩))]) (args := [(.aggi .u32 [g0, g1, g2, g3, g4, g5, g6, g7]), (.c (.sl 1 0 o 64 1)), (.c (.int .u64 t)), (.c (.bool (false)))]) (fn := Try.f89) (c := bodyOf Try.f89) (fuel := 300) (k := kOf Try.prog Try.f89) (outs := []) (hs := [(13, ⟨.auto, some (.c (.sl 1 0 o 64 1))⟩), (14, ⟨.call [1] (.tup [(.c (.int .u32 (W.w32 l o))), (.c (.bool (true)))]) [] [], none⟩), (30, ⟨.auto, some (.c (.sl 1 0 (o + 4) 60 1))⟩), (31, ⟨.call [1] (.tup [(.c (.int .u32 (W.w32 l (o + 4)))), (.c (.bool (true)))]) [] [], none⟩), (47, ⟨.auto, some (.c (.sl 1 0 (o + 8) 56 1))⟩), (48, ⟨.call [1] (.tup [(.c (.int .u32 (W.w32 l (o + 8)))), (.c (.bool (true)))]) [] [], none⟩), (64, ⟨.auto, some (.c (.sl 1 0 (o + 12) 52 1))⟩), (65, ⟨.call [1] (.tup [(.c (.int .u32 (W.w32 l (o + 12)))), (.c (.bool (true)))]) [] [], none⟩), (81, ⟨.auto, some (.c (.sl 1 0 (o + 16) 48 1))⟩), (82, ⟨.call [1] (.tup [(.c (.int .u32 (W.w32 l (o + 16)))), (.c (.bool (true)))]) [] [], none⟩), (98, ⟨.auto, some (.c (.sl 1 0 (o + 20) 44 1))⟩), (99, ⟨.call [1] (.tup [(.c (.int .u32 (W.w32 l (o + 20)))), (.c (.bool (true)))]) [] [], none⟩), (115, ⟨.auto, some (.c (.sl 1 0 (o + 24) 40 1))⟩), (116, ⟨.call [1] (.tup [(.c (.int .u32 (W.w32 l (o + 24)))), (.c (.bool (true)))]) [] [], none⟩), (132, ⟨.auto, some (.c (.sl 1 0 (o + 28) 36 1))⟩), (133, ⟨.call [1] (.tup [(.c (.int .u32 (W.w32 l (o + 28)))), (.c (.bool (true)))]) [] [], none⟩), (149, ⟨.auto, some (.c (.sl 1 0 (o + 32) 32 1))⟩), (150, ⟨.call [1] (.tup [(.c (.int .u32 (W.w32 l (o + 32)))), (.c (.bool (true)))]) [] [], none⟩), (166, ⟨.auto, some (.c (.sl 1 0 (o + 36) 28 1))⟩), (167, ⟨.call [1] (.tup [(.c (.int .u32 (W.w32 l (o + 36)))), (.c (.bool (true)))]) [] [], none⟩), (183, ⟨.auto, some (.c (.sl 1 0 (o + 40) 24 1))⟩), (184, ⟨.call [1] (.tup [(.c (.int .u32 (W.w32 l (o + 40)))), (.c (.bool (true)))]) [] [], none⟩), (200, ⟨.auto, some (.c (.sl 1 0 (o + 44) 20 1))⟩), (201, ⟨.call [1] (.tup [(.c (.int .u32 (W.w32 l (o + 44)))), (.c (.bool (true)))]) [] [], none⟩), (217, ⟨.auto, some (.c (.sl 1 0 (o + 48) 16 1))⟩), (218, ⟨.call [1] (.tup [(.c (.int .u32 (W.w32 l (o + 48)))), (.c (.bool (true)))]) [] [], none⟩), (234, ⟨.auto, some (.c (.sl 1 0 (o + 52) 12 1))⟩), (235, ⟨.call [1] (.tup [(.c (.int .u32 (W.w32 l (o + 52)))), (.c (.bool (true)))]) [] [], none⟩), (251, ⟨.auto, some (.c (.sl 1 0 (o + 56) 8 1))⟩), (252, ⟨.call [1] (.tup [(.c (.int .u32 (W.w32 l (o + 56)))), (.c (.bool (true)))]) [] [], none⟩), (268, ⟨.auto, some (.c (.sl 1 0 (o + 60) 4 1))⟩), (269, ⟨.call [1] (.tup [(.c (.int .u32 (W.w32 l (o + 60)))), (.c (.bool (true)))]) [] [], none⟩), (279, ⟨.call [] (.aggi .u32 [1779033703, 3144134277, 1013904242, 2773480762, 1359893119, 2600822924, 528734635, 1541459225]) [] [], none⟩), (308, ⟨.sum ⟨[4, 8, 9, 10, 13, 59], [1, 2, 18, 34, 50], [], 4642⟩ (.exit 2) (LMfI g0 g1 g2 g3 g4 g5 g6 g7 l o 10 (W.brounds (W.mw l o) (W.bv0 [g0, g1, g2, g3, g4, g5, g6, g7] t false) 10)), none⟩)])
    (cs := [CodeOk Try.prog 142 4642 (kAt (kOf Try.prog Try.f89) [true, true, true, true, true, true, true, true, true, true, false, true, false]) (LMf0 g0 g1 g2 g3 g4 g5 g6 g7 l o t) (.exit 2) (LMfI g0 g1 g2 g3 g4 g5 g6 g7 l o 10 (W.brounds (W.mw l o) (W.bv0 [g0, g1, g2, g3, g4, g5, g6, g7] t false) 10)),
      Contract Try.prog 88 [] [] 4194 (.aggi .u32 [1779033703, 3144134277, 1013904242, 2773480762, 1359893119, 2600822924, 528734635, 1541459225]) [] [],
      Contract Try.prog 96 [(.c (.sl 1 0 (o + 60) 4 1))] [(1, (.one ⟨false, false, (.ints .u8 l)⟩))] 4050 (.tup [(.c (.int .u32 (W.w32 l (o + 60)))), (.c (.bool (true)))]) [] [],
      ((.c (.sl 1 0 (addO o 60) 4 1)) : V) = (.c (.sl 1 0 (o + 60) 4 1)),
      Contract Try.prog 96 [(.c (.sl 1 0 (o + 56) 8 1))] [(1, (.one ⟨false, false, (.ints .u8 l)⟩))] 3794 (.tup [(.c (.int .u32 (W.w32 l (o + 56)))), (.c (.bool (true)))]) [] [],
      ((.c (.sl 1 0 (addO o 56) 8 1)) : V) = (.c (.sl 1 0 (o + 56) 8 1)),
      Contract Try.prog 96 [(.c (.sl 1 0 (o + 52) 12 1))] [(1, (.one ⟨false, false, (.ints .u8 l)⟩))] 3538 (.tup [(.c (.int .u32 (W.w32 l (o + 52)))), (.c (.bool (true)))]) [] [],
      ((.c (.sl 1 0 (addO o 52) 12 1)) : V) = (.c (.sl 1 0 (o + 52) 12 1)),
      Contract Try.prog 96 [(.c (.sl 1 0 (o + 48) 16 1))] [(1, (.one ⟨false, false, (.ints .u8 l)⟩))] 3282 (.tup [(.c (.int .u32 (W.w32 l (o + 48)))), (.c (.bool (true)))]) [] [],
      ((.c (.sl 1 0 (addO o 48) 16 1)) : V) = (.c (.sl 1 0 (o + 48) 16 1)),
      Contract Try.prog 96 [(.c (.sl 1 0 (o + 44) 20 1))] [(1, (.one ⟨false, false, (.ints .u8 l)⟩))] 3026 (.tup [(.c (.int .u32 (W.w32 l (o + 44)))), (.c (.bool (true)))]) [] [],
      ((.c (.sl 1 0 (addO o 44) 20 1)) : V) = (.c (.sl 1 0 (o + 44) 20 1)),
      Contract Try.prog 96 [(.c (.sl 1 0 (o + 40) 24 1))] [(1, (.one ⟨false, false, (.ints .u8 l)⟩))] 2770 (.tup [(.c (.int .u32 (W.w32 l (o + 40)))), (.c (.bool (true)))]) [] [],
      ((.c (.sl 1 0 (addO o 40) 24 1)) : V) = (.c (.sl 1 0 (o + 40) 24 1)),
      Contract Try.prog 96 [(.c (.sl 1 0 (o + 36) 28 1))] [(1, (.one ⟨false, false, (.ints .u8 l)⟩))] 2514 (.tup [(.c (.int .u32 (W.w32 l (o + 36)))), (.c (.bool (true)))]) [] [],
      ((.c (.sl 1 0 (addO o 36) 28 1)) : V) = (.c (.sl 1 0 (o + 36) 28 1)),
      Contract Try.prog 96 [(.c (.sl 1 0 (o + 32) 32 1))] [(1, (.one ⟨false, false, (.ints .u8 l)⟩))] 2258 (.tup [(.c (.int .u32 (W.w32 l (o + 32)))), (.c (.bool (true)))]) [] [],
      ((.c (.sl 1 0 (addO o 32) 32 1)) : V) = (.c (.sl 1 0 (o + 32) 32 1)),
      Contract Try.prog 96 [(.c (.sl 1 0 (o + 28) 36 1))] [(1, (.one ⟨false, false, (.ints .u8 l)⟩))] 2002 (.tup [(.c (.int .u32 (W.w32 l (o + 28)))), (.c (.bool (true)))]) [] [],
      ((.c (.sl 1 0 (addO o 28) 36 1)) : V) = (.c (.sl 1 0 (o + 28) 36 1)),
      Contract Try.prog 96 [(.c (.sl 1 0 (o + 24) 40 1))] [(1, (.one ⟨false, false, (.ints .u8 l)⟩))] 1746 (.tup [(.c (.int .u32 (W.w32 l (o + 24)))), (.c (.bool (true)))]) [] [],
      ((.c (.sl 1 0 (addO o 24) 40 1)) : V) = (.c (.sl 1 0 (o + 24) 40 1)),
      Contract Try.prog 96 [(.c (.sl 1 0 (o + 20) 44 1))] [(1, (.one ⟨false, false, (.ints .u8 l)⟩))] 1490 (.tup [(.c (.int .u32 (W.w32 l (o + 20)))), (.c (.bool (true)))]) [] [],
      ((.c (.sl 1 0 (addO o 20) 44 1)) : V) = (.c (.sl 1 0 (o + 20) 44 1)),
      Contract Try.prog 96 [(.c (.sl 1 0 (o + 16) 48 1))] [(1, (.one ⟨false, false, (.ints .u8 l)⟩))] 1234 (.tup [(.c (.int .u32 (W.w32 l (o + 16)))), (.c (.bool (true)))]) [] [],
      ((.c (.sl 1 0 (addO o 16) 48 1)) : V) = (.c (.sl 1 0 (o + 16) 48 1)),
      Contract Try.prog 96 [(.c (.sl 1 0 (o + 12) 52 1))] [(1, (.one ⟨false, false, (.ints .u8 l)⟩))] 978 (.tup [(.c (.int .u32 (W.w32 l (o + 12)))), (.c (.bool (true)))]) [] [],
      ((.c (.sl 1 0 (addO o 12) 52 1)) : V) = (.c (.sl 1 0 (o + 12) 52 1)),
      Contract Try.prog 96 [(.c (.sl 1 0 (o + 8) 56 1))] [(1, (.one ⟨false, false, (.ints .u8 l)⟩))] 722 (.tup [(.c (.int .u32 (W.w32 l (o + 8)))), (.c (.bool (true)))]) [] [],
      ((.c (.sl 1 0 (addO o 8) 56 1)) : V) = (.c (.sl 1 0 (o + 8) 56 1)),
      Contract Try.prog 96 [(.c (.sl 1 0 (o + 4) 60 1))] [(1, (.one ⟨false, false, (.ints .u8 l)⟩))] 466 (.tup [(.c (.int .u32 (W.w32 l (o + 4)))), (.c (.bool (true)))]) [] [],
      ((.c (.sl 1 0 (addO o 4) 60 1)) : V) = (.c (.sl 1 0 (o + 4) 60 1)),
      Contract Try.prog 96 [(.c (.sl 1 0 o 64 1))] [(1, (.one ⟨false, false, (.ints .u8 l)⟩))] 210 (.tup [(.c (.int .u32 (W.w32 l o))), (.c (.bool (true)))]) [] [],
      ((.c (.sl 1 0 (addO o 0) 64 1)) : V) = (.c (.sl 1 0 o 64 1))])
    mixed Try.func89 (by kernel_rfl) (by kernel_rfl) (by kernel_rfl) (by kernel_rfl) (by kernel_rfl) ⟨(press_loop_false g0 g1 g2 g3 g4 g5 g6 g7 l o t (by omega)), Contract0.in1 bfirst [] [] [] [] (by kernel_rfl), Contract0.in1 (Get32 l (o + 60) 4 (by omega) (by omega)) [.b 1 1 true []] [none] [] [] (by kernel_rfl), EV.sl (by simp only [addO_eq, mulE_eq, mulE_one, Int.toNat_natCast, IntKind.wrap_i64, mmin, mmax]) (by rfl), Contract0.in1 (Get32 l (o + 56) 8 (by omega) (by omega)) [.b 1 1 true []] [none] [] [] (by kernel_rfl), EV.sl (by simp only [addO_eq, mulE_eq, mulE_one, Int.toNat_natCast, IntKind.wrap_i64, mmin, mmax]) (by rfl), Contract0.in1 (Get32 l (o + 52) 12 (by omega) (by omega)) [.b 1 1 true []] [none] [] [] (by kernel_rfl), EV.sl (by simp only [addO_eq, mulE_eq, mulE_one, Int.toNat_natCast, IntKind.wrap_i64, mmin, mmax]) (by rfl), Contract0.in1 (Get32 l (o + 48) 16 (by omega) (by omega)) [.b 1 1 true []] [none] [] [] (by kernel_rfl), EV.sl (by simp only [addO_eq, mulE_eq, mulE_one, Int.toNat_natCast, IntKind.wrap_i64, mmin, mmax]) (by rfl), Contract0.in1 (Get32 l (o + 44) 20 (by omega) (by omega)) [.b 1 1 true []] [none] [] [] (by kernel_rfl), EV.sl (by simp only [addO_eq, mulE_eq, mulE_one, Int.toNat_natCast, IntKind.wrap_i64, mmin, mmax]) (by rfl), Contract0.in1 (Get32 l (o + 40) 24 (by omega) (by omega)) [.b 1 1 true []] [none] [] [] (by kernel_rfl), EV.sl (by simp only [addO_eq, mulE_eq, mulE_one, Int.toNat_natCast, IntKind.wrap_i64, mmin, mmax]) (by rfl), Contract0.in1 (Get32 l (o + 36) 28 (by omega) (by omega)) [.b 1 1 true []] [none] [] [] (by kernel_rfl), EV.sl (by simp only [addO_eq, mulE_eq, mulE_one, Int.toNat_natCast, IntKind.wrap_i64, mmin, mmax]) (by rfl), Contract0.in1 (Get32 l (o + 32) 32 (by omega) (by omega)) [.b 1 1 true []] [none] [] [] (by kernel_rfl), EV.sl (by simp only [addO_eq, mulE_eq, mulE_one, Int.toNat_natCast, IntKind.wrap_i64, mmin, mmax]) (by rfl), Contract0.in1 (Get32 l (o + 28) 36 (by omega) (by omega)) [.b 1 1 true []] [none] [] [] (by kernel_rfl), EV.sl (by simp only [addO_eq, mulE_eq, mulE_one, Int.toNat_natCast, IntKind.wrap_i64, mmin, mmax]) (by rfl), Contract0.in1 (Get32 l (o + 24) 40 (by omega) (by omega)) [.b 1 1 true []] [none] [] [] (by kernel_rfl), EV.sl (by simp only [addO_eq, mulE_eq, mulE_one, Int.toNat_natCast, IntKind.wrap_i64, mmin, mmax]) (by rfl), Contract0.in1 (Get32 l (o + 20) 44 (by omega) (by omega)) [.b 1 1 true []] [none] [] [] (by kernel_rfl), EV.sl (by simp only [addO_eq, mulE_eq, mulE_one, Int.toNat_natCast, IntKind.wrap_i64, mmin, mmax]) (by rfl), Contract0.in1 (Get32 l (o + 16) 48 (by omega) (by omega)) [.b 1 1 true []] [none] [] [] (by kernel_rfl), EV.sl (by simp only [addO_eq, mulE_eq, mulE_one, Int.toNat_natCast, IntKind.wrap_i64, mmin, mmax]) (by rfl), Contract0.in1 (Get32 l (o + 12) 52 (by omega) (by omega)) [.b 1 1 true []] [none] [] [] (by kernel_rfl), EV.sl (by simp only [addO_eq, mulE_eq, mulE_one, Int.toNat_natCast, IntKind.wrap_i64, mmin, mmax]) (by rfl), Contract0.in1 (Get32 l (o + 8) 56 (by omega) (by omega)) [.b 1 1 true []] [none] [] [] (by kernel_rfl), EV.sl (by simp only [addO_eq, mulE_eq, mulE_one, Int.toNat_natCast, IntKind.wrap_i64, mmin, mmax]) (by rfl), Contract0.in1 (Get32 l (o + 4) 60 (by omega) (by omega)) [.b 1 1 true []] [none] [] [] (by kernel_rfl), EV.sl (by simp only [addO_eq, mulE_eq, mulE_one, Int.toNat_natCast, IntKind.wrap_i64, mmin, mmax]) (by rfl), Contract0.in1 (Get32 l o 64 (by omega) (by omega)) [.b 1 1 true []] [none] [] [] (by kernel_rfl), EV.sl (by simp only [addO_eq, mulE_eq, mulE_one, Int.toNat_natCast, IntKind.wrap_i64, mmin, mmax]; omega) (by rfl), trivial⟩)
end Go.Proofs.Ytmfnldkiaodkpaa.Vm

namespace Go.Proofs.Ytmfnldkiaodkpaa.Vm
open Go Go.Proofs Go.Proofs.Ytmfnldkiaodkpaa
theorem row_at8 (h : List Int) (e : h.length = 8) : h = [h.getD 0 0, h.getD 1 0, h.getD 2 0, h.getD 3 0, h.getD 4 0, h.getD 5 0, h.getD 6 0, h.getD 7 0] := by
  refine List.ext_getElem (by simp [e]) fun i h1 h2 => ?_
  have hi : i < 8 := by omega
  match i, hi, h1, h2 with
  | 0, _, _, _ => simp [List.getD_eq_getElem?_getD, e]
  | 1, _, _, _ => simp [List.getD_eq_getElem?_getD, e]
  | 2, _, _, _ => simp [List.getD_eq_getElem?_getD, e]
  | 3, _, _, _ => simp [List.getD_eq_getElem?_getD, e]
  | 4, _, _, _ => simp [List.getD_eq_getElem?_getD, e]
  | 5, _, _, _ => simp [List.getD_eq_getElem?_getD, e]
  | 6, _, _, _ => simp [List.getD_eq_getElem?_getD, e]
  | 7, _, _, _ => simp [List.getD_eq_getElem?_getD, e]
  | n + 8, hi, _, _ => exact absurd hi (by omega)
theorem press_ok (h l : List Int) (o : Nat) (t : Int) (la : Bool) (h0_ : h.length = 8) (h1_ : o + 64 ≤ l.length) : Contract0 Try.prog 89 [(.aggi .u32 h), (.c (.sl 1 0 o 64 1)), (.c (.int .u64 t)), (.c (.bool la))] [(1, (.one ⟨false, false, (.ints .u8 l)⟩))] 2 (.aggi .u32 (W.press h l o t la)) [] [] := by
  rw [row_at8 h h0_]
  cases la
  · exact press_false _ _ _ _ _ _ _ _ l o t h1_
  · exact press_true _ _ _ _ _ _ _ _ l o t h1_
end Go.Proofs.Ytmfnldkiaodkpaa.Vm
namespace Go.Proofs.Ytmfnldkiaodkpaa.W
open Go Go.Proofs.Ytmfnldkiaodkpaa.Vm
theorem mw_congr {l l' : List Int} {o o' : Nat} (h : ∀ k, k < 64 → List.getD l (o + k) 0 = List.getD l' (o' + k) 0) : mw l o = mw l' o' := by
  have e0 : List.getD l o 0 = List.getD l' o' 0 := h 0 (by decide)
  have e1 : List.getD l (o + 1) 0 = List.getD l' (o' + 1) 0 := h 1 (by decide)
  have e2 : List.getD l (o + 2) 0 = List.getD l' (o' + 2) 0 := h 2 (by decide)
  have e3 : List.getD l (o + 3) 0 = List.getD l' (o' + 3) 0 := h 3 (by decide)
  have e4 : List.getD l (o + 4) 0 = List.getD l' (o' + 4) 0 := h 4 (by decide)
  have e5 : List.getD l (o + 5) 0 = List.getD l' (o' + 5) 0 := h 5 (by decide)
  have e6 : List.getD l (o + 6) 0 = List.getD l' (o' + 6) 0 := h 6 (by decide)
  have e7 : List.getD l (o + 7) 0 = List.getD l' (o' + 7) 0 := h 7 (by decide)
  have e8 : List.getD l (o + 8) 0 = List.getD l' (o' + 8) 0 := h 8 (by decide)
  have e9 : List.getD l (o + 9) 0 = List.getD l' (o' + 9) 0 := h 9 (by decide)
  have e10 : List.getD l (o + 10) 0 = List.getD l' (o' + 10) 0 := h 10 (by decide)
  have e11 : List.getD l (o + 11) 0 = List.getD l' (o' + 11) 0 := h 11 (by decide)
  have e12 : List.getD l (o + 12) 0 = List.getD l' (o' + 12) 0 := h 12 (by decide)
  have e13 : List.getD l (o + 13) 0 = List.getD l' (o' + 13) 0 := h 13 (by decide)
  have e14 : List.getD l (o + 14) 0 = List.getD l' (o' + 14) 0 := h 14 (by decide)
  have e15 : List.getD l (o + 15) 0 = List.getD l' (o' + 15) 0 := h 15 (by decide)
  have e16 : List.getD l (o + 16) 0 = List.getD l' (o' + 16) 0 := h 16 (by decide)
  have e17 : List.getD l (o + 17) 0 = List.getD l' (o' + 17) 0 := h 17 (by decide)
  have e18 : List.getD l (o + 18) 0 = List.getD l' (o' + 18) 0 := h 18 (by decide)
  have e19 : List.getD l (o + 19) 0 = List.getD l' (o' + 19) 0 := h 19 (by decide)
  have e20 : List.getD l (o + 20) 0 = List.getD l' (o' + 20) 0 := h 20 (by decide)
  have e21 : List.getD l (o + 21) 0 = List.getD l' (o' + 21) 0 := h 21 (by decide)
  have e22 : List.getD l (o + 22) 0 = List.getD l' (o' + 22) 0 := h 22 (by decide)
  have e23 : List.getD l (o + 23) 0 = List.getD l' (o' + 23) 0 := h 23 (by decide)
  have e24 : List.getD l (o + 24) 0 = List.getD l' (o' + 24) 0 := h 24 (by decide)
  have e25 : List.getD l (o + 25) 0 = List.getD l' (o' + 25) 0 := h 25 (by decide)
  have e26 : List.getD l (o + 26) 0 = List.getD l' (o' + 26) 0 := h 26 (by decide)
  have e27 : List.getD l (o + 27) 0 = List.getD l' (o' + 27) 0 := h 27 (by decide)
  have e28 : List.getD l (o + 28) 0 = List.getD l' (o' + 28) 0 := h 28 (by decide)
  have e29 : List.getD l (o + 29) 0 = List.getD l' (o' + 29) 0 := h 29 (by decide)
  have e30 : List.getD l (o + 30) 0 = List.getD l' (o' + 30) 0 := h 30 (by decide)
  have e31 : List.getD l (o + 31) 0 = List.getD l' (o' + 31) 0 := h 31 (by decide)
  have e32 : List.getD l (o + 32) 0 = List.getD l' (o' + 32) 0 := h 32 (by decide)
  have e33 : List.getD l (o + 33) 0 = List.getD l' (o' + 33) 0 := h 33 (by decide)
  have e34 : List.getD l (o + 34) 0 = List.getD l' (o' + 34) 0 := h 34 (by decide)
  have e35 : List.getD l (o + 35) 0 = List.getD l' (o' + 35) 0 := h 35 (by decide)
  have e36 : List.getD l (o + 36) 0 = List.getD l' (o' + 36) 0 := h 36 (by decide)
  have e37 : List.getD l (o + 37) 0 = List.getD l' (o' + 37) 0 := h 37 (by decide)
  have e38 : List.getD l (o + 38) 0 = List.getD l' (o' + 38) 0 := h 38 (by decide)
  have e39 : List.getD l (o + 39) 0 = List.getD l' (o' + 39) 0 := h 39 (by decide)
  have e40 : List.getD l (o + 40) 0 = List.getD l' (o' + 40) 0 := h 40 (by decide)
  have e41 : List.getD l (o + 41) 0 = List.getD l' (o' + 41) 0 := h 41 (by decide)
  have e42 : List.getD l (o + 42) 0 = List.getD l' (o' + 42) 0 := h 42 (by decide)
  have e43 : List.getD l (o + 43) 0 = List.getD l' (o' + 43) 0 := h 43 (by decide)
  have e44 : List.getD l (o + 44) 0 = List.getD l' (o' + 44) 0 := h 44 (by decide)
  have e45 : List.getD l (o + 45) 0 = List.getD l' (o' + 45) 0 := h 45 (by decide)
  have e46 : List.getD l (o + 46) 0 = List.getD l' (o' + 46) 0 := h 46 (by decide)
  have e47 : List.getD l (o + 47) 0 = List.getD l' (o' + 47) 0 := h 47 (by decide)
  have e48 : List.getD l (o + 48) 0 = List.getD l' (o' + 48) 0 := h 48 (by decide)
  have e49 : List.getD l (o + 49) 0 = List.getD l' (o' + 49) 0 := h 49 (by decide)
  have e50 : List.getD l (o + 50) 0 = List.getD l' (o' + 50) 0 := h 50 (by decide)
  have e51 : List.getD l (o + 51) 0 = List.getD l' (o' + 51) 0 := h 51 (by decide)
  have e52 : List.getD l (o + 52) 0 = List.getD l' (o' + 52) 0 := h 52 (by decide)
  have e53 : List.getD l (o + 53) 0 = List.getD l' (o' + 53) 0 := h 53 (by decide)
  have e54 : List.getD l (o + 54) 0 = List.getD l' (o' + 54) 0 := h 54 (by decide)
  have e55 : List.getD l (o + 55) 0 = List.getD l' (o' + 55) 0 := h 55 (by decide)
  have e56 : List.getD l (o + 56) 0 = List.getD l' (o' + 56) 0 := h 56 (by decide)
  have e57 : List.getD l (o + 57) 0 = List.getD l' (o' + 57) 0 := h 57 (by decide)
  have e58 : List.getD l (o + 58) 0 = List.getD l' (o' + 58) 0 := h 58 (by decide)
  have e59 : List.getD l (o + 59) 0 = List.getD l' (o' + 59) 0 := h 59 (by decide)
  have e60 : List.getD l (o + 60) 0 = List.getD l' (o' + 60) 0 := h 60 (by decide)
  have e61 : List.getD l (o + 61) 0 = List.getD l' (o' + 61) 0 := h 61 (by decide)
  have e62 : List.getD l (o + 62) 0 = List.getD l' (o' + 62) 0 := h 62 (by decide)
  have e63 : List.getD l (o + 63) 0 = List.getD l' (o' + 63) 0 := h 63 (by decide)
  simp only [mw, w32, get4, Nat.add_assoc, Nat.reduceAdd, e0, e1, e2, e3, e4, e5, e6, e7, e8, e9, e10, e11, e12, e13, e14, e15, e16, e17, e18, e19, e20, e21, e22, e23, e24, e25, e26, e27, e28, e29, e30, e31, e32, e33, e34, e35, e36, e37, e38, e39, e40, e41, e42, e43, e44, e45, e46, e47, e48, e49, e50, e51, e52, e53, e54, e55, e56, e57, e58, e59, e60, e61, e62, e63]
def hl (m : List Int) : Nat → List Int
  | 0 => [1795745351, 3144134277, 1013904242, 2773480762, 1359893119, 2600822924, 528734635, 1541459225]
  | j + 1 => press (hl m j) m (64 * j) ((64 * j + 64 : Nat) : Int) false
theorem hl_len {m : List Int} {j : Nat} : (hl m j).length = 8 := by cases j <;> rfl
theorem hc_ex (m : List Int) (j i : Nat) : ∃ y : Int, y = (hl m j).getD i 0 := ⟨_, rfl⟩
noncomputable def hc (m : List Int) (j i : Nat) : Int := Classical.choose (hc_ex m j i)
theorem hc_eq (m : List Int) (j i : Nat) : hc m j i = (hl m j).getD i 0 := Classical.choose_spec (hc_ex m j i)
theorem hc_row (m : List Int) (j : Nat) : [W.hc m j 0, W.hc m j 1, W.hc m j 2, W.hc m j 3, W.hc m j 4, W.hc m j 5, W.hc m j 6, W.hc m j 7] = hl m j := by
  rw [row_at8 (hl m j) hl_len]
  simp only [hc_eq]
def lastB (m : List Int) : List Int := List.drop (64 * ((m.length - 1) / 64)) m ++ List.replicate (64 - (m.length - 64 * ((m.length - 1) / 64))) 0
def hzl (m : List Int) : List Int := press (hl m ((m.length - 1) / 64)) (lastB m) 0 (m.length : Int) true
theorem hz_ex (m : List Int) (i : Nat) : ∃ y : Int, y = (hzl m).getD i 0 := ⟨_, rfl⟩
noncomputable def hz (m : List Int) (i : Nat) : Int := Classical.choose (hz_ex m i)
theorem hz_eq (m : List Int) (i : Nat) : hz m i = (hzl m).getD i 0 := Classical.choose_spec (hz_ex m i)
theorem hz_row (m : List Int) : [W.hz m 0, W.hz m 1, W.hz m 2, W.hz m 3, W.hz m 4, W.hz m 5, W.hz m 6, W.hz m 7] = hzl m := by
  rw [row_at8 (hzl m) rfl]
  simp only [hz_eq]
theorem wr_side {R M : List Int} {N j w p c : Nat} (hM : R = List.take N (List.drop (64 * j) M)) (hp : p = 64 * (w - j)) (hj : j ≤ w) (hc : c + p = N) (h : 64 ≤ c) :
    List.take 64 (List.drop p R) = List.take 64 (List.drop (64 * w) M) := by
  subst hM
  rw [List.drop_take, List.take_take, List.drop_drop, Nat.min_eq_left (by omega)]
  congr 2
  omega
end Go.Proofs.Ytmfnldkiaodkpaa.W
namespace Go.Proofs.Ytmfnldkiaodkpaa.Vm
open Go Go.Proofs Go.Proofs.Ytmfnldkiaodkpaa
theorem press_w (m L : List Int) (j p : Nat) (t : Int) (h0_ : p + 64 ≤ L.length) (h1_ : List.take 64 (List.drop p L) = List.take 64 (List.drop (64 * j) m)) (h2_ : t = 64 * (j : Int) + 64) : Contract0 Try.prog 89 [(.aggi .u32 [W.hc m j 0, W.hc m j 1, W.hc m j 2, W.hc m j 3, W.hc m j 4, W.hc m j 5, W.hc m j 6, W.hc m j 7]), (.c (.sl 1 0 p 64 1)), (.c (.int .u64 t)), (.c (.bool false))] [(1, (.one ⟨false, false, (.ints .u8 L)⟩))] 2 (.aggi .u32 [W.hc m (j + 1) 0, W.hc m (j + 1) 1, W.hc m (j + 1) 2, W.hc m (j + 1) 3, W.hc m (j + 1) 4, W.hc m (j + 1) 5, W.hc m (j + 1) 6, W.hc m (j + 1) 7]) [] [] := by
  have et : t = ((64 * j + 64 : Nat) : Int) := by omega
  subst et
  have e := press_ok (W.hl m j) L p ((64 * j + 64 : Nat) : Int) false W.hl_len h0_
  rw [W.hc_row, W.hc_row]
  have q : W.press (W.hl m j) L p ((64 * j + 64 : Nat) : Int) false = W.hl m (j + 1) := by
    rw [W.hl]
    unfold W.press
    rw [W.mw_congr (l := L) (l' := m) (o := p) (o' := 64 * j) fun k hk => ?_]
    have a := congrArg (fun x : List Int => x.getD k 0) h1_
    simp only [take_getD hk, drop_getD] at a
    exact a
  rw [q] at e
  exact e
theorem press_l (m L : List Int) (j : Nat) (t : Int) (h0_ : t = (m.length : Int)) (h1_ : j = (m.length - 1) / 64) (h2_ : L = W.lastB m) : Contract0 Try.prog 89 [(.aggi .u32 [W.hc m j 0, W.hc m j 1, W.hc m j 2, W.hc m j 3, W.hc m j 4, W.hc m j 5, W.hc m j 6, W.hc m j 7]), (.c (.sl 1 0 0 64 1)), (.c (.int .u64 t)), (.c (.bool true))] [(1, (.one ⟨false, false, (.ints .u8 L)⟩))] 2 (.aggi .u32 [W.hz m 0, W.hz m 1, W.hz m 2, W.hz m 3, W.hz m 4, W.hz m 5, W.hz m 6, W.hz m 7]) [] [] := by
  subst h0_; subst h1_; subst h2_
  have hL : (W.lastB m).length = 64 := by unfold W.lastB; rw [List.length_append, List.length_drop, List.length_replicate]; omega
  have e := press_ok (W.hl m ((m.length - 1) / 64)) (W.lastB m) 0 (m.length : Int) true W.hl_len (by omega)
  rw [W.hc_row, W.hz_row]
  exact e
end Go.Proofs.Ytmfnldkiaodkpaa.Vm

namespace Go.Proofs.Ytmfnldkiaodkpaa.Vm
open Go Go.Proofs Go.Proofs.Ytmfnldkiaodkpaa
set_option maxRecDepth 100000
theorem bnew :
    Contract0 Try.prog 67 [] [] 1 (.c (.ptr 1 0 0)) [] [(1, (.one ⟨true, true, (.cells [(.int .u32 1795745351), (.int .u32 3144134277), (.int .u32 1013904242), (.int .u32 2773480762), (.int .u32 1359893119), (.int .u32 2600822924), (.int .u32 528734635), (.int .u32 1541459225), (.int .u64 0), .nils])⟩))] :=
  Contract0.renum (Contract0.of_frun (res := (.c (.ptr 49 0 0))) (up := [(49, (.one ⟨true, true, (.cells [(.int .u32 1795745351), (.int .u32 3144134277), (.int .u32 1013904242), (.int .u32 2773480762), (.int .u32 1359893119), (.int .u32 2600822924), (.int .u32 528734635), (.int .u32 1541459225), (.int .u64 0), .nils])⟩))]) (kill := []) (n0 := 1) (m := []) (args := []) (fn := Try.f67) (c := bodyOf Try.f67) (fuel := 300) (k := kOf Try.prog Try.f67) (outs := [49]) (hs := [(1, ⟨.call [] (.aggi .u32 [1779033703, 3144134277, 1013904242, 2773480762, 1359893119, 2600822924, 528734635, 1541459225]) [] [], none⟩)])
    (cs := [Contract Try.prog 88 [] [] 17 (.aggi .u32 [1779033703, 3144134277, 1013904242, 2773480762, 1359893119, 2600822924, 528734635, 1541459225]) [] []])
    mixed Try.func67 (by kernel_rfl) (by kernel_rfl) (by kernel_rfl) (by kernel_rfl) (by kernel_rfl) ⟨Contract0.in1 bfirst [] [] [] [] (by kernel_rfl), trivial⟩) [] [] [(49, 1)] [] (by kernel_rfl) (by kernel_rfl) (by kernel_rfl) (by kernel_rfl) (by kernel_rfl)
noncomputable def LHI (ex : Bool) (M l lb : List Int) (off cnt ob nb w u p cc : Nat) : S0 :=
  ⟨[(0, (.c (.ptr 1 0 0)))], [(1, (.one ⟨true, ex, .cells [.int .u32 (W.hc M w 0), .int .u32 (W.hc M w 1), .int .u32 (W.hc M w 2), .int .u32 (W.hc M w 3), .int .u32 (W.hc M w 4), .int .u32 (W.hc M w 5), .int .u32 (W.hc M w 6), .int .u32 (W.hc M w 7), .int .u64 (u : Int), .sl 116 0 p cc 1]⟩)), (2, (.one ⟨false, false, (.ints .u8 l)⟩)), (3, (.one ⟨false, false, (.ints .u8 lb)⟩)), (116, (.one ⟨true, false, (.ints .u8 (List.take cnt (List.drop off l) ++ List.take nb (List.drop ob lb)))⟩))], 180⟩
theorem LH_by {α : Type} (I : α → S0) (Inv : α → Prop) (μ : α → Nat) {ex : Ex} {s' : S0} (hex : ex ≠ .normal)
    (step : ∀ x, Inv x → (∃ y, Inv y ∧ μ y < μ x ∧ CodeOk Try.prog 52 180 (kAt (kOf Try.prog Try.f68) [true, false, false]) (I x) .normal (I y)) ∨ CodeOk Try.prog 52 180 (kAt (kOf Try.prog Try.f68) [true, false, false]) (I x) ex s') (x : α) (hx : Inv x) :
    CodeOk Try.prog 52 180 (kAt (kOf Try.prog Try.f68) [true, false]) (I x) ex s' := by
  have hk : (kAt (kOf Try.prog Try.f68) [true, false]) = .loop (kAt (kOf Try.prog Try.f68) [true, false, false]) := by kernel_rfl
  rw [hk]
  exact CodeOk.loop I Inv μ hex step x hx
noncomputable def LH0 (ex : Bool) (M l lb : List Int) (j q off cnt ob nb : Nat) : S0 :=
  ⟨[(0, (.c (.ptr 1 0 0)))], [(1, (.one ⟨true, ex, (.cells [(.int .u32 (W.hc M j 0)), (.int .u32 (W.hc M j 1)), (.int .u32 (W.hc M j 2)), (.int .u32 (W.hc M j 3)), (.int .u32 (W.hc M j 4)), (.int .u32 (W.hc M j 5)), (.int .u32 (W.hc M j 6)), (.int .u32 (W.hc M j 7)), (.int .u64 (↑q)), (.sl 116 0 0 (cnt + nb) 1)])⟩)), (2, (.one ⟨false, false, (.ints .u8 l)⟩)), (3, (.one ⟨false, false, (.ints .u8 lb)⟩)), (116, (.one ⟨true, false, (.ints .u8 (List.take cnt (List.drop off l) ++ List.take nb (List.drop ob lb)))⟩))], 180⟩
theorem LH_rt (ex : Bool) (M l lb : List Int) (j q off cnt ob nb w u p cc : Nat)
    (hq : q = 64 * j)
    (hl : off + cnt ≤ l.length)
    (hb : ob + nb ≤ lb.length)
    (hM : (List.take cnt (List.drop off l) ++ List.take nb (List.drop ob lb)) = List.take (cnt + nb) (List.drop (64 * j) M))
    (hL : 64 * j + cnt + nb ≤ M.length)
    (hS : M.length ≤ 4294967296)
    (hu : u = 64 * w)
    (hw : j ≤ w)
    (hp : p = 64 * (w - j))
    (hc : cc + p = cnt + nb)
    (h1 : ((↑cc : Int) > (64 : Int))) :
    CodeOk Try.prog 52 180 (kAt (kOf Try.prog Try.f68) [true, false, false]) (LHI ex M l lb off cnt ob nb w u p cc) .normal (LHI ex M l lb off cnt ob nb (w + 1) (u + 64) (p + 64) (cc - 64)) :=
  CodeOk.of_runs (fuel := 300) (v := ⟨[0], [1, 2, 3, 116], [], 180⟩) (hs := [(5, ⟨.auto, some (.c (.bool (true)))⟩), (11, ⟨.auto, some (.c (.int .u64 (↑(u + 64))))⟩), (24, ⟨.ask, some (.c (.sl 116 0 p 64 1))⟩), (29, ⟨.call [116] (.aggi .u32 [(W.hc M (w + 1) 0), (W.hc M (w + 1) 1), (W.hc M (w + 1) 2), (W.hc M (w + 1) 3), (W.hc M (w + 1) 4), (W.hc M (w + 1) 5), (W.hc M (w + 1) 6), (W.hc M (w + 1) 7)]) [] [], none⟩), (38, ⟨.ask, some (.c (.sl 116 0 (p + 64) (cc - 64) 1))⟩)])
    (cs := [((.c (.sl 116 0 (addO p 64) (Int.toNat (↑cc - 64)) 1)) : V) = (.c (.sl 116 0 (p + 64) (cc - 64) 1)),
      ((0 : Int) ≤ (64 : Int) ∧ (64 : Int) ≤ (↑cc : Int) ∧ (↑cc : Int) ≤ (↑cc : Int)),
      Contract Try.prog 89 [(.agg [(.int .u32 (W.hc M w 0)), (.int .u32 (W.hc M w 1)), (.int .u32 (W.hc M w 2)), (.int .u32 (W.hc M w 3)), (.int .u32 (W.hc M w 4)), (.int .u32 (W.hc M w 5)), (.int .u32 (W.hc M w 6)), (.int .u32 (W.hc M w 7))]), (.c (.sl 116 0 p 64 1)), (.c (.int .u64 (↑(u + 64)))), (.c (.bool (false)))] [(116, (.one ⟨true, false, (.ints .u8 (List.take cnt (List.drop off l) ++ List.take nb (List.drop ob lb)))⟩))] 628 (.aggi .u32 [(W.hc M (w + 1) 0), (W.hc M (w + 1) 1), (W.hc M (w + 1) 2), (W.hc M (w + 1) 3), (W.hc M (w + 1) 4), (W.hc M (w + 1) 5), (W.hc M (w + 1) 6), (W.hc M (w + 1) 7)]) [] [],
      ((.c (.sl 116 0 (addO p 0) 64 1)) : V) = (.c (.sl 116 0 p 64 1)),
      ((0 : Int) ≤ (0 : Int) ∧ (0 : Int) ≤ (64 : Int) ∧ (64 : Int) ≤ (↑cc : Int)),
      EI .u64 (((↑u : Int) + 64) % 18446744073709551616) ((↑(u + 64) : Int)),
      EB (decide ((↑cc : Int) > 64)) true])
    mixed (by kernel_rfl) ⟨EV.sl (by simp only [addO_eq, mulE_eq, mulE_one, Int.toNat_natCast, IntKind.wrap_i64, mmin, mmax]) (by omega), (by omega), Contract0.in1 (press_w M (List.take cnt (List.drop off l) ++ List.take nb (List.drop ob lb)) w p ((↑(u + 64) : Int)) (by simp only [and_true, List.length_set, List.length_append, List.length_replicate, List.length_take, List.length_drop, List.length_map, List.length_cons, List.length_nil, List.length_zipWith, splice_len1, W.le_len, W.bts_len, Int.toNat_natCast, addO_eq, mulE_eq, mulE_one]; omega) (by exact W.wr_side hM (by omega) (by omega) (by omega) (by omega)) (by omega)) [.b 116 1 true []] [none, none, none, none] [] [] (by kernel_rfl), EV.sl (by simp only [addO_eq, mulE_eq, mulE_one, Int.toNat_natCast, IntKind.wrap_i64, mmin, mmax]; omega) (by rfl), (by omega), .mk (by omega), .mk (decide_eq_true h1), trivial⟩
theorem LH_xf (ex : Bool) (M l lb : List Int) (j q off cnt ob nb w u p cc : Nat)
    (hq : q = 64 * j)
    (hl : off + cnt ≤ l.length)
    (hb : ob + nb ≤ lb.length)
    (hM : (List.take cnt (List.drop off l) ++ List.take nb (List.drop ob lb)) = List.take (cnt + nb) (List.drop (64 * j) M))
    (hL : 64 * j + cnt + nb ≤ M.length)
    (hS : M.length ≤ 4294967296)
    (hu : u = 64 * w)
    (hw : j ≤ w)
    (hp : p = 64 * (w - j))
    (hc : cc + p = cnt + nb)
    (h1 : (¬(↑cc : Int) > (64 : Int))) :
    CodeOk Try.prog 52 180 (kAt (kOf Try.prog Try.f68) [true, false, false]) (LHI ex M l lb off cnt ob nb w u p cc) (.exit 0) (LHI ex M l lb off cnt ob nb w u p cc) :=
  CodeOk.of_runs (fuel := 300) (v := ⟨[0], [1, 2, 3, 116], [], 180⟩) (hs := [(5, ⟨.auto, some (.c (.bool (false)))⟩)])
    (cs := [EB (decide ((↑cc : Int) > 64)) false])
    mixed (by kernel_rfl) ⟨.mk (decide_eq_false h1), trivial⟩
end Go.Proofs.Ytmfnldkiaodkpaa.Vm

namespace Go.Proofs.Ytmfnldkiaodkpaa.Vm
open Go Go.Proofs Go.Proofs.Ytmfnldkiaodkpaa
theorem write_loop (ex : Bool) (M l lb : List Int) (j q off cnt ob nb : Nat) (hq : q = 64 * j) (hl : off + cnt ≤ l.length) (hb : ob + nb ≤ lb.length) (hM : (List.take cnt (List.drop off l) ++ List.take nb (List.drop ob lb)) = List.take (cnt + nb) (List.drop (64 * j) M)) (hL : 64 * j + cnt + nb ≤ M.length) (hS : M.length ≤ 4294967296) :
    CodeOk Try.prog 52 180 (kAt (kOf Try.prog Try.f68) [true, false]) (LH0 ex M l lb j q off cnt ob nb) (.exit 0) (LHI ex M l lb off cnt ob nb (j + (cnt + nb - 1) / 64) (64 * (j + (cnt + nb - 1) / 64)) (64 * ((cnt + nb - 1) / 64)) (cnt + nb - 64 * ((cnt + nb - 1) / 64))) := by
  subst hq
  refine LH_by (fun i : Nat => LHI ex M l lb off cnt ob nb (j + i) (64 * (j + i)) (64 * i) (cnt + nb - 64 * i)) (fun i => i ≤ (cnt + nb - 1) / 64) (fun i => (cnt + nb - 1) / 64 - i) (by simp) ?_ 0 (Nat.zero_le _)
  intro i hi
  by_cases h : i < (cnt + nb - 1) / 64
  · refine .inl ⟨i + 1, h, by omega, ?_⟩
    have run := LH_rt ex M l lb j _ off cnt ob nb (j + i) (64 * (j + i)) (64 * i) (cnt + nb - 64 * i) rfl hl hb hM hL hS rfl (by omega) (by omega) (by omega) (by omega)
    have e1 : 64 * (j + i) + 64 = 64 * (j + i + 1) := by omega
    have e2 : 64 * i + 64 = 64 * (i + 1) := by omega
    have e3 : cnt + nb - 64 * i - 64 = cnt + nb - 64 * (i + 1) := by omega
    rw [e1, e2, e3] at run
    exact run
  · have e : i = (cnt + nb - 1) / 64 := by omega
    right
    rw [← e]
    exact LH_xf ex M l lb j _ off cnt ob nb (j + i) (64 * (j + i)) (64 * i) (cnt + nb - 64 * i) rfl hl hb hM hL hS rfl (by omega) (by omega) (by omega) (by omega)
end Go.Proofs.Ytmfnldkiaodkpaa.Vm

namespace Go.Proofs.Ytmfnldkiaodkpaa.Vm
open Go Go.Proofs Go.Proofs.Ytmfnldkiaodkpaa
set_option maxRecDepth 100000
theorem bwrite (ex : Bool) (M l lb : List Int) (j q off cnt ob nb : Nat)
    (hq : q = 64 * j)
    (hl : off + cnt ≤ l.length)
    (hb : ob + nb ≤ lb.length)
    (hM : (List.take cnt (List.drop off l) ++ List.take nb (List.drop ob lb)) = List.take (cnt + nb) (List.drop (64 * j) M))
    (hL : 64 * j + cnt + nb ≤ M.length)
    (hS : M.length ≤ 4294967296) :
    Contract0 Try.prog 68 [(.c (.ptr 1 0 0)), (.c (.sl 3 0 ob nb 1))] [(1, (.one ⟨true, ex, (.cells [(.int .u32 (W.hc M j 0)), (.int .u32 (W.hc M j 1)), (.int .u32 (W.hc M j 2)), (.int .u32 (W.hc M j 3)), (.int .u32 (W.hc M j 4)), (.int .u32 (W.hc M j 5)), (.int .u32 (W.hc M j 6)), (.int .u32 (W.hc M j 7)), (.int .u64 (↑q)), (.sl 2 0 off cnt 1)])⟩)), (2, (.one ⟨false, false, (.ints .u8 l)⟩)), (3, (.one ⟨false, false, (.ints .u8 lb)⟩))] 4 (.tup []) [] [(1, (.one ⟨true, ex, (.cells [(.int .u32 (W.hc M (j + (cnt + nb - 1) / 64) 0)), (.int .u32 (W.hc M (j + (cnt + nb - 1) / 64) 1)), (.int .u32 (W.hc M (j + (cnt + nb - 1) / 64) 2)), (.int .u32 (W.hc M (j + (cnt + nb - 1) / 64) 3)), (.int .u32 (W.hc M (j + (cnt + nb - 1) / 64) 4)), (.int .u32 (W.hc M (j + (cnt + nb - 1) / 64) 5)), (.int .u32 (W.hc M (j + (cnt + nb - 1) / 64) 6)), (.int .u32 (W.hc M (j + (cnt + nb - 1) / 64) 7)), (.int .u64 (↑(64 * (j + (cnt + nb - 1) / 64)))), (.sl 4 0 (64 * ((cnt + nb - 1) / 64)) (cnt + nb - 64 * ((cnt + nb - 1) / 64)) 1)])⟩)), (4, (.one ⟨true, false, (.ints .u8 (List.take cnt (List.drop off l) ++ List.take nb (List.drop ob lb)))⟩))] :=
  Contract0.renum (Contract0.of_frun (res := (.tup [])) (up := [(1, (.one ⟨true, ex, (.cells [(.int .u32 (W.hc M (j + (cnt + nb - 1) / 64) 0)), (.int .u32 (W.hc M (j + (cnt + nb - 1) / 64) 1)), (.int .u32 (W.hc M (j + (cnt + nb - 1) / 64) 2)), (.int .u32 (W.hc M (j + (cnt + nb - 1) / 64) 3)), (.int .u32 (W.hc M (j + (cnt + nb - 1) / 64) 4)), (.int .u32 (W.hc M (j + (cnt + nb - 1) / 64) 5)), (.int .u32 (W.hc M (j + (cnt + nb - 1) / 64) 6)), (.int .u32 (W.hc M (j + (cnt + nb - 1) / 64) 7)), (.int .u64 (↑(64 * (j + (cnt + nb - 1) / 64)))), (.sl 116 0 (64 * ((cnt + nb - 1) / 64)) (cnt + nb - 64 * ((cnt + nb - 1) / 64)) 1)])⟩)), (116, (.one ⟨true, false, (.ints .u8 (List.take cnt (List.drop off l) ++ List.take nb (List.drop ob lb)))⟩))]) (kill := []) (n0 := 4) (m := [(1, (.one ⟨true, ex, (.cells [(.int .u32 (W.hc M j 0)), (.int .u32 (W.hc M j 1)), (.int .u32 (W.hc M j 2)), (.int .u32 (W.hc M j 3)), (.int .u32 (W.hc M j 4)), (.int .u32 (W.hc M j 5)), (.int .u32 (W.hc M j 6)), (.int .u32 (W.hc M j 7)), (.int .u64 (↑q)), (.sl 2 0 off cnt 1)])⟩)), (2, (.one ⟨false, false, (.ints .u8 l)⟩)), (3, (.one ⟨false, false, (.ints .u8 lb)⟩))]) (args := [(.c (.ptr 1 0 0)), (.c (.sl 3 0 ob nb 1))]) (fn := Try.f68) (c := bodyOf Try.f68) (fuel := 300) (k := kOf Try.prog Try.f68) (outs := [1, 116]) (hs := [(7, ⟨.call [100, 2, 3] (.c (.sl 116 0 0 (cnt + nb) 1)) [] [(116, (.one ⟨true, false, (.ints .u8 (List.take cnt (List.drop off l) ++ List.take nb (List.drop ob lb)))⟩))], none⟩), (11, ⟨.sum ⟨[0], [1, 2, 3, 116], [], 180⟩ (.exit 0) (LHI ex M l lb off cnt ob nb (j + (cnt + nb - 1) / 64) (64 * (j + (cnt + nb - 1) / 64)) (64 * ((cnt + nb - 1) / 64)) (cnt + nb - 64 * ((cnt + nb - 1) / 64))), none⟩)])
    (cs := [CodeOk Try.prog 52 180 (kAt (kOf Try.prog Try.f68) [true, false]) (LH0 ex M l lb j q off cnt ob nb) (.exit 0) (LHI ex M l lb off cnt ob nb (j + (cnt + nb - 1) / 64) (64 * (j + (cnt + nb - 1) / 64)) (64 * ((cnt + nb - 1) / 64)) (cnt + nb - 64 * ((cnt + nb - 1) / 64))),
      Contract Try.prog 57 [(.c (.sl 100 0 0 2 1))] [(100, (.one ⟨true, true, (.cells [(.sl 2 0 off cnt 1), (.sl 3 0 ob nb 1)])⟩)), (2, (.one ⟨false, false, (.ints .u8 l)⟩)), (3, (.one ⟨false, false, (.ints .u8 lb)⟩))] 116 (.c (.sl 116 0 0 (cnt + nb) 1)) [] [(116, (.one ⟨true, false, (.ints .u8 (List.take cnt (List.drop off l) ++ List.take nb (List.drop ob lb)))⟩))]])
    mixed Try.func68 (by kernel_rfl) (by kernel_rfl) (by kernel_rfl) (by kernel_rfl) (by kernel_rfl) ⟨(write_loop ex M l lb j q off cnt ob nb (by omega) (by omega) (by omega) (by omega) (by omega) (by omega)), Contract0.in1 (join2 l lb off cnt ob nb (by omega) (by omega) (by omega)) [.b 100 1 true [], .b 2 2 true [], .b 3 3 true []] [none] [(4, 116)] [] (by kernel_rfl), trivial⟩) [.b 1 1 false, .b 2 2 true, .b 3 3 true] [] [(116, 4)] [] (by kernel_rfl) (by kernel_rfl) (by kernel_rfl) (by kernel_rfl) (by kernel_rfl)
theorem bsum (M l : List Int) (j q off cnt : Nat)
    (hq : q = 64 * j)
    (hl : off + cnt ≤ l.length)
    (h64 : cnt ≤ 64)
    (hj : j = (M.length - 1) / 64)
    (hc : M.length = 64 * j + cnt)
    (hm : List.take cnt (List.drop off l) = List.drop (64 * j) M)
    (hS : M.length ≤ 4294967296)
    (c0 : (splice [(0 : Int), (0 : Int), (0 : Int), (0 : Int), (0 : Int), (0 : Int), (0 : Int), (0 : Int), (0 : Int), (0 : Int), (0 : Int), (0 : Int), (0 : Int), (0 : Int), (0 : Int), (0 : Int), (0 : Int), (0 : Int), (0 : Int), (0 : Int), (0 : Int), (0 : Int), (0 : Int), (0 : Int), (0 : Int), (0 : Int), (0 : Int), (0 : Int), (0 : Int), (0 : Int), (0 : Int), (0 : Int), (0 : Int), (0 : Int), (0 : Int), (0 : Int), (0 : Int), (0 : Int), (0 : Int), (0 : Int), (0 : Int), (0 : Int), (0 : Int), (0 : Int), (0 : Int), (0 : Int), (0 : Int), (0 : Int), (0 : Int), (0 : Int), (0 : Int), (0 : Int), (0 : Int), (0 : Int), (0 : Int), (0 : Int), (0 : Int), (0 : Int), (0 : Int), (0 : Int), (0 : Int), (0 : Int), (0 : Int), (0 : Int)] (0 : Nat) (List.take (min cnt (64 : Nat)) (List.take cnt (List.drop off l))) = W.lastB M))
    (c1 : ((0 : Int) ≤ W.hz M (0 : Nat) ∧ W.hz M (0 : Nat) < (4294967296 : Int)))
    (c2 : ((0 : Int) ≤ W.hz M (1 : Nat) ∧ W.hz M (1 : Nat) < (4294967296 : Int)))
    (c3 : ((0 : Int) ≤ W.hz M (2 : Nat) ∧ W.hz M (2 : Nat) < (4294967296 : Int)))
    (c4 : ((0 : Int) ≤ W.hz M (3 : Nat) ∧ W.hz M (3 : Nat) < (4294967296 : Int)))
    (c5 : ((0 : Int) ≤ W.hz M (4 : Nat) ∧ W.hz M (4 : Nat) < (4294967296 : Int)))
    (c6 : ((0 : Int) ≤ W.hz M (5 : Nat) ∧ W.hz M (5 : Nat) < (4294967296 : Int)))
    (c7 : ((0 : Int) ≤ W.hz M (6 : Nat) ∧ W.hz M (6 : Nat) < (4294967296 : Int)))
    (c8 : ((0 : Int) ≤ W.hz M (7 : Nat) ∧ W.hz M (7 : Nat) < (4294967296 : Int))) :
    Contract0 Try.prog 69 [(.c (.ptr 1 0 0))] [(1, (.one ⟨false, false, (.cells [(.int .u32 (W.hc M j 0)), (.int .u32 (W.hc M j 1)), (.int .u32 (W.hc M j 2)), (.int .u32 (W.hc M j 3)), (.int .u32 (W.hc M j 4)), (.int .u32 (W.hc M j 5)), (.int .u32 (W.hc M j 6)), (.int .u32 (W.hc M j 7)), (.int .u64 (↑q)), (.sl 2 0 off cnt 1)])⟩)), (2, (.one ⟨false, false, (.ints .u8 l)⟩))] 3 (.aggi .u8 [(W.hz M 0 % 256), (W.hz M 0 / 256 % 256), (W.hz M 0 / 65536 % 256), (W.hz M 0 / 16777216 % 256), (W.hz M 1 % 256), (W.hz M 1 / 256 % 256), (W.hz M 1 / 65536 % 256), (W.hz M 1 / 16777216 % 256), (W.hz M 2 % 256), (W.hz M 2 / 256 % 256), (W.hz M 2 / 65536 % 256), (W.hz M 2 / 16777216 % 256), (W.hz M 3 % 256), (W.hz M 3 / 256 % 256), (W.hz M 3 / 65536 % 256), (W.hz M 3 / 16777216 % 256), (W.hz M 4 % 256), (W.hz M 4 / 256 % 256), (W.hz M 4 / 65536 % 256), (W.hz M 4 / 16777216 % 256), (W.hz M 5 % 256), (W.hz M 5 / 256 % 256), (W.hz M 5 / 65536 % 256), (W.hz M 5 / 16777216 % 256), (W.hz M 6 % 256), (W.hz M 6 / 256 % 256), (W.hz M 6 / 65536 % 256), (W.hz M 6 / 16777216 % 256), (W.hz M 7 % 256), (W.hz M 7 / 256 % 256), (W.hz M 7 / 65536 % 256), (W.hz M 7 / 16777216 % 256)]) [] [] :=
  Contract0.fr 300 [(8, ⟨.ask, some (.c (.int .i64 (↑cnt)))⟩), (23, ⟨.auto, some (.c (.int .u64 (↑cnt)))⟩), (24, ⟨.auto, some (.c (.int .u64 (↑(q + cnt))))⟩), (25, ⟨.call [19] (.aggi .u32 [(W.hz M 0), (W.hz M 1), (W.hz M 2), (W.hz M 3), (W.hz M 4), (W.hz M 5), (W.hz M 6), (W.hz M 7)]) [] [], none⟩), (41, ⟨.call [] (.c (.sl 643 0 0 4 1)) [] [(643, (.one ⟨true, true, (.ints .u8 (W.p4 (W.hz M 0)))⟩))], none⟩), (55, ⟨.call [] (.c (.sl 851 0 0 4 1)) [] [(851, (.one ⟨true, true, (.ints .u8 (W.p4 (W.hz M 1)))⟩))], none⟩), (69, ⟨.call [] (.c (.sl 1059 0 0 4 1)) [] [(1059, (.one ⟨true, true, (.ints .u8 (W.p4 (W.hz M 2)))⟩))], none⟩), (83, ⟨.call [] (.c (.sl 1267 0 0 4 1)) [] [(1267, (.one ⟨true, true, (.ints .u8 (W.p4 (W.hz M 3)))⟩))], none⟩), (97, ⟨.call [] (.c (.sl 1475 0 0 4 1)) [] [(1475, (.one ⟨true, true, (.ints .u8 (W.p4 (W.hz M 4)))⟩))], none⟩), (111, ⟨.call [] (.c (.sl 1683 0 0 4 1)) [] [(1683, (.one ⟨true, true, (.ints .u8 (W.p4 (W.hz M 5)))⟩))], none⟩), (125, ⟨.call [] (.c (.sl 1891 0 0 4 1)) [] [(1891, (.one ⟨true, true, (.ints .u8 (W.p4 (W.hz M 6)))⟩))], none⟩), (139, ⟨.call [] (.c (.sl 2099 0 0 4 1)) [] [(2099, (.one ⟨true, true, (.ints .u8 (W.p4 (W.hz M 7)))⟩))], none⟩)] [] [Contract Try.prog 90 [(.c (.int .u32 (W.hz M 7)))] [] 2099 (.c (.sl 2099 0 0 4 1)) [] [(2099, (.one ⟨true, true, (.ints .u8 (W.p4 (W.hz M 7)))⟩))],
      Contract Try.prog 90 [(.c (.int .u32 (W.hz M 6)))] [] 1891 (.c (.sl 1891 0 0 4 1)) [] [(1891, (.one ⟨true, true, (.ints .u8 (W.p4 (W.hz M 6)))⟩))],
      Contract Try.prog 90 [(.c (.int .u32 (W.hz M 5)))] [] 1683 (.c (.sl 1683 0 0 4 1)) [] [(1683, (.one ⟨true, true, (.ints .u8 (W.p4 (W.hz M 5)))⟩))],
      Contract Try.prog 90 [(.c (.int .u32 (W.hz M 4)))] [] 1475 (.c (.sl 1475 0 0 4 1)) [] [(1475, (.one ⟨true, true, (.ints .u8 (W.p4 (W.hz M 4)))⟩))],
      Contract Try.prog 90 [(.c (.int .u32 (W.hz M 3)))] [] 1267 (.c (.sl 1267 0 0 4 1)) [] [(1267, (.one ⟨true, true, (.ints .u8 (W.p4 (W.hz M 3)))⟩))],
      Contract Try.prog 90 [(.c (.int .u32 (W.hz M 2)))] [] 1059 (.c (.sl 1059 0 0 4 1)) [] [(1059, (.one ⟨true, true, (.ints .u8 (W.p4 (W.hz M 2)))⟩))],
      Contract Try.prog 90 [(.c (.int .u32 (W.hz M 1)))] [] 851 (.c (.sl 851 0 0 4 1)) [] [(851, (.one ⟨true, true, (.ints .u8 (W.p4 (W.hz M 1)))⟩))],
      Contract Try.prog 90 [(.c (.int .u32 (W.hz M 0)))] [] 643 (.c (.sl 643 0 0 4 1)) [] [(643, (.one ⟨true, true, (.ints .u8 (W.p4 (W.hz M 0)))⟩))],
      Contract Try.prog 89 [(.agg [(.int .u32 (W.hc M j 0)), (.int .u32 (W.hc M j 1)), (.int .u32 (W.hc M j 2)), (.int .u32 (W.hc M j 3)), (.int .u32 (W.hc M j 4)), (.int .u32 (W.hc M j 5)), (.int .u32 (W.hc M j 6)), (.int .u32 (W.hc M j 7))]), (.c (.sl 19 0 0 64 1)), (.c (.int .u64 (↑(q + cnt)))), (.c (.bool (true)))] [(19, (.one ⟨true, true, (.ints .u8 (splice [0, 0, 0, 0, 0, 0, 0, 0, 0, 0, 0, 0, 0, 0, 0, 0, 0, 0, 0, 0, 0, 0, 0, 0, 0, 0, 0, 0, 0, 0, 0, 0, 0, 0, 0, 0, 0, 0, 0, 0, 0, 0, 0, 0, 0, 0, 0, 0, 0, 0, 0, 0, 0, 0, 0, 0, 0, 0, 0, 0, 0, 0, 0, 0] 0 (List.take (min cnt 64) (List.take cnt (List.drop off l)))))⟩))] 403 (.aggi .u32 [(W.hz M 0), (W.hz M 1), (W.hz M 2), (W.hz M 3), (W.hz M 4), (W.hz M 5), (W.hz M 6), (W.hz M 7)]) [] [],
      EI .u64 (((↑q : Int) + (↑cnt : Int)) % 18446744073709551616) ((↑(q + cnt) : Int)),
      EI .u64 ((↑cnt : Int) % 18446744073709551616) ((↑cnt : Int)),
      EI .i64 ((↑(min cnt 64) : Int)) ((↑cnt : Int)),
      (off + cnt * (1 : Nat) ≤ List.length l ∧ (64 : Nat) ≤ (64 : Nat))] mixed Try.func69 (by kernel_rfl) ⟨Contract0.in1 (Put32 (W.hz M 7) c8) [] [none] [(1, 2099)] [] (by kernel_rfl), Contract0.in1 (Put32 (W.hz M 6) c7) [] [none] [(1, 1891)] [] (by kernel_rfl), Contract0.in1 (Put32 (W.hz M 5) c6) [] [none] [(1, 1683)] [] (by kernel_rfl), Contract0.in1 (Put32 (W.hz M 4) c5) [] [none] [(1, 1475)] [] (by kernel_rfl), Contract0.in1 (Put32 (W.hz M 3) c4) [] [none] [(1, 1267)] [] (by kernel_rfl), Contract0.in1 (Put32 (W.hz M 2) c3) [] [none] [(1, 1059)] [] (by kernel_rfl), Contract0.in1 (Put32 (W.hz M 1) c2) [] [none] [(1, 851)] [] (by kernel_rfl), Contract0.in1 (Put32 (W.hz M 0) c1) [] [none] [(1, 643)] [] (by kernel_rfl), Contract0.in1 (press_l M (splice [0, 0, 0, 0, 0, 0, 0, 0, 0, 0, 0, 0, 0, 0, 0, 0, 0, 0, 0, 0, 0, 0, 0, 0, 0, 0, 0, 0, 0, 0, 0, 0, 0, 0, 0, 0, 0, 0, 0, 0, 0, 0, 0, 0, 0, 0, 0, 0, 0, 0, 0, 0, 0, 0, 0, 0, 0, 0, 0, 0, 0, 0, 0, 0] 0 (List.take (min cnt 64) (List.take cnt (List.drop off l)))) j ((↑(q + cnt) : Int)) (by omega) (by omega) c0) [.b 19 1 true []] [none, none, none, none] [] [] (by kernel_rfl), .mk (by omega), .mk (by omega), .mk (by omega), (by omega), trivial⟩
end Go.Proofs.Ytmfnldkiaodkpaa.Vm

namespace Go.Proofs.Ytmfnldkiaodkpaa.Vm
open Go Go.Proofs Go.Proofs.Ytmfnldkiaodkpaa
theorem splice_0 {l s : List Int} (h : s.length ≤ l.length) : splice l 0 s = s ++ List.drop s.length l := by
  unfold splice
  split
  · rename_i x
    cases l with
    | nil => simp at h
    | cons a r => simp
  · simp
theorem last_side' {M l : List Int} {j off cnt : Nat} (hl : off + cnt ≤ l.length) (h64 : cnt ≤ 64) (hj : j = (M.length - 1) / 64) (hc : M.length = 64 * j + cnt) (hm : List.take cnt (List.drop off l) = List.drop (64 * j) M) :
    splice [0, 0, 0, 0, 0, 0, 0, 0, 0, 0, 0, 0, 0, 0, 0, 0, 0, 0, 0, 0, 0, 0, 0, 0, 0, 0, 0, 0, 0, 0, 0, 0, 0, 0, 0, 0, 0, 0, 0, 0, 0, 0, 0, 0, 0, 0, 0, 0, 0, 0, 0, 0, 0, 0, 0, 0, 0, 0, 0, 0, 0, 0, 0, 0] 0 (List.take (min cnt 64) (List.take cnt (List.drop off l))) = W.lastB M := by
  have e : ([0, 0, 0, 0, 0, 0, 0, 0, 0, 0, 0, 0, 0, 0, 0, 0, 0, 0, 0, 0, 0, 0, 0, 0, 0, 0, 0, 0, 0, 0, 0, 0, 0, 0, 0, 0, 0, 0, 0, 0, 0, 0, 0, 0, 0, 0, 0, 0, 0, 0, 0, 0, 0, 0, 0, 0, 0, 0, 0, 0, 0, 0, 0, 0] : List Int) = List.replicate 64 0 := rfl
  have hs : (List.take cnt (List.drop off l)).length = cnt := seg_len hl
  have hmin : min cnt 64 = cnt := Nat.min_eq_left h64
  rw [e, hmin, List.take_take, Nat.min_self]
  have k : (List.take cnt (List.drop off l)).length ≤ (List.replicate 64 (0 : Int)).length := by rw [hs, List.length_replicate]; exact h64
  rw [splice_0 k, hs, hm, List.drop_replicate]
  unfold W.lastB
  rw [← hj]
  congr 2
  omega
theorem hz_range (M : List Int) (i : Nat) : 0 ≤ W.hz M i ∧ W.hz M i < 4294967296 := by
  have key : ∀ a b : Int, 0 ≤ bXor IntKind.u32 a b ∧ bXor IntKind.u32 a b < 4294967296 := by
    intro a b
    unfold bXor
    simp only [IntKind.wrap, IntKind.signed, IntKind.bits]
    constructor
    · exact Int.emod_nonneg _ (by decide)
    · exact Int.emod_lt_of_pos _ (by decide)
  rw [W.hz_eq]
  by_cases hi : i < 8
  · match i, hi with
    | 0, _ => exact key _ _
    | 1, _ => exact key _ _
    | 2, _ => exact key _ _
    | 3, _ => exact key _ _
    | 4, _ => exact key _ _
    | 5, _ => exact key _ _
    | 6, _ => exact key _ _
    | 7, _ => exact key _ _
  · rw [List.getD_eq_getElem?_getD, List.getElem?_eq_none (by have : (W.hzl M).length = 8 := rfl; omega)]
    exact ⟨by decide, by decide⟩
end Go.Proofs.Ytmfnldkiaodkpaa.Vm

namespace Go.Proofs.Ytmfnldkiaodkpaa.Vm
open Go Go.Proofs Go.Proofs.Ytmfnldkiaodkpaa
end Go.Proofs.Ytmfnldkiaodkpaa.Vm
namespace Go.Proofs.Ytmfnldkiaodkpaa.W
open Go Go.Proofs.Ytmfnldkiaodkpaa.Vm
theorem bsum_ex (M : List Int) : ∃ y : Int, [W.hz M 0 % 256, W.hz M 0 / 256 % 256, W.hz M 0 / 65536 % 256, W.hz M 0 / 16777216 % 256, W.hz M 1 % 256, W.hz M 1 / 256 % 256, W.hz M 1 / 65536 % 256, W.hz M 1 / 16777216 % 256, W.hz M 2 % 256, W.hz M 2 / 256 % 256, W.hz M 2 / 65536 % 256, W.hz M 2 / 16777216 % 256, W.hz M 3 % 256, W.hz M 3 / 256 % 256, W.hz M 3 / 65536 % 256, W.hz M 3 / 16777216 % 256, W.hz M 4 % 256, W.hz M 4 / 256 % 256, W.hz M 4 / 65536 % 256, W.hz M 4 / 16777216 % 256, W.hz M 5 % 256, W.hz M 5 / 256 % 256, W.hz M 5 / 65536 % 256, W.hz M 5 / 16777216 % 256, W.hz M 6 % 256, W.hz M 6 / 256 % 256, W.hz M 6 / 65536 % 256, W.hz M 6 / 16777216 % 256, W.hz M 7 % 256, W.hz M 7 / 256 % 256, W.hz M 7 / 65536 % 256, W.hz M 7 / 16777216 % 256] = bts y := by
  refine ⟨_, key_bts (k := [W.hz M 0 % 256, W.hz M 0 / 256 % 256, W.hz M 0 / 65536 % 256, W.hz M 0 / 16777216 % 256, W.hz M 1 % 256, W.hz M 1 / 256 % 256, W.hz M 1 / 65536 % 256, W.hz M 1 / 16777216 % 256, W.hz M 2 % 256, W.hz M 2 / 256 % 256, W.hz M 2 / 65536 % 256, W.hz M 2 / 16777216 % 256, W.hz M 3 % 256, W.hz M 3 / 256 % 256, W.hz M 3 / 65536 % 256, W.hz M 3 / 16777216 % 256, W.hz M 4 % 256, W.hz M 4 / 256 % 256, W.hz M 4 / 65536 % 256, W.hz M 4 / 16777216 % 256, W.hz M 5 % 256, W.hz M 5 / 256 % 256, W.hz M 5 / 65536 % 256, W.hz M 5 / 16777216 % 256, W.hz M 6 % 256, W.hz M 6 / 256 % 256, W.hz M 6 / 65536 % 256, W.hz M 6 / 16777216 % 256, W.hz M 7 % 256, W.hz M 7 / 256 % 256, W.hz M 7 / 65536 % 256, W.hz M 7 / 16777216 % 256]) rfl ?_⟩
  intro x hx
  simp only [List.mem_cons, List.not_mem_nil, or_false] at hx
  rcases hx with rfl | rfl | rfl | rfl | rfl | rfl | rfl | rfl | rfl | rfl | rfl | rfl | rfl | rfl | rfl | rfl | rfl | rfl | rfl | rfl | rfl | rfl | rfl | rfl | rfl | rfl | rfl | rfl | rfl | rfl | rfl | rfl <;> omega
noncomputable def bsum (M : List Int) : Int := Classical.choose (bsum_ex M)
theorem bsum_eq (M : List Int) : [W.hz M 0 % 256, W.hz M 0 / 256 % 256, W.hz M 0 / 65536 % 256, W.hz M 0 / 16777216 % 256, W.hz M 1 % 256, W.hz M 1 / 256 % 256, W.hz M 1 / 65536 % 256, W.hz M 1 / 16777216 % 256, W.hz M 2 % 256, W.hz M 2 / 256 % 256, W.hz M 2 / 65536 % 256, W.hz M 2 / 16777216 % 256, W.hz M 3 % 256, W.hz M 3 / 256 % 256, W.hz M 3 / 65536 % 256, W.hz M 3 / 16777216 % 256, W.hz M 4 % 256, W.hz M 4 / 256 % 256, W.hz M 4 / 65536 % 256, W.hz M 4 / 16777216 % 256, W.hz M 5 % 256, W.hz M 5 / 256 % 256, W.hz M 5 / 65536 % 256, W.hz M 5 / 16777216 % 256, W.hz M 6 % 256, W.hz M 6 / 256 % 256, W.hz M 6 / 65536 % 256, W.hz M 6 / 16777216 % 256, W.hz M 7 % 256, W.hz M 7 / 256 % 256, W.hz M 7 / 65536 % 256, W.hz M 7 / 16777216 % 256] = bts (bsum M) := Classical.choose_spec (bsum_ex M)
end Go.Proofs.Ytmfnldkiaodkpaa.W
namespace Go.Proofs.Ytmfnldkiaodkpaa.Vm
open Go Go.Proofs Go.Proofs.Ytmfnldkiaodkpaa
theorem bsum_ok (M l : List Int) (j q off cnt : Nat) (h0_ : q = 64 * j) (h1_ : off + cnt ≤ l.length) (h2_ : cnt ≤ 64) (h3_ : j = (M.length - 1) / 64) (h4_ : M.length = 64 * j + cnt) (h5_ : List.take cnt (List.drop off l) = List.drop (64 * j) M) (h6_ : M.length ≤ 4294967296) : Contract0 Try.prog 69 [(.c (.ptr 1 0 0))] [(1, (.one ⟨false, false, .cells [.int .u32 (W.hc M j 0), .int .u32 (W.hc M j 1), .int .u32 (W.hc M j 2), .int .u32 (W.hc M j 3), .int .u32 (W.hc M j 4), .int .u32 (W.hc M j 5), .int .u32 (W.hc M j 6), .int .u32 (W.hc M j 7), .int .u64 (q : Int), .sl 2 0 off cnt 1]⟩)), (2, (.one ⟨false, false, (.ints .u8 l)⟩))] 3 (.aggi .u8 (W.bts (W.bsum M))) [] [] := by
  have e := bsum M l j q off cnt h0_ h1_ h2_ h3_ h4_ h5_ h6_ (last_side' h1_ h2_ h3_ h4_ h5_) (hz_range M 0) (hz_range M 1) (hz_range M 2) (hz_range M 3) (hz_range M 4) (hz_range M 5) (hz_range M 6) (hz_range M 7)
  rw [W.bsum_eq] at e
  exact e
theorem bnew_ok (M : List Int)  : Contract0 Try.prog 67 [] [] 1 (.c (.ptr 1 0 0)) [] [(1, (.one ⟨true, true, .cells [.int .u32 (W.hc M 0 0), .int .u32 (W.hc M 0 1), .int .u32 (W.hc M 0 2), .int .u32 (W.hc M 0 3), .int .u32 (W.hc M 0 4), .int .u32 (W.hc M 0 5), .int .u32 (W.hc M 0 6), .int .u32 (W.hc M 0 7), .int .u64 0, .nils]⟩))] := by
  have e0 : W.hc M 0 0 = 1795745351 := by rw [W.hc_eq]; rfl
  have e1 : W.hc M 0 1 = 3144134277 := by rw [W.hc_eq]; rfl
  have e2 : W.hc M 0 2 = 1013904242 := by rw [W.hc_eq]; rfl
  have e3 : W.hc M 0 3 = 2773480762 := by rw [W.hc_eq]; rfl
  have e4 : W.hc M 0 4 = 1359893119 := by rw [W.hc_eq]; rfl
  have e5 : W.hc M 0 5 = 2600822924 := by rw [W.hc_eq]; rfl
  have e6 : W.hc M 0 6 = 528734635 := by rw [W.hc_eq]; rfl
  have e7 : W.hc M 0 7 = 1541459225 := by rw [W.hc_eq]; rfl
  rw [e0, e1, e2, e3, e4, e5, e6, e7]
  exact bnew
end Go.Proofs.Ytmfnldkiaodkpaa.Vm
