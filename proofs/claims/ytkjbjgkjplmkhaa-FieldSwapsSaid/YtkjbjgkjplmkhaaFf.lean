/- What functions of the program come to: parts of the walk (Ff). -/
import Derived.Test.YtkjbjgkjplmkhaaFc
import Derived.KernelRfl
import Derived.Test.YtkjbjgkjplmkhaaProg
namespace Go.Proofs.Ytkjbjgkjplmkhaa.Vm
open Go Go.Proofs Go.Proofs.Ytkjbjgkjplmkhaa
set_option maxRecDepth 100000
theorem run4 (a b c : Int) (r14_0e r14_2e r20_4e r20_4g : W.El) (x7 : Int) (r14_10e r14_13e : W.El) (r16_16n : Int) (r14_18e : W.El) (r16_20n : Int) (q23 : Bool)
    (c1 : PureF Try.prog 14 [(.aggi .u8 (Go.Proofs.Ytkjbjgkjplmkhaa.W.bts a))] (.aggi .u64 (W.el r14_0e)))
    (c3 : PureF Try.prog 14 [(.aggi .u8 (Go.Proofs.Ytkjbjgkjplmkhaa.W.bts b))] (.aggi .u64 (W.el r14_2e)))
    (c5 : PureF Try.prog 20 [(.aggi .u64 (W.el r14_0e)), (.aggi .u64 (W.el r14_2e)), (.c (.int .u64 c))] (.tup [(.aggi .u64 (W.el r20_4e)), (.aggi .u64 (W.el r20_4g))]))
    (h6 : (Int.tmod c 2) = x7)
    (h8 : (x7 == 1) = true)
    (c9 : PureF Try.prog 18 [] (.c (.bool (true))))
    (c11 : PureF Try.prog 14 [(.aggi .u8 (Go.Proofs.Ytkjbjgkjplmkhaa.W.bts a))] (.aggi .u64 (W.el r14_10e)))
    (c12 : PureF Try.prog 19 [(.aggi .u64 (W.el r20_4g)), (.aggi .u64 (W.el r14_10e))] (.c (.bool (true))))
    (c14 : PureF Try.prog 14 [(.aggi .u8 (Go.Proofs.Ytkjbjgkjplmkhaa.W.bts b))] (.aggi .u64 (W.el r14_13e)))
    (c15 : PureF Try.prog 19 [(.aggi .u64 (W.el r20_4e)), (.aggi .u64 (W.el r14_13e))] (.c (.bool (true))))
    (c17 : PureF Try.prog 16 [(.aggi .u64 (W.el r20_4g))] (.aggi .u8 (W.bts r16_16n)))
    (c19 : PureF Try.prog 14 [(.aggi .u8 (Go.Proofs.Ytkjbjgkjplmkhaa.W.bts a))] (.aggi .u64 (W.el r14_18e)))
    (c21 : PureF Try.prog 16 [(.aggi .u64 (W.el r14_18e))] (.aggi .u8 (W.bts r16_20n)))
    (h22 : (W.bts r16_16n == W.bts r16_20n) = q23) :
    PureF Try.prog 4 [(.aggi .u8 (W.bts a)), (.aggi .u8 (W.bts b)), (.c (.int .u64 c))] (.c (.bool q23)) :=
  Contract0.of_frun (fn := Try.f4) (c := bodyOf Try.f4) (fuel := 300) (k := kOf Try.prog Try.f4) (outs := []) (hs := [(4, ⟨.call [] (.aggi .u64 (W.el r14_0e)) [] [], none⟩), (6, ⟨.call [] (.aggi .u64 (W.el r14_2e)) [] [], none⟩), (8, ⟨.call [] (.tup [(.aggi .u64 (W.el r20_4e)), (.aggi .u64 (W.el r20_4g))]) [] [], none⟩), (17, ⟨.auto, some (.c (.int .u64 x7))⟩), (18, ⟨.auto, some (.c (.bool (true)))⟩), (24, ⟨.call [] (.c (.bool (true))) [] [], none⟩), (28, ⟨.call [] (.aggi .u64 (W.el r14_10e)) [] [], none⟩), (29, ⟨.call [] (.c (.bool (true))) [] [], none⟩), (34, ⟨.call [] (.aggi .u64 (W.el r14_13e)) [] [], none⟩), (35, ⟨.call [] (.c (.bool (true))) [] [], none⟩), (39, ⟨.call [] (.aggi .u8 (W.bts r16_16n)) [] [], none⟩), (41, ⟨.call [] (.aggi .u64 (W.el r14_18e)) [] [], none⟩), (42, ⟨.call [] (.aggi .u8 (W.bts r16_20n)) [] [], none⟩), (43, ⟨.auto, some (.c (.bool q23))⟩)])
    (cs := [EB (W.bts r16_16n == W.bts r16_20n) q23,
      Contract Try.prog 16 [(.aggi .u64 (W.el r14_18e))] [] 657 (.aggi .u8 (W.bts r16_20n)) [] [],
      Contract Try.prog 14 [(.aggi .u8 (Go.Proofs.Ytkjbjgkjplmkhaa.W.bts a))] [] 641 (.aggi .u64 (W.el r14_18e)) [] [],
      Contract Try.prog 16 [(.agg [(.int .u64 (W.El.a0 r20_4g)), (.int .u64 (W.El.a1 r20_4g)), (.int .u64 (W.El.a2 r20_4g)), (.int .u64 (W.El.a3 r20_4g)), (.int .u64 (W.El.a4 r20_4g))])] [] 609 (.aggi .u8 (W.bts r16_16n)) [] [],
      Contract Try.prog 19 [(.agg [(.int .u64 (W.El.a0 r20_4e)), (.int .u64 (W.El.a1 r20_4e)), (.int .u64 (W.El.a2 r20_4e)), (.int .u64 (W.El.a3 r20_4e)), (.int .u64 (W.El.a4 r20_4e))]), (.aggi .u64 (W.el r14_13e))] [] 545 (.c (.bool (true))) [] [],
      Contract Try.prog 14 [(.aggi .u8 (Go.Proofs.Ytkjbjgkjplmkhaa.W.bts b))] [] 529 (.aggi .u64 (W.el r14_13e)) [] [],
      Contract Try.prog 19 [(.agg [(.int .u64 (W.El.a0 r20_4g)), (.int .u64 (W.El.a1 r20_4g)), (.int .u64 (W.El.a2 r20_4g)), (.int .u64 (W.El.a3 r20_4g)), (.int .u64 (W.El.a4 r20_4g))]), (.aggi .u64 (W.el r14_10e))] [] 449 (.c (.bool (true))) [] [],
      Contract Try.prog 14 [(.aggi .u8 (Go.Proofs.Ytkjbjgkjplmkhaa.W.bts a))] [] 433 (.aggi .u64 (W.el r14_10e)) [] [],
      Contract Try.prog 18 [] [] 369 (.c (.bool (true))) [] [],
      EB (x7 == 1) true,
      EI .u64 (Int.tmod c 2) x7,
      Contract Try.prog 20 [(.aggi .u64 (W.el r14_0e)), (.aggi .u64 (W.el r14_2e)), (.c (.int .u64 c))] [] 129 (.tup [(.aggi .u64 (W.el r20_4e)), (.aggi .u64 (W.el r20_4g))]) [] [],
      Contract Try.prog 14 [(.aggi .u8 (Go.Proofs.Ytkjbjgkjplmkhaa.W.bts b))] [] 97 (.aggi .u64 (W.el r14_2e)) [] [],
      Contract Try.prog 14 [(.aggi .u8 (Go.Proofs.Ytkjbjgkjplmkhaa.W.bts a))] [] 65 (.aggi .u64 (W.el r14_0e)) [] []])
    mixed Try.func4 (by kernel_rfl) (by kernel_rfl) (by kernel_rfl) rfl (by kernel_rfl) ⟨.mk h22, c21.use (by kernel_rfl) rfl rfl _ _, c19.use (by kernel_rfl) rfl rfl _ _, c17.use (by kernel_rfl) rfl rfl _ _, c15.use (by kernel_rfl) rfl rfl _ _, c14.use (by kernel_rfl) rfl rfl _ _, c12.use (by kernel_rfl) rfl rfl _ _, c11.use (by kernel_rfl) rfl rfl _ _, c9.use (by kernel_rfl) rfl rfl _ _, .mk h8, .mk h6, c5.use (by kernel_rfl) rfl rfl _ _, c3.use (by kernel_rfl) rfl rfl _ _, c1.use (by kernel_rfl) rfl rfl _ _, trivial⟩

theorem run4b (a b c : Int) (r14_0e r14_2e r20_4e r20_4g : W.El) (x7 : Int) (r14_10e r14_13e : W.El) (r16_16n : Int) (r14_18e : W.El) (r16_20n : Int) (q23 : Bool)
    (c1 : PureF Try.prog 14 [(.aggi .u8 (Go.Proofs.Ytkjbjgkjplmkhaa.W.bts a))] (.aggi .u64 (W.el r14_0e)))
    (c3 : PureF Try.prog 14 [(.aggi .u8 (Go.Proofs.Ytkjbjgkjplmkhaa.W.bts b))] (.aggi .u64 (W.el r14_2e)))
    (c5 : PureF Try.prog 20 [(.aggi .u64 (W.el r14_0e)), (.aggi .u64 (W.el r14_2e)), (.c (.int .u64 c))] (.tup [(.aggi .u64 (W.el r20_4e)), (.aggi .u64 (W.el r20_4g))]))
    (h6 : (Int.tmod c 2) = x7)
    (h8 : (x7 == 1) = false)
    (c9 : PureF Try.prog 18 [] (.c (.bool (true))))
    (c11 : PureF Try.prog 14 [(.aggi .u8 (Go.Proofs.Ytkjbjgkjplmkhaa.W.bts a))] (.aggi .u64 (W.el r14_10e)))
    (c12 : PureF Try.prog 19 [(.aggi .u64 (W.el r20_4e)), (.aggi .u64 (W.el r14_10e))] (.c (.bool (true))))
    (c14 : PureF Try.prog 14 [(.aggi .u8 (Go.Proofs.Ytkjbjgkjplmkhaa.W.bts b))] (.aggi .u64 (W.el r14_13e)))
    (c15 : PureF Try.prog 19 [(.aggi .u64 (W.el r20_4g)), (.aggi .u64 (W.el r14_13e))] (.c (.bool (true))))
    (c17 : PureF Try.prog 16 [(.aggi .u64 (W.el r20_4e))] (.aggi .u8 (W.bts r16_16n)))
    (c19 : PureF Try.prog 14 [(.aggi .u8 (Go.Proofs.Ytkjbjgkjplmkhaa.W.bts a))] (.aggi .u64 (W.el r14_18e)))
    (c21 : PureF Try.prog 16 [(.aggi .u64 (W.el r14_18e))] (.aggi .u8 (W.bts r16_20n)))
    (h22 : (W.bts r16_16n == W.bts r16_20n) = q23) :
    PureF Try.prog 4 [(.aggi .u8 (W.bts a)), (.aggi .u8 (W.bts b)), (.c (.int .u64 c))] (.c (.bool q23)) :=
  Contract0.of_frun (fn := Try.f4) (c := bodyOf Try.f4) (fuel := 300) (k := kOf Try.prog Try.f4) (outs := []) (hs := [(4, ⟨.call [] (.aggi .u64 (W.el r14_0e)) [] [], none⟩), (6, ⟨.call [] (.aggi .u64 (W.el r14_2e)) [] [], none⟩), (8, ⟨.call [] (.tup [(.aggi .u64 (W.el r20_4e)), (.aggi .u64 (W.el r20_4g))]) [] [], none⟩), (17, ⟨.auto, some (.c (.int .u64 x7))⟩), (18, ⟨.auto, some (.c (.bool (false)))⟩), (20, ⟨.call [] (.c (.bool (true))) [] [], none⟩), (24, ⟨.call [] (.aggi .u64 (W.el r14_10e)) [] [], none⟩), (25, ⟨.call [] (.c (.bool (true))) [] [], none⟩), (30, ⟨.call [] (.aggi .u64 (W.el r14_13e)) [] [], none⟩), (31, ⟨.call [] (.c (.bool (true))) [] [], none⟩), (35, ⟨.call [] (.aggi .u8 (W.bts r16_16n)) [] [], none⟩), (37, ⟨.call [] (.aggi .u64 (W.el r14_18e)) [] [], none⟩), (38, ⟨.call [] (.aggi .u8 (W.bts r16_20n)) [] [], none⟩), (39, ⟨.auto, some (.c (.bool q23))⟩)])
    (cs := [EB (W.bts r16_16n == W.bts r16_20n) q23,
      Contract Try.prog 16 [(.aggi .u64 (W.el r14_18e))] [] 593 (.aggi .u8 (W.bts r16_20n)) [] [],
      Contract Try.prog 14 [(.aggi .u8 (Go.Proofs.Ytkjbjgkjplmkhaa.W.bts a))] [] 577 (.aggi .u64 (W.el r14_18e)) [] [],
      Contract Try.prog 16 [(.agg [(.int .u64 (W.El.a0 r20_4e)), (.int .u64 (W.El.a1 r20_4e)), (.int .u64 (W.El.a2 r20_4e)), (.int .u64 (W.El.a3 r20_4e)), (.int .u64 (W.El.a4 r20_4e))])] [] 545 (.aggi .u8 (W.bts r16_16n)) [] [],
      Contract Try.prog 19 [(.agg [(.int .u64 (W.El.a0 r20_4g)), (.int .u64 (W.El.a1 r20_4g)), (.int .u64 (W.El.a2 r20_4g)), (.int .u64 (W.El.a3 r20_4g)), (.int .u64 (W.El.a4 r20_4g))]), (.aggi .u64 (W.el r14_13e))] [] 481 (.c (.bool (true))) [] [],
      Contract Try.prog 14 [(.aggi .u8 (Go.Proofs.Ytkjbjgkjplmkhaa.W.bts b))] [] 465 (.aggi .u64 (W.el r14_13e)) [] [],
      Contract Try.prog 19 [(.agg [(.int .u64 (W.El.a0 r20_4e)), (.int .u64 (W.El.a1 r20_4e)), (.int .u64 (W.El.a2 r20_4e)), (.int .u64 (W.El.a3 r20_4e)), (.int .u64 (W.El.a4 r20_4e))]), (.aggi .u64 (W.el r14_10e))] [] 385 (.c (.bool (true))) [] [],
      Contract Try.prog 14 [(.aggi .u8 (Go.Proofs.Ytkjbjgkjplmkhaa.W.bts a))] [] 369 (.aggi .u64 (W.el r14_10e)) [] [],
      Contract Try.prog 18 [] [] 305 (.c (.bool (true))) [] [],
      EB (x7 == 1) false,
      EI .u64 (Int.tmod c 2) x7,
      Contract Try.prog 20 [(.aggi .u64 (W.el r14_0e)), (.aggi .u64 (W.el r14_2e)), (.c (.int .u64 c))] [] 129 (.tup [(.aggi .u64 (W.el r20_4e)), (.aggi .u64 (W.el r20_4g))]) [] [],
      Contract Try.prog 14 [(.aggi .u8 (Go.Proofs.Ytkjbjgkjplmkhaa.W.bts b))] [] 97 (.aggi .u64 (W.el r14_2e)) [] [],
      Contract Try.prog 14 [(.aggi .u8 (Go.Proofs.Ytkjbjgkjplmkhaa.W.bts a))] [] 65 (.aggi .u64 (W.el r14_0e)) [] []])
    mixed Try.func4 (by kernel_rfl) (by kernel_rfl) (by kernel_rfl) rfl (by kernel_rfl) ⟨.mk h22, c21.use (by kernel_rfl) rfl rfl _ _, c19.use (by kernel_rfl) rfl rfl _ _, c17.use (by kernel_rfl) rfl rfl _ _, c15.use (by kernel_rfl) rfl rfl _ _, c14.use (by kernel_rfl) rfl rfl _ _, c12.use (by kernel_rfl) rfl rfl _ _, c11.use (by kernel_rfl) rfl rfl _ _, c9.use (by kernel_rfl) rfl rfl _ _, .mk h8, .mk h6, c5.use (by kernel_rfl) rfl rfl _ _, c3.use (by kernel_rfl) rfl rfl _ _, c1.use (by kernel_rfl) rfl rfl _ _, trivial⟩

theorem run5 (a b h o r15_0n : Int) (r14_2e : W.El) (r15_4n : Int) (r14_6e r22_8e r23_10e r21_12e r21_14e r21_16e r23_18e r24_22e r24_24e r23_26e r23_28e r23_31e r24_33e : W.El)
    (c1 : PureF Try.prog 15 [(.aggi .u8 (Go.Proofs.Ytkjbjgkjplmkhaa.W.bts a)), (.c (.int .i64 h))] (.aggi .u8 (W.bts r15_0n)))
    (c3 : PureF Try.prog 14 [(.aggi .u8 (W.bts r15_0n))] (.aggi .u64 (W.el r14_2e)))
    (c5 : PureF Try.prog 15 [(.aggi .u8 (Go.Proofs.Ytkjbjgkjplmkhaa.W.bts b)), (.c (.int .i64 o))] (.aggi .u8 (W.bts r15_4n)))
    (c7 : PureF Try.prog 14 [(.aggi .u8 (W.bts r15_4n))] (.aggi .u64 (W.el r14_6e)))
    (c9 : PureF Try.prog 22 [(.aggi .u64 (W.el r14_2e)), (.aggi .u64 (W.el r14_6e))] (.aggi .u64 (W.el r22_8e)))
    (c11 : PureF Try.prog 23 [(.aggi .u64 (W.el r14_2e)), (.aggi .u64 (W.el r14_6e))] (.aggi .u64 (W.el r23_10e)))
    (c13 : PureF Try.prog 21 [(.aggi .u64 (W.el r22_8e)), (.aggi .u64 (W.el r23_10e))] (.aggi .u64 (W.el r21_12e)))
    (c15 : PureF Try.prog 21 [(.aggi .u64 (W.el r14_2e)), (.aggi .u64 (W.el r14_2e))] (.aggi .u64 (W.el r21_14e)))
    (c17 : PureF Try.prog 21 [(.aggi .u64 (W.el r14_6e)), (.aggi .u64 (W.el r14_6e))] (.aggi .u64 (W.el r21_16e)))
    (c19 : PureF Try.prog 23 [(.aggi .u64 (W.el r21_14e)), (.aggi .u64 (W.el r21_16e))] (.aggi .u64 (W.el r23_18e)))
    (c20 : PureF Try.prog 18 [] (.c (.bool (true))))
    (c21 : PureF Try.prog 19 [(.aggi .u64 (W.el r21_12e)), (.aggi .u64 (W.el r23_18e))] (.c (.bool (true))))
    (c23 : PureF Try.prog 24 [] (.aggi .u64 (W.el r24_22e)))
    (c25 : PureF Try.prog 24 [] (.aggi .u64 (W.el r24_24e)))
    (c27 : PureF Try.prog 23 [(.aggi .u64 (W.el r24_24e)), (.aggi .u64 (W.el r14_2e))] (.aggi .u64 (W.el r23_26e)))
    (c29 : PureF Try.prog 23 [(.aggi .u64 (W.el r24_22e)), (.aggi .u64 (W.el r23_26e))] (.aggi .u64 (W.el r23_28e)))
    (c30 : PureF Try.prog 19 [(.aggi .u64 (W.el r23_28e)), (.aggi .u64 (W.el r14_2e))] (.c (.bool (true))))
    (c32 : PureF Try.prog 23 [(.aggi .u64 (W.el r14_2e)), (.aggi .u64 (W.el r14_2e))] (.aggi .u64 (W.el r23_31e)))
    (c34 : PureF Try.prog 24 [] (.aggi .u64 (W.el r24_33e)))
    (c35 : PureF Try.prog 19 [(.aggi .u64 (W.el r23_31e)), (.aggi .u64 (W.el r24_33e))] (.c (.bool (true)))) :
    PureF Try.prog 5 [(.aggi .u8 (W.bts a)), (.aggi .u8 (W.bts b)), (.c (.int .i64 h)), (.c (.int .i64 o))] (.c (.bool (true))) :=
  Contract0.of_frun (fn := Try.f5) (c := bodyOf Try.f5) (fuel := 300) (k := kOf Try.prog Try.f5) (outs := []) (hs := [(5, ⟨.call [] (.aggi .u8 (W.bts r15_0n)) [] [], none⟩), (6, ⟨.call [] (.aggi .u64 (W.el r14_2e)) [] [], none⟩), (11, ⟨.call [] (.aggi .u8 (W.bts r15_4n)) [] [], none⟩), (12, ⟨.call [] (.aggi .u64 (W.el r14_6e)) [] [], none⟩), (17, ⟨.call [] (.aggi .u64 (W.el r22_8e)) [] [], none⟩), (20, ⟨.call [] (.aggi .u64 (W.el r23_10e)) [] [], none⟩), (21, ⟨.call [] (.aggi .u64 (W.el r21_12e)) [] [], none⟩), (26, ⟨.call [] (.aggi .u64 (W.el r21_14e)) [] [], none⟩), (29, ⟨.call [] (.aggi .u64 (W.el r21_16e)) [] [], none⟩), (30, ⟨.call [] (.aggi .u64 (W.el r23_18e)) [] [], none⟩), (33, ⟨.call [] (.c (.bool (true))) [] [], none⟩), (37, ⟨.call [] (.c (.bool (true))) [] [], none⟩), (40, ⟨.call [] (.aggi .u64 (W.el r24_22e)) [] [], none⟩), (41, ⟨.call [] (.aggi .u64 (W.el r24_24e)) [] [], none⟩), (43, ⟨.call [] (.aggi .u64 (W.el r23_26e)) [] [], none⟩), (44, ⟨.call [] (.aggi .u64 (W.el r23_28e)) [] [], none⟩), (46, ⟨.call [] (.c (.bool (true))) [] [], none⟩), (51, ⟨.call [] (.aggi .u64 (W.el r23_31e)) [] [], none⟩), (52, ⟨.call [] (.aggi .u64 (W.el r24_33e)) [] [], none⟩), (53, ⟨.call [] (.c (.bool (true))) [] [], none⟩)])
    (cs := [Contract Try.prog 19 [(.aggi .u64 (W.el r23_31e)), (.aggi .u64 (W.el r24_33e))] [] 849 (.c (.bool (true))) [] [],
      Contract Try.prog 24 [] [] 833 (.aggi .u64 (W.el r24_33e)) [] [],
      Contract Try.prog 23 [(.agg [(.int .u64 (W.El.a0 r14_2e)), (.int .u64 (W.El.a1 r14_2e)), (.int .u64 (W.El.a2 r14_2e)), (.int .u64 (W.El.a3 r14_2e)), (.int .u64 (W.El.a4 r14_2e))]), (.agg [(.int .u64 (W.El.a0 r14_2e)), (.int .u64 (W.El.a1 r14_2e)), (.int .u64 (W.El.a2 r14_2e)), (.int .u64 (W.El.a3 r14_2e)), (.int .u64 (W.El.a4 r14_2e))])] [] 817 (.aggi .u64 (W.el r23_31e)) [] [],
      Contract Try.prog 19 [(.aggi .u64 (W.el r23_28e)), (.agg [(.int .u64 (W.El.a0 r14_2e)), (.int .u64 (W.El.a1 r14_2e)), (.int .u64 (W.El.a2 r14_2e)), (.int .u64 (W.El.a3 r14_2e)), (.int .u64 (W.El.a4 r14_2e))])] [] 737 (.c (.bool (true))) [] [],
      Contract Try.prog 23 [(.aggi .u64 (W.el r24_22e)), (.aggi .u64 (W.el r23_26e))] [] 705 (.aggi .u64 (W.el r23_28e)) [] [],
      Contract Try.prog 23 [(.aggi .u64 (W.el r24_24e)), (.agg [(.int .u64 (W.El.a0 r14_2e)), (.int .u64 (W.El.a1 r14_2e)), (.int .u64 (W.El.a2 r14_2e)), (.int .u64 (W.El.a3 r14_2e)), (.int .u64 (W.El.a4 r14_2e))])] [] 689 (.aggi .u64 (W.el r23_26e)) [] [],
      Contract Try.prog 24 [] [] 657 (.aggi .u64 (W.el r24_24e)) [] [],
      Contract Try.prog 24 [] [] 641 (.aggi .u64 (W.el r24_22e)) [] [],
      Contract Try.prog 19 [(.agg [(.int .u64 (W.El.a0 r21_12e)), (.int .u64 (W.El.a1 r21_12e)), (.int .u64 (W.El.a2 r21_12e)), (.int .u64 (W.El.a3 r21_12e)), (.int .u64 (W.El.a4 r21_12e))]), (.agg [(.int .u64 (W.El.a0 r23_18e)), (.int .u64 (W.El.a1 r23_18e)), (.int .u64 (W.El.a2 r23_18e)), (.int .u64 (W.El.a3 r23_18e)), (.int .u64 (W.El.a4 r23_18e))])] [] 593 (.c (.bool (true))) [] [],
      Contract Try.prog 18 [] [] 529 (.c (.bool (true))) [] [],
      Contract Try.prog 23 [(.aggi .u64 (W.el r21_14e)), (.aggi .u64 (W.el r21_16e))] [] 481 (.aggi .u64 (W.el r23_18e)) [] [],
      Contract Try.prog 21 [(.agg [(.int .u64 (W.El.a0 r14_6e)), (.int .u64 (W.El.a1 r14_6e)), (.int .u64 (W.El.a2 r14_6e)), (.int .u64 (W.El.a3 r14_6e)), (.int .u64 (W.El.a4 r14_6e))]), (.agg [(.int .u64 (W.El.a0 r14_6e)), (.int .u64 (W.El.a1 r14_6e)), (.int .u64 (W.El.a2 r14_6e)), (.int .u64 (W.El.a3 r14_6e)), (.int .u64 (W.El.a4 r14_6e))])] [] 465 (.aggi .u64 (W.el r21_16e)) [] [],
      Contract Try.prog 21 [(.agg [(.int .u64 (W.El.a0 r14_2e)), (.int .u64 (W.El.a1 r14_2e)), (.int .u64 (W.El.a2 r14_2e)), (.int .u64 (W.El.a3 r14_2e)), (.int .u64 (W.El.a4 r14_2e))]), (.agg [(.int .u64 (W.El.a0 r14_2e)), (.int .u64 (W.El.a1 r14_2e)), (.int .u64 (W.El.a2 r14_2e)), (.int .u64 (W.El.a3 r14_2e)), (.int .u64 (W.El.a4 r14_2e))])] [] 417 (.aggi .u64 (W.el r21_14e)) [] [],
      Contract Try.prog 21 [(.aggi .u64 (W.el r22_8e)), (.aggi .u64 (W.el r23_10e))] [] 337 (.aggi .u64 (W.el r21_12e)) [] [],
      Contract Try.prog 23 [(.agg [(.int .u64 (W.El.a0 r14_2e)), (.int .u64 (W.El.a1 r14_2e)), (.int .u64 (W.El.a2 r14_2e)), (.int .u64 (W.El.a3 r14_2e)), (.int .u64 (W.El.a4 r14_2e))]), (.agg [(.int .u64 (W.El.a0 r14_6e)), (.int .u64 (W.El.a1 r14_6e)), (.int .u64 (W.El.a2 r14_6e)), (.int .u64 (W.El.a3 r14_6e)), (.int .u64 (W.El.a4 r14_6e))])] [] 321 (.aggi .u64 (W.el r23_10e)) [] [],
      Contract Try.prog 22 [(.agg [(.int .u64 (W.El.a0 r14_2e)), (.int .u64 (W.El.a1 r14_2e)), (.int .u64 (W.El.a2 r14_2e)), (.int .u64 (W.El.a3 r14_2e)), (.int .u64 (W.El.a4 r14_2e))]), (.agg [(.int .u64 (W.El.a0 r14_6e)), (.int .u64 (W.El.a1 r14_6e)), (.int .u64 (W.El.a2 r14_6e)), (.int .u64 (W.El.a3 r14_6e)), (.int .u64 (W.El.a4 r14_6e))])] [] 273 (.aggi .u64 (W.el r22_8e)) [] [],
      Contract Try.prog 14 [(.aggi .u8 (W.bts r15_4n))] [] 193 (.aggi .u64 (W.el r14_6e)) [] [],
      Contract Try.prog 15 [(.aggi .u8 (Go.Proofs.Ytkjbjgkjplmkhaa.W.bts b)), (.c (.int .i64 o))] [] 177 (.aggi .u8 (W.bts r15_4n)) [] [],
      Contract Try.prog 14 [(.aggi .u8 (W.bts r15_0n))] [] 97 (.aggi .u64 (W.el r14_2e)) [] [],
      Contract Try.prog 15 [(.aggi .u8 (Go.Proofs.Ytkjbjgkjplmkhaa.W.bts a)), (.c (.int .i64 h))] [] 81 (.aggi .u8 (W.bts r15_0n)) [] []])
    mixed Try.func5 (by kernel_rfl) (by kernel_rfl) (by kernel_rfl) rfl (by kernel_rfl) ⟨c35.use (by kernel_rfl) rfl rfl _ _, c34.use (by kernel_rfl) rfl rfl _ _, c32.use (by kernel_rfl) rfl rfl _ _, c30.use (by kernel_rfl) rfl rfl _ _, c29.use (by kernel_rfl) rfl rfl _ _, c27.use (by kernel_rfl) rfl rfl _ _, c25.use (by kernel_rfl) rfl rfl _ _, c23.use (by kernel_rfl) rfl rfl _ _, c21.use (by kernel_rfl) rfl rfl _ _, c20.use (by kernel_rfl) rfl rfl _ _, c19.use (by kernel_rfl) rfl rfl _ _, c17.use (by kernel_rfl) rfl rfl _ _, c15.use (by kernel_rfl) rfl rfl _ _, c13.use (by kernel_rfl) rfl rfl _ _, c11.use (by kernel_rfl) rfl rfl _ _, c9.use (by kernel_rfl) rfl rfl _ _, c7.use (by kernel_rfl) rfl rfl _ _, c5.use (by kernel_rfl) rfl rfl _ _, c3.use (by kernel_rfl) rfl rfl _ _, c1.use (by kernel_rfl) rfl rfl _ _, trivial⟩

theorem run7 (a b h r15_0n : Int) (r14_2e r14_4e r27_7e r27_9e r21_12e r27_14e r27_16e r27_18e r21_20e : W.El)
    (c1 : PureF Try.prog 15 [(.aggi .u8 (Go.Proofs.Ytkjbjgkjplmkhaa.W.bts a)), (.c (.int .i64 h))] (.aggi .u8 (W.bts r15_0n)))
    (c3 : PureF Try.prog 14 [(.aggi .u8 (W.bts r15_0n))] (.aggi .u64 (W.el r14_2e)))
    (c5 : PureF Try.prog 14 [(.aggi .u8 (Go.Proofs.Ytkjbjgkjplmkhaa.W.bts b))] (.aggi .u64 (W.el r14_4e)))
    (c6 : PureF Try.prog 18 [] (.c (.bool (true))))
    (c8 : PureF Try.prog 27 [(.aggi .u64 (W.el r14_2e))] (.aggi .u64 (W.el r27_7e)))
    (c10 : PureF Try.prog 27 [(.aggi .u64 (W.el r27_7e))] (.aggi .u64 (W.el r27_9e)))
    (c11 : PureF Try.prog 19 [(.aggi .u64 (W.el r27_9e)), (.aggi .u64 (W.el r14_2e))] (.c (.bool (true))))
    (c13 : PureF Try.prog 21 [(.aggi .u64 (W.el r14_2e)), (.aggi .u64 (W.el r14_4e))] (.aggi .u64 (W.el r21_12e)))
    (c15 : PureF Try.prog 27 [(.aggi .u64 (W.el r21_12e))] (.aggi .u64 (W.el r27_14e)))
    (c17 : PureF Try.prog 27 [(.aggi .u64 (W.el r14_2e))] (.aggi .u64 (W.el r27_16e)))
    (c19 : PureF Try.prog 27 [(.aggi .u64 (W.el r14_4e))] (.aggi .u64 (W.el r27_18e)))
    (c21 : PureF Try.prog 21 [(.aggi .u64 (W.el r27_16e)), (.aggi .u64 (W.el r27_18e))] (.aggi .u64 (W.el r21_20e)))
    (c22 : PureF Try.prog 19 [(.aggi .u64 (W.el r27_14e)), (.aggi .u64 (W.el r21_20e))] (.c (.bool (true)))) :
    PureF Try.prog 7 [(.aggi .u8 (W.bts a)), (.aggi .u8 (W.bts b)), (.c (.int .i64 h))] (.c (.bool (true))) :=
  Contract0.of_frun (fn := Try.f7) (c := bodyOf Try.f7) (fuel := 300) (k := kOf Try.prog Try.f7) (outs := []) (hs := [(5, ⟨.call [] (.aggi .u8 (W.bts r15_0n)) [] [], none⟩), (6, ⟨.call [] (.aggi .u64 (W.el r14_2e)) [] [], none⟩), (10, ⟨.call [] (.aggi .u64 (W.el r14_4e)) [] [], none⟩), (13, ⟨.call [] (.c (.bool (true))) [] [], none⟩), (16, ⟨.call [] (.aggi .u64 (W.el r27_7e)) [] [], none⟩), (17, ⟨.call [] (.aggi .u64 (W.el r27_9e)) [] [], none⟩), (19, ⟨.call [] (.c (.bool (true))) [] [], none⟩), (24, ⟨.call [] (.aggi .u64 (W.el r21_12e)) [] [], none⟩), (25, ⟨.call [] (.aggi .u64 (W.el r27_14e)) [] [], none⟩), (27, ⟨.call [] (.aggi .u64 (W.el r27_16e)) [] [], none⟩), (29, ⟨.call [] (.aggi .u64 (W.el r27_18e)) [] [], none⟩), (30, ⟨.call [] (.aggi .u64 (W.el r21_20e)) [] [], none⟩), (31, ⟨.call [] (.c (.bool (true))) [] [], none⟩)])
    (cs := [Contract Try.prog 19 [(.aggi .u64 (W.el r27_14e)), (.aggi .u64 (W.el r21_20e))] [] 497 (.c (.bool (true))) [] [],
      Contract Try.prog 21 [(.aggi .u64 (W.el r27_16e)), (.aggi .u64 (W.el r27_18e))] [] 481 (.aggi .u64 (W.el r21_20e)) [] [],
      Contract Try.prog 27 [(.agg [(.int .u64 (W.El.a0 r14_4e)), (.int .u64 (W.El.a1 r14_4e)), (.int .u64 (W.El.a2 r14_4e)), (.int .u64 (W.El.a3 r14_4e)), (.int .u64 (W.El.a4 r14_4e))])] [] 465 (.aggi .u64 (W.el r27_18e)) [] [],
      Contract Try.prog 27 [(.agg [(.int .u64 (W.El.a0 r14_2e)), (.int .u64 (W.El.a1 r14_2e)), (.int .u64 (W.El.a2 r14_2e)), (.int .u64 (W.El.a3 r14_2e)), (.int .u64 (W.El.a4 r14_2e))])] [] 433 (.aggi .u64 (W.el r27_16e)) [] [],
      Contract Try.prog 27 [(.aggi .u64 (W.el r21_12e))] [] 401 (.aggi .u64 (W.el r27_14e)) [] [],
      Contract Try.prog 21 [(.agg [(.int .u64 (W.El.a0 r14_2e)), (.int .u64 (W.El.a1 r14_2e)), (.int .u64 (W.El.a2 r14_2e)), (.int .u64 (W.El.a3 r14_2e)), (.int .u64 (W.El.a4 r14_2e))]), (.agg [(.int .u64 (W.El.a0 r14_4e)), (.int .u64 (W.El.a1 r14_4e)), (.int .u64 (W.El.a2 r14_4e)), (.int .u64 (W.El.a3 r14_4e)), (.int .u64 (W.El.a4 r14_4e))])] [] 385 (.aggi .u64 (W.el r21_12e)) [] [],
      Contract Try.prog 19 [(.aggi .u64 (W.el r27_9e)), (.agg [(.int .u64 (W.El.a0 r14_2e)), (.int .u64 (W.El.a1 r14_2e)), (.int .u64 (W.El.a2 r14_2e)), (.int .u64 (W.El.a3 r14_2e)), (.int .u64 (W.El.a4 r14_2e))])] [] 305 (.c (.bool (true))) [] [],
      Contract Try.prog 27 [(.aggi .u64 (W.el r27_7e))] [] 273 (.aggi .u64 (W.el r27_9e)) [] [],
      Contract Try.prog 27 [(.agg [(.int .u64 (W.El.a0 r14_2e)), (.int .u64 (W.El.a1 r14_2e)), (.int .u64 (W.El.a2 r14_2e)), (.int .u64 (W.El.a3 r14_2e)), (.int .u64 (W.El.a4 r14_2e))])] [] 257 (.aggi .u64 (W.el r27_7e)) [] [],
      Contract Try.prog 18 [] [] 209 (.c (.bool (true))) [] [],
      Contract Try.prog 14 [(.aggi .u8 (Go.Proofs.Ytkjbjgkjplmkhaa.W.bts b))] [] 161 (.aggi .u64 (W.el r14_4e)) [] [],
      Contract Try.prog 14 [(.aggi .u8 (W.bts r15_0n))] [] 97 (.aggi .u64 (W.el r14_2e)) [] [],
      Contract Try.prog 15 [(.aggi .u8 (Go.Proofs.Ytkjbjgkjplmkhaa.W.bts a)), (.c (.int .i64 h))] [] 81 (.aggi .u8 (W.bts r15_0n)) [] []])
    mixed Try.func7 (by kernel_rfl) (by kernel_rfl) (by kernel_rfl) rfl (by kernel_rfl) ⟨c22.use (by kernel_rfl) rfl rfl _ _, c21.use (by kernel_rfl) rfl rfl _ _, c19.use (by kernel_rfl) rfl rfl _ _, c17.use (by kernel_rfl) rfl rfl _ _, c15.use (by kernel_rfl) rfl rfl _ _, c13.use (by kernel_rfl) rfl rfl _ _, c11.use (by kernel_rfl) rfl rfl _ _, c10.use (by kernel_rfl) rfl rfl _ _, c8.use (by kernel_rfl) rfl rfl _ _, c6.use (by kernel_rfl) rfl rfl _ _, c5.use (by kernel_rfl) rfl rfl _ _, c3.use (by kernel_rfl) rfl rfl _ _, c1.use (by kernel_rfl) rfl rfl _ _, trivial⟩

theorem run8a (a b c h o r15_0n : Int) (r14_2e : W.El) (r15_4n : Int) (r14_6e r14_8e r27_10e r21_12e r24_14e r22_18e r22_20e r21_23e r21_25e r22_28e r22_30e r22_32e r22_34e r21_37e r21_39e r21_41e r21_43e r22_46e r21_48e r21_50e r21_52e r22_54e r22_57e r23_59e r24_62e r22_64e r28_67e r21_69e r24_72e : W.El)
    (c1 : PureF Try.prog 15 [(.aggi .u8 (Go.Proofs.Ytkjbjgkjplmkhaa.W.bts a)), (.c (.int .i64 h))] (.aggi .u8 (W.bts r15_0n)))
    (c3 : PureF Try.prog 14 [(.aggi .u8 (W.bts r15_0n))] (.aggi .u64 (W.el r14_2e)))
    (c5 : PureF Try.prog 15 [(.aggi .u8 (Go.Proofs.Ytkjbjgkjplmkhaa.W.bts b)), (.c (.int .i64 o))] (.aggi .u8 (W.bts r15_4n)))
    (c7 : PureF Try.prog 14 [(.aggi .u8 (W.bts r15_4n))] (.aggi .u64 (W.el r14_6e)))
    (c9 : PureF Try.prog 14 [(.aggi .u8 (Go.Proofs.Ytkjbjgkjplmkhaa.W.bts c))] (.aggi .u64 (W.el r14_8e)))
    (c11 : PureF Try.prog 27 [(.aggi .u64 (W.el r14_2e))] (.aggi .u64 (W.el r27_10e)))
    (c13 : PureF Try.prog 21 [(.aggi .u64 (W.el r14_2e)), (.aggi .u64 (W.el r27_10e))] (.aggi .u64 (W.el r21_12e)))
    (c15 : PureF Try.prog 24 [] (.aggi .u64 (W.el r24_14e)))
    (c16 : PureF Try.prog 19 [(.aggi .u64 (W.el r14_2e)), (.aggi .u64 (W.el r24_14e))] (.c (.bool (true))))
    (c17 : PureF Try.prog 18 [] (.c (.bool (true))))
    (c19 : PureF Try.prog 22 [(.aggi .u64 (W.el r14_2e)), (.aggi .u64 (W.el r14_6e))] (.aggi .u64 (W.el r22_18e)))
    (c21 : PureF Try.prog 22 [(.aggi .u64 (W.el r14_6e)), (.aggi .u64 (W.el r14_2e))] (.aggi .u64 (W.el r22_20e)))
    (c22 : PureF Try.prog 19 [(.aggi .u64 (W.el r22_18e)), (.aggi .u64 (W.el r22_20e))] (.c (.bool (true))))
    (c24 : PureF Try.prog 21 [(.aggi .u64 (W.el r14_2e)), (.aggi .u64 (W.el r14_6e))] (.aggi .u64 (W.el r21_23e)))
    (c26 : PureF Try.prog 21 [(.aggi .u64 (W.el r14_6e)), (.aggi .u64 (W.el r14_2e))] (.aggi .u64 (W.el r21_25e)))
    (c27 : PureF Try.prog 19 [(.aggi .u64 (W.el r21_23e)), (.aggi .u64 (W.el r21_25e))] (.c (.bool (true))))
    (c29 : PureF Try.prog 22 [(.aggi .u64 (W.el r14_2e)), (.aggi .u64 (W.el r14_6e))] (.aggi .u64 (W.el r22_28e)))
    (c31 : PureF Try.prog 22 [(.aggi .u64 (W.el r22_28e)), (.aggi .u64 (W.el r14_8e))] (.aggi .u64 (W.el r22_30e)))
    (c33 : PureF Try.prog 22 [(.aggi .u64 (W.el r14_6e)), (.aggi .u64 (W.el r14_8e))] (.aggi .u64 (W.el r22_32e)))
    (c35 : PureF Try.prog 22 [(.aggi .u64 (W.el r14_2e)), (.aggi .u64 (W.el r22_32e))] (.aggi .u64 (W.el r22_34e)))
    (c36 : PureF Try.prog 19 [(.aggi .u64 (W.el r22_30e)), (.aggi .u64 (W.el r22_34e))] (.c (.bool (true))))
    (c38 : PureF Try.prog 21 [(.aggi .u64 (W.el r14_2e)), (.aggi .u64 (W.el r14_6e))] (.aggi .u64 (W.el r21_37e)))
    (c40 : PureF Try.prog 21 [(.aggi .u64 (W.el r21_37e)), (.aggi .u64 (W.el r14_8e))] (.aggi .u64 (W.el r21_39e)))
    (c42 : PureF Try.prog 21 [(.aggi .u64 (W.el r14_6e)), (.aggi .u64 (W.el r14_8e))] (.aggi .u64 (W.el r21_41e)))
    (c44 : PureF Try.prog 21 [(.aggi .u64 (W.el r14_2e)), (.aggi .u64 (W.el r21_41e))] (.aggi .u64 (W.el r21_43e)))
    (c45 : PureF Try.prog 19 [(.aggi .u64 (W.el r21_39e)), (.aggi .u64 (W.el r21_43e))] (.c (.bool (true))))
    (c47 : PureF Try.prog 22 [(.aggi .u64 (W.el r14_6e)), (.aggi .u64 (W.el r14_8e))] (.aggi .u64 (W.el r22_46e)))
    (c49 : PureF Try.prog 21 [(.aggi .u64 (W.el r14_2e)), (.aggi .u64 (W.el r22_46e))] (.aggi .u64 (W.el r21_48e)))
    (c51 : PureF Try.prog 21 [(.aggi .u64 (W.el r14_2e)), (.aggi .u64 (W.el r14_6e))] (.aggi .u64 (W.el r21_50e)))
    (c53 : PureF Try.prog 21 [(.aggi .u64 (W.el r14_2e)), (.aggi .u64 (W.el r14_8e))] (.aggi .u64 (W.el r21_52e)))
    (c55 : PureF Try.prog 22 [(.aggi .u64 (W.el r21_50e)), (.aggi .u64 (W.el r21_52e))] (.aggi .u64 (W.el r22_54e)))
    (c56 : PureF Try.prog 19 [(.aggi .u64 (W.el r21_48e)), (.aggi .u64 (W.el r22_54e))] (.c (.bool (true))))
    (c58 : PureF Try.prog 22 [(.aggi .u64 (W.el r14_2e)), (.aggi .u64 (W.el r14_6e))] (.aggi .u64 (W.el r22_57e)))
    (c60 : PureF Try.prog 23 [(.aggi .u64 (W.el r22_57e)), (.aggi .u64 (W.el r14_6e))] (.aggi .u64 (W.el r23_59e)))
    (c61 : PureF Try.prog 19 [(.aggi .u64 (W.el r23_59e)), (.aggi .u64 (W.el r14_2e))] (.c (.bool (true))))
    (c63 : PureF Try.prog 24 [] (.aggi .u64 (W.el r24_62e)))
    (c65 : PureF Try.prog 22 [(.aggi .u64 (W.el r14_2e)), (.aggi .u64 (W.el r24_62e))] (.aggi .u64 (W.el r22_64e)))
    (c66 : PureF Try.prog 19 [(.aggi .u64 (W.el r22_64e)), (.aggi .u64 (W.el r14_2e))] (.c (.bool (true))))
    (c68 : PureF Try.prog 28 [] (.aggi .u64 (W.el r28_67e)))
    (c70 : PureF Try.prog 21 [(.aggi .u64 (W.el r14_2e)), (.aggi .u64 (W.el r28_67e))] (.aggi .u64 (W.el r21_69e)))
    (c71 : PureF Try.prog 19 [(.aggi .u64 (W.el r21_69e)), (.aggi .u64 (W.el r14_2e))] (.c (.bool (true))))
    (c73 : PureF Try.prog 24 [] (.aggi .u64 (W.el r24_72e)))
    (c74 : PureF Try.prog 19 [(.aggi .u64 (W.el r21_12e)), (.aggi .u64 (W.el r24_72e))] (.c (.bool (true)))) :
    PureF Try.prog 8 [(.aggi .u8 (W.bts a)), (.aggi .u8 (W.bts b)), (.aggi .u8 (W.bts c)), (.c (.int .i64 h)), (.c (.int .i64 o))] (.c (.bool (true))) :=
  Contract0.of_frun (fn := Try.f8) (c := bodyOf Try.f8) (fuel := 300) (k := kOf Try.prog Try.f8) (outs := []) (hs := [(6, ⟨.call [] (.aggi .u8 (W.bts r15_0n)) [] [], none⟩), (7, ⟨.call [] (.aggi .u64 (W.el r14_2e)) [] [], none⟩), (12, ⟨.call [] (.aggi .u8 (W.bts r15_4n)) [] [], none⟩), (13, ⟨.call [] (.aggi .u64 (W.el r14_6e)) [] [], none⟩), (17, ⟨.call [] (.aggi .u64 (W.el r14_8e)) [] [], none⟩), (22, ⟨.call [] (.aggi .u64 (W.el r27_10e)) [] [], none⟩), (23, ⟨.call [] (.aggi .u64 (W.el r21_12e)) [] [], none⟩), (27, ⟨.call [] (.aggi .u64 (W.el r24_14e)) [] [], none⟩), (28, ⟨.call [] (.c (.bool (true))) [] [], none⟩), (30, ⟨.call [] (.c (.bool (true))) [] [], none⟩), (34, ⟨.call [] (.aggi .u64 (W.el r22_18e)) [] [], none⟩), (37, ⟨.call [] (.aggi .u64 (W.el r22_20e)) [] [], none⟩), (38, ⟨.call [] (.c (.bool (true))) [] [], none⟩), (43, ⟨.call [] (.aggi .u64 (W.el r21_23e)) [] [], none⟩), (46, ⟨.call [] (.aggi .u64 (W.el r21_25e)) [] [], none⟩), (47, ⟨.call [] (.c (.bool (true))) [] [], none⟩), (52, ⟨.call [] (.aggi .u64 (W.el r22_28e)) [] [], none⟩), (54, ⟨.call [] (.aggi .u64 (W.el r22_30e)) [] [], none⟩), (58, ⟨.call [] (.aggi .u64 (W.el r22_32e)) [] [], none⟩), (59, ⟨.call [] (.aggi .u64 (W.el r22_34e)) [] [], none⟩), (60, ⟨.call [] (.c (.bool (true))) [] [], none⟩), (65, ⟨.call [] (.aggi .u64 (W.el r21_37e)) [] [], none⟩), (67, ⟨.call [] (.aggi .u64 (W.el r21_39e)) [] [], none⟩), (71, ⟨.call [] (.aggi .u64 (W.el r21_41e)) [] [], none⟩), (72, ⟨.call [] (.aggi .u64 (W.el r21_43e)) [] [], none⟩), (73, ⟨.call [] (.c (.bool (true))) [] [], none⟩), (79, ⟨.call [] (.aggi .u64 (W.el r22_46e)) [] [], none⟩), (80, ⟨.call [] (.aggi .u64 (W.el r21_48e)) [] [], none⟩), (83, ⟨.call [] (.aggi .u64 (W.el r21_50e)) [] [], none⟩), (86, ⟨.call [] (.aggi .u64 (W.el r21_52e)) [] [], none⟩), (87, ⟨.call [] (.aggi .u64 (W.el r22_54e)) [] [], none⟩), (88, ⟨.call [] (.c (.bool (true))) [] [], none⟩), (93, ⟨.call [] (.aggi .u64 (W.el r22_57e)) [] [], none⟩), (95, ⟨.call [] (.aggi .u64 (W.el r23_59e)) [] [], none⟩), (97, ⟨.call [] (.c (.bool (true))) [] [], none⟩), (101, ⟨.call [] (.aggi .u64 (W.el r24_62e)) [] [], none⟩), (102, ⟨.call [] (.aggi .u64 (W.el r22_64e)) [] [], none⟩), (104, ⟨.call [] (.c (.bool (true))) [] [], none⟩), (108, ⟨.call [] (.aggi .u64 (W.el r28_67e)) [] [], none⟩), (109, ⟨.call [] (.aggi .u64 (W.el r21_69e)) [] [], none⟩), (111, ⟨.call [] (.c (.bool (true))) [] [], none⟩), (117, ⟨.call [] (.aggi .u64 (W.el r24_72e)) [] [], none⟩), (118, ⟨.call [] (.c (.bool (true))) [] [], none⟩)])
    (cs := [Contract Try.prog 19 [(.agg [(.int .u64 (W.El.a0 r21_12e)), (.int .u64 (W.El.a1 r21_12e)), (.int .u64 (W.El.a2 r21_12e)), (.int .u64 (W.El.a3 r21_12e)), (.int .u64 (W.El.a4 r21_12e))]), (.aggi .u64 (W.el r24_72e))] [] 1889 (.c (.bool (true))) [] [],
      Contract Try.prog 24 [] [] 1873 (.aggi .u64 (W.el r24_72e)) [] [],
      Contract Try.prog 19 [(.aggi .u64 (W.el r21_69e)), (.agg [(.int .u64 (W.El.a0 r14_2e)), (.int .u64 (W.El.a1 r14_2e)), (.int .u64 (W.El.a2 r14_2e)), (.int .u64 (W.El.a3 r14_2e)), (.int .u64 (W.El.a4 r14_2e))])] [] 1777 (.c (.bool (true))) [] [],
      Contract Try.prog 21 [(.agg [(.int .u64 (W.El.a0 r14_2e)), (.int .u64 (W.El.a1 r14_2e)), (.int .u64 (W.El.a2 r14_2e)), (.int .u64 (W.El.a3 r14_2e)), (.int .u64 (W.El.a4 r14_2e))]), (.aggi .u64 (W.el r28_67e))] [] 1745 (.aggi .u64 (W.el r21_69e)) [] [],
      Contract Try.prog 28 [] [] 1729 (.aggi .u64 (W.el r28_67e)) [] [],
      Contract Try.prog 19 [(.aggi .u64 (W.el r22_64e)), (.agg [(.int .u64 (W.El.a0 r14_2e)), (.int .u64 (W.El.a1 r14_2e)), (.int .u64 (W.El.a2 r14_2e)), (.int .u64 (W.El.a3 r14_2e)), (.int .u64 (W.El.a4 r14_2e))])] [] 1665 (.c (.bool (true))) [] [],
      Contract Try.prog 22 [(.agg [(.int .u64 (W.El.a0 r14_2e)), (.int .u64 (W.El.a1 r14_2e)), (.int .u64 (W.El.a2 r14_2e)), (.int .u64 (W.El.a3 r14_2e)), (.int .u64 (W.El.a4 r14_2e))]), (.aggi .u64 (W.el r24_62e))] [] 1633 (.aggi .u64 (W.el r22_64e)) [] [],
      Contract Try.prog 24 [] [] 1617 (.aggi .u64 (W.el r24_62e)) [] [],
      Contract Try.prog 19 [(.aggi .u64 (W.el r23_59e)), (.agg [(.int .u64 (W.El.a0 r14_2e)), (.int .u64 (W.El.a1 r14_2e)), (.int .u64 (W.El.a2 r14_2e)), (.int .u64 (W.El.a3 r14_2e)), (.int .u64 (W.El.a4 r14_2e))])] [] 1553 (.c (.bool (true))) [] [],
      Contract Try.prog 23 [(.aggi .u64 (W.el r22_57e)), (.agg [(.int .u64 (W.El.a0 r14_6e)), (.int .u64 (W.El.a1 r14_6e)), (.int .u64 (W.El.a2 r14_6e)), (.int .u64 (W.El.a3 r14_6e)), (.int .u64 (W.El.a4 r14_6e))])] [] 1521 (.aggi .u64 (W.el r23_59e)) [] [],
      Contract Try.prog 22 [(.agg [(.int .u64 (W.El.a0 r14_2e)), (.int .u64 (W.El.a1 r14_2e)), (.int .u64 (W.El.a2 r14_2e)), (.int .u64 (W.El.a3 r14_2e)), (.int .u64 (W.El.a4 r14_2e))]), (.agg [(.int .u64 (W.El.a0 r14_6e)), (.int .u64 (W.El.a1 r14_6e)), (.int .u64 (W.El.a2 r14_6e)), (.int .u64 (W.El.a3 r14_6e)), (.int .u64 (W.El.a4 r14_6e))])] [] 1489 (.aggi .u64 (W.el r22_57e)) [] [],
      Contract Try.prog 19 [(.aggi .u64 (W.el r21_48e)), (.aggi .u64 (W.el r22_54e))] [] 1409 (.c (.bool (true))) [] [],
      Contract Try.prog 22 [(.aggi .u64 (W.el r21_50e)), (.aggi .u64 (W.el r21_52e))] [] 1393 (.aggi .u64 (W.el r22_54e)) [] [],
      Contract Try.prog 21 [(.agg [(.int .u64 (W.El.a0 r14_2e)), (.int .u64 (W.El.a1 r14_2e)), (.int .u64 (W.El.a2 r14_2e)), (.int .u64 (W.El.a3 r14_2e)), (.int .u64 (W.El.a4 r14_2e))]), (.agg [(.int .u64 (W.El.a0 r14_8e)), (.int .u64 (W.El.a1 r14_8e)), (.int .u64 (W.El.a2 r14_8e)), (.int .u64 (W.El.a3 r14_8e)), (.int .u64 (W.El.a4 r14_8e))])] [] 1377 (.aggi .u64 (W.el r21_52e)) [] [],
      Contract Try.prog 21 [(.agg [(.int .u64 (W.El.a0 r14_2e)), (.int .u64 (W.El.a1 r14_2e)), (.int .u64 (W.El.a2 r14_2e)), (.int .u64 (W.El.a3 r14_2e)), (.int .u64 (W.El.a4 r14_2e))]), (.agg [(.int .u64 (W.El.a0 r14_6e)), (.int .u64 (W.El.a1 r14_6e)), (.int .u64 (W.El.a2 r14_6e)), (.int .u64 (W.El.a3 r14_6e)), (.int .u64 (W.El.a4 r14_6e))])] [] 1329 (.aggi .u64 (W.el r21_50e)) [] [],
      Contract Try.prog 21 [(.agg [(.int .u64 (W.El.a0 r14_2e)), (.int .u64 (W.El.a1 r14_2e)), (.int .u64 (W.El.a2 r14_2e)), (.int .u64 (W.El.a3 r14_2e)), (.int .u64 (W.El.a4 r14_2e))]), (.aggi .u64 (W.el r22_46e))] [] 1281 (.aggi .u64 (W.el r21_48e)) [] [],
      Contract Try.prog 22 [(.agg [(.int .u64 (W.El.a0 r14_6e)), (.int .u64 (W.El.a1 r14_6e)), (.int .u64 (W.El.a2 r14_6e)), (.int .u64 (W.El.a3 r14_6e)), (.int .u64 (W.El.a4 r14_6e))]), (.agg [(.int .u64 (W.El.a0 r14_8e)), (.int .u64 (W.El.a1 r14_8e)), (.int .u64 (W.El.a2 r14_8e)), (.int .u64 (W.El.a3 r14_8e)), (.int .u64 (W.El.a4 r14_8e))])] [] 1265 (.aggi .u64 (W.el r22_46e)) [] [],
      Contract Try.prog 19 [(.aggi .u64 (W.el r21_39e)), (.aggi .u64 (W.el r21_43e))] [] 1169 (.c (.bool (true))) [] [],
      Contract Try.prog 21 [(.agg [(.int .u64 (W.El.a0 r14_2e)), (.int .u64 (W.El.a1 r14_2e)), (.int .u64 (W.El.a2 r14_2e)), (.int .u64 (W.El.a3 r14_2e)), (.int .u64 (W.El.a4 r14_2e))]), (.aggi .u64 (W.el r21_41e))] [] 1153 (.aggi .u64 (W.el r21_43e)) [] [],
      Contract Try.prog 21 [(.agg [(.int .u64 (W.El.a0 r14_6e)), (.int .u64 (W.El.a1 r14_6e)), (.int .u64 (W.El.a2 r14_6e)), (.int .u64 (W.El.a3 r14_6e)), (.int .u64 (W.El.a4 r14_6e))]), (.agg [(.int .u64 (W.El.a0 r14_8e)), (.int .u64 (W.El.a1 r14_8e)), (.int .u64 (W.El.a2 r14_8e)), (.int .u64 (W.El.a3 r14_8e)), (.int .u64 (W.El.a4 r14_8e))])] [] 1137 (.aggi .u64 (W.el r21_41e)) [] [],
      Contract Try.prog 21 [(.aggi .u64 (W.el r21_37e)), (.agg [(.int .u64 (W.El.a0 r14_8e)), (.int .u64 (W.El.a1 r14_8e)), (.int .u64 (W.El.a2 r14_8e)), (.int .u64 (W.El.a3 r14_8e)), (.int .u64 (W.El.a4 r14_8e))])] [] 1073 (.aggi .u64 (W.el r21_39e)) [] [],
      Contract Try.prog 21 [(.agg [(.int .u64 (W.El.a0 r14_2e)), (.int .u64 (W.El.a1 r14_2e)), (.int .u64 (W.El.a2 r14_2e)), (.int .u64 (W.El.a3 r14_2e)), (.int .u64 (W.El.a4 r14_2e))]), (.agg [(.int .u64 (W.El.a0 r14_6e)), (.int .u64 (W.El.a1 r14_6e)), (.int .u64 (W.El.a2 r14_6e)), (.int .u64 (W.El.a3 r14_6e)), (.int .u64 (W.El.a4 r14_6e))])] [] 1041 (.aggi .u64 (W.el r21_37e)) [] [],
      Contract Try.prog 19 [(.aggi .u64 (W.el r22_30e)), (.aggi .u64 (W.el r22_34e))] [] 961 (.c (.bool (true))) [] [],
      Contract Try.prog 22 [(.agg [(.int .u64 (W.El.a0 r14_2e)), (.int .u64 (W.El.a1 r14_2e)), (.int .u64 (W.El.a2 r14_2e)), (.int .u64 (W.El.a3 r14_2e)), (.int .u64 (W.El.a4 r14_2e))]), (.aggi .u64 (W.el r22_32e))] [] 945 (.aggi .u64 (W.el r22_34e)) [] [],
      Contract Try.prog 22 [(.agg [(.int .u64 (W.El.a0 r14_6e)), (.int .u64 (W.El.a1 r14_6e)), (.int .u64 (W.El.a2 r14_6e)), (.int .u64 (W.El.a3 r14_6e)), (.int .u64 (W.El.a4 r14_6e))]), (.agg [(.int .u64 (W.El.a0 r14_8e)), (.int .u64 (W.El.a1 r14_8e)), (.int .u64 (W.El.a2 r14_8e)), (.int .u64 (W.El.a3 r14_8e)), (.int .u64 (W.El.a4 r14_8e))])] [] 929 (.aggi .u64 (W.el r22_32e)) [] [],
      Contract Try.prog 22 [(.aggi .u64 (W.el r22_28e)), (.agg [(.int .u64 (W.El.a0 r14_8e)), (.int .u64 (W.El.a1 r14_8e)), (.int .u64 (W.El.a2 r14_8e)), (.int .u64 (W.El.a3 r14_8e)), (.int .u64 (W.El.a4 r14_8e))])] [] 865 (.aggi .u64 (W.el r22_30e)) [] [],
      Contract Try.prog 22 [(.agg [(.int .u64 (W.El.a0 r14_2e)), (.int .u64 (W.El.a1 r14_2e)), (.int .u64 (W.El.a2 r14_2e)), (.int .u64 (W.El.a3 r14_2e)), (.int .u64 (W.El.a4 r14_2e))]), (.agg [(.int .u64 (W.El.a0 r14_6e)), (.int .u64 (W.El.a1 r14_6e)), (.int .u64 (W.El.a2 r14_6e)), (.int .u64 (W.El.a3 r14_6e)), (.int .u64 (W.El.a4 r14_6e))])] [] 833 (.aggi .u64 (W.el r22_28e)) [] [],
      Contract Try.prog 19 [(.aggi .u64 (W.el r21_23e)), (.aggi .u64 (W.el r21_25e))] [] 753 (.c (.bool (true))) [] [],
      Contract Try.prog 21 [(.agg [(.int .u64 (W.El.a0 r14_6e)), (.int .u64 (W.El.a1 r14_6e)), (.int .u64 (W.El.a2 r14_6e)), (.int .u64 (W.El.a3 r14_6e)), (.int .u64 (W.El.a4 r14_6e))]), (.agg [(.int .u64 (W.El.a0 r14_2e)), (.int .u64 (W.El.a1 r14_2e)), (.int .u64 (W.El.a2 r14_2e)), (.int .u64 (W.El.a3 r14_2e)), (.int .u64 (W.El.a4 r14_2e))])] [] 737 (.aggi .u64 (W.el r21_25e)) [] [],
      Contract Try.prog 21 [(.agg [(.int .u64 (W.El.a0 r14_2e)), (.int .u64 (W.El.a1 r14_2e)), (.int .u64 (W.El.a2 r14_2e)), (.int .u64 (W.El.a3 r14_2e)), (.int .u64 (W.El.a4 r14_2e))]), (.agg [(.int .u64 (W.El.a0 r14_6e)), (.int .u64 (W.El.a1 r14_6e)), (.int .u64 (W.El.a2 r14_6e)), (.int .u64 (W.El.a3 r14_6e)), (.int .u64 (W.El.a4 r14_6e))])] [] 689 (.aggi .u64 (W.el r21_23e)) [] [],
      Contract Try.prog 19 [(.aggi .u64 (W.el r22_18e)), (.aggi .u64 (W.el r22_20e))] [] 609 (.c (.bool (true))) [] [],
      Contract Try.prog 22 [(.agg [(.int .u64 (W.El.a0 r14_6e)), (.int .u64 (W.El.a1 r14_6e)), (.int .u64 (W.El.a2 r14_6e)), (.int .u64 (W.El.a3 r14_6e)), (.int .u64 (W.El.a4 r14_6e))]), (.agg [(.int .u64 (W.El.a0 r14_2e)), (.int .u64 (W.El.a1 r14_2e)), (.int .u64 (W.El.a2 r14_2e)), (.int .u64 (W.El.a3 r14_2e)), (.int .u64 (W.El.a4 r14_2e))])] [] 593 (.aggi .u64 (W.el r22_20e)) [] [],
      Contract Try.prog 22 [(.agg [(.int .u64 (W.El.a0 r14_2e)), (.int .u64 (W.El.a1 r14_2e)), (.int .u64 (W.El.a2 r14_2e)), (.int .u64 (W.El.a3 r14_2e)), (.int .u64 (W.El.a4 r14_2e))]), (.agg [(.int .u64 (W.El.a0 r14_6e)), (.int .u64 (W.El.a1 r14_6e)), (.int .u64 (W.El.a2 r14_6e)), (.int .u64 (W.El.a3 r14_6e)), (.int .u64 (W.El.a4 r14_6e))])] [] 545 (.aggi .u64 (W.el r22_18e)) [] [],
      Contract Try.prog 18 [] [] 481 (.c (.bool (true))) [] [],
      Contract Try.prog 19 [(.agg [(.int .u64 (W.El.a0 r14_2e)), (.int .u64 (W.El.a1 r14_2e)), (.int .u64 (W.El.a2 r14_2e)), (.int .u64 (W.El.a3 r14_2e)), (.int .u64 (W.El.a4 r14_2e))]), (.aggi .u64 (W.el r24_14e))] [] 449 (.c (.bool (true))) [] [],
      Contract Try.prog 24 [] [] 433 (.aggi .u64 (W.el r24_14e)) [] [],
      Contract Try.prog 21 [(.agg [(.int .u64 (W.El.a0 r14_2e)), (.int .u64 (W.El.a1 r14_2e)), (.int .u64 (W.El.a2 r14_2e)), (.int .u64 (W.El.a3 r14_2e)), (.int .u64 (W.El.a4 r14_2e))]), (.aggi .u64 (W.el r27_10e))] [] 369 (.aggi .u64 (W.el r21_12e)) [] [],
      Contract Try.prog 27 [(.agg [(.int .u64 (W.El.a0 r14_2e)), (.int .u64 (W.El.a1 r14_2e)), (.int .u64 (W.El.a2 r14_2e)), (.int .u64 (W.El.a3 r14_2e)), (.int .u64 (W.El.a4 r14_2e))])] [] 353 (.aggi .u64 (W.el r27_10e)) [] [],
      Contract Try.prog 14 [(.aggi .u8 (Go.Proofs.Ytkjbjgkjplmkhaa.W.bts c))] [] 273 (.aggi .u64 (W.el r14_8e)) [] [],
      Contract Try.prog 14 [(.aggi .u8 (W.bts r15_4n))] [] 209 (.aggi .u64 (W.el r14_6e)) [] [],
      Contract Try.prog 15 [(.aggi .u8 (Go.Proofs.Ytkjbjgkjplmkhaa.W.bts b)), (.c (.int .i64 o))] [] 193 (.aggi .u8 (W.bts r15_4n)) [] [],
      Contract Try.prog 14 [(.aggi .u8 (W.bts r15_0n))] [] 113 (.aggi .u64 (W.el r14_2e)) [] [],
      Contract Try.prog 15 [(.aggi .u8 (Go.Proofs.Ytkjbjgkjplmkhaa.W.bts a)), (.c (.int .i64 h))] [] 97 (.aggi .u8 (W.bts r15_0n)) [] []])
    mixed Try.func8 (by kernel_rfl) (by kernel_rfl) (by kernel_rfl) rfl (by kernel_rfl) ⟨c74.use (by kernel_rfl) rfl rfl _ _, c73.use (by kernel_rfl) rfl rfl _ _, c71.use (by kernel_rfl) rfl rfl _ _, c70.use (by kernel_rfl) rfl rfl _ _, c68.use (by kernel_rfl) rfl rfl _ _, c66.use (by kernel_rfl) rfl rfl _ _, c65.use (by kernel_rfl) rfl rfl _ _, c63.use (by kernel_rfl) rfl rfl _ _, c61.use (by kernel_rfl) rfl rfl _ _, c60.use (by kernel_rfl) rfl rfl _ _, c58.use (by kernel_rfl) rfl rfl _ _, c56.use (by kernel_rfl) rfl rfl _ _, c55.use (by kernel_rfl) rfl rfl _ _, c53.use (by kernel_rfl) rfl rfl _ _, c51.use (by kernel_rfl) rfl rfl _ _, c49.use (by kernel_rfl) rfl rfl _ _, c47.use (by kernel_rfl) rfl rfl _ _, c45.use (by kernel_rfl) rfl rfl _ _, c44.use (by kernel_rfl) rfl rfl _ _, c42.use (by kernel_rfl) rfl rfl _ _, c40.use (by kernel_rfl) rfl rfl _ _, c38.use (by kernel_rfl) rfl rfl _ _, c36.use (by kernel_rfl) rfl rfl _ _, c35.use (by kernel_rfl) rfl rfl _ _, c33.use (by kernel_rfl) rfl rfl _ _, c31.use (by kernel_rfl) rfl rfl _ _, c29.use (by kernel_rfl) rfl rfl _ _, c27.use (by kernel_rfl) rfl rfl _ _, c26.use (by kernel_rfl) rfl rfl _ _, c24.use (by kernel_rfl) rfl rfl _ _, c22.use (by kernel_rfl) rfl rfl _ _, c21.use (by kernel_rfl) rfl rfl _ _, c19.use (by kernel_rfl) rfl rfl _ _, c17.use (by kernel_rfl) rfl rfl _ _, c16.use (by kernel_rfl) rfl rfl _ _, c15.use (by kernel_rfl) rfl rfl _ _, c13.use (by kernel_rfl) rfl rfl _ _, c11.use (by kernel_rfl) rfl rfl _ _, c9.use (by kernel_rfl) rfl rfl _ _, c7.use (by kernel_rfl) rfl rfl _ _, c5.use (by kernel_rfl) rfl rfl _ _, c3.use (by kernel_rfl) rfl rfl _ _, c1.use (by kernel_rfl) rfl rfl _ _, trivial⟩

theorem run8b (a b c h o r15_0n : Int) (r14_2e : W.El) (r15_4n : Int) (r14_6e r14_8e r27_10e r21_12e r24_14e r22_18e r22_20e r21_23e r21_25e r22_28e r22_30e r22_32e r22_34e r21_37e r21_39e r21_41e r21_43e r22_46e r21_48e r21_50e r21_52e r22_54e r22_57e r23_59e r24_62e r22_64e r28_67e r21_69e r28_72e : W.El)
    (c1 : PureF Try.prog 15 [(.aggi .u8 (Go.Proofs.Ytkjbjgkjplmkhaa.W.bts a)), (.c (.int .i64 h))] (.aggi .u8 (W.bts r15_0n)))
    (c3 : PureF Try.prog 14 [(.aggi .u8 (W.bts r15_0n))] (.aggi .u64 (W.el r14_2e)))
    (c5 : PureF Try.prog 15 [(.aggi .u8 (Go.Proofs.Ytkjbjgkjplmkhaa.W.bts b)), (.c (.int .i64 o))] (.aggi .u8 (W.bts r15_4n)))
    (c7 : PureF Try.prog 14 [(.aggi .u8 (W.bts r15_4n))] (.aggi .u64 (W.el r14_6e)))
    (c9 : PureF Try.prog 14 [(.aggi .u8 (Go.Proofs.Ytkjbjgkjplmkhaa.W.bts c))] (.aggi .u64 (W.el r14_8e)))
    (c11 : PureF Try.prog 27 [(.aggi .u64 (W.el r14_2e))] (.aggi .u64 (W.el r27_10e)))
    (c13 : PureF Try.prog 21 [(.aggi .u64 (W.el r14_2e)), (.aggi .u64 (W.el r27_10e))] (.aggi .u64 (W.el r21_12e)))
    (c15 : PureF Try.prog 24 [] (.aggi .u64 (W.el r24_14e)))
    (c16 : PureF Try.prog 19 [(.aggi .u64 (W.el r14_2e)), (.aggi .u64 (W.el r24_14e))] (.c (.bool (false))))
    (c17 : PureF Try.prog 18 [] (.c (.bool (true))))
    (c19 : PureF Try.prog 22 [(.aggi .u64 (W.el r14_2e)), (.aggi .u64 (W.el r14_6e))] (.aggi .u64 (W.el r22_18e)))
    (c21 : PureF Try.prog 22 [(.aggi .u64 (W.el r14_6e)), (.aggi .u64 (W.el r14_2e))] (.aggi .u64 (W.el r22_20e)))
    (c22 : PureF Try.prog 19 [(.aggi .u64 (W.el r22_18e)), (.aggi .u64 (W.el r22_20e))] (.c (.bool (true))))
    (c24 : PureF Try.prog 21 [(.aggi .u64 (W.el r14_2e)), (.aggi .u64 (W.el r14_6e))] (.aggi .u64 (W.el r21_23e)))
    (c26 : PureF Try.prog 21 [(.aggi .u64 (W.el r14_6e)), (.aggi .u64 (W.el r14_2e))] (.aggi .u64 (W.el r21_25e)))
    (c27 : PureF Try.prog 19 [(.aggi .u64 (W.el r21_23e)), (.aggi .u64 (W.el r21_25e))] (.c (.bool (true))))
    (c29 : PureF Try.prog 22 [(.aggi .u64 (W.el r14_2e)), (.aggi .u64 (W.el r14_6e))] (.aggi .u64 (W.el r22_28e)))
    (c31 : PureF Try.prog 22 [(.aggi .u64 (W.el r22_28e)), (.aggi .u64 (W.el r14_8e))] (.aggi .u64 (W.el r22_30e)))
    (c33 : PureF Try.prog 22 [(.aggi .u64 (W.el r14_6e)), (.aggi .u64 (W.el r14_8e))] (.aggi .u64 (W.el r22_32e)))
    (c35 : PureF Try.prog 22 [(.aggi .u64 (W.el r14_2e)), (.aggi .u64 (W.el r22_32e))] (.aggi .u64 (W.el r22_34e)))
    (c36 : PureF Try.prog 19 [(.aggi .u64 (W.el r22_30e)), (.aggi .u64 (W.el r22_34e))] (.c (.bool (true))))
    (c38 : PureF Try.prog 21 [(.aggi .u64 (W.el r14_2e)), (.aggi .u64 (W.el r14_6e))] (.aggi .u64 (W.el r21_37e)))
    (c40 : PureF Try.prog 21 [(.aggi .u64 (W.el r21_37e)), (.aggi .u64 (W.el r14_8e))] (.aggi .u64 (W.el r21_39e)))
    (c42 : PureF Try.prog 21 [(.aggi .u64 (W.el r14_6e)), (.aggi .u64 (W.el r14_8e))] (.aggi .u64 (W.el r21_41e)))
    (c44 : PureF Try.prog 21 [(.aggi .u64 (W.el r14_2e)), (.aggi .u64 (W.el r21_41e))] (.aggi .u64 (W.el r21_43e)))
    (c45 : PureF Try.prog 19 [(.aggi .u64 (W.el r21_39e)), (.aggi .u64 (W.el r21_43e))] (.c (.bool (true))))
    (c47 : PureF Try.prog 22 [(.aggi .u64 (W.el r14_6e)), (.aggi .u64 (W.el r14_8e))] (.aggi .u64 (W.el r22_46e)))
    (c49 : PureF Try.prog 21 [(.aggi .u64 (W.el r14_2e)), (.aggi .u64 (W.el r22_46e))] (.aggi .u64 (W.el r21_48e)))
    (c51 : PureF Try.prog 21 [(.aggi .u64 (W.el r14_2e)), (.aggi .u64 (W.el r14_6e))] (.aggi .u64 (W.el r21_50e)))
    (c53 : PureF Try.prog 21 [(.aggi .u64 (W.el r14_2e)), (.aggi .u64 (W.el r14_8e))] (.aggi .u64 (W.el r21_52e)))
    (c55 : PureF Try.prog 22 [(.aggi .u64 (W.el r21_50e)), (.aggi .u64 (W.el r21_52e))] (.aggi .u64 (W.el r22_54e)))
    (c56 : PureF Try.prog 19 [(.aggi .u64 (W.el r21_48e)), (.aggi .u64 (W.el r22_54e))] (.c (.bool (true))))
    (c58 : PureF Try.prog 22 [(.aggi .u64 (W.el r14_2e)), (.aggi .u64 (W.el r14_6e))] (.aggi .u64 (W.el r22_57e)))
    (c60 : PureF Try.prog 23 [(.aggi .u64 (W.el r22_57e)), (.aggi .u64 (W.el r14_6e))] (.aggi .u64 (W.el r23_59e)))
    (c61 : PureF Try.prog 19 [(.aggi .u64 (W.el r23_59e)), (.aggi .u64 (W.el r14_2e))] (.c (.bool (true))))
    (c63 : PureF Try.prog 24 [] (.aggi .u64 (W.el r24_62e)))
    (c65 : PureF Try.prog 22 [(.aggi .u64 (W.el r14_2e)), (.aggi .u64 (W.el r24_62e))] (.aggi .u64 (W.el r22_64e)))
    (c66 : PureF Try.prog 19 [(.aggi .u64 (W.el r22_64e)), (.aggi .u64 (W.el r14_2e))] (.c (.bool (true))))
    (c68 : PureF Try.prog 28 [] (.aggi .u64 (W.el r28_67e)))
    (c70 : PureF Try.prog 21 [(.aggi .u64 (W.el r14_2e)), (.aggi .u64 (W.el r28_67e))] (.aggi .u64 (W.el r21_69e)))
    (c71 : PureF Try.prog 19 [(.aggi .u64 (W.el r21_69e)), (.aggi .u64 (W.el r14_2e))] (.c (.bool (true))))
    (c73 : PureF Try.prog 28 [] (.aggi .u64 (W.el r28_72e)))
    (c74 : PureF Try.prog 19 [(.aggi .u64 (W.el r21_12e)), (.aggi .u64 (W.el r28_72e))] (.c (.bool (true)))) :
    PureF Try.prog 8 [(.aggi .u8 (W.bts a)), (.aggi .u8 (W.bts b)), (.aggi .u8 (W.bts c)), (.c (.int .i64 h)), (.c (.int .i64 o))] (.c (.bool (true))) :=
  Contract0.of_frun (fn := Try.f8) (c := bodyOf Try.f8) (fuel := 300) (k := kOf Try.prog Try.f8) (outs := []) (hs := [(6, ⟨.call [] (.aggi .u8 (W.bts r15_0n)) [] [], none⟩), (7, ⟨.call [] (.aggi .u64 (W.el r14_2e)) [] [], none⟩), (12, ⟨.call [] (.aggi .u8 (W.bts r15_4n)) [] [], none⟩), (13, ⟨.call [] (.aggi .u64 (W.el r14_6e)) [] [], none⟩), (17, ⟨.call [] (.aggi .u64 (W.el r14_8e)) [] [], none⟩), (22, ⟨.call [] (.aggi .u64 (W.el r27_10e)) [] [], none⟩), (23, ⟨.call [] (.aggi .u64 (W.el r21_12e)) [] [], none⟩), (27, ⟨.call [] (.aggi .u64 (W.el r24_14e)) [] [], none⟩), (28, ⟨.call [] (.c (.bool (false))) [] [], none⟩), (30, ⟨.call [] (.c (.bool (true))) [] [], none⟩), (34, ⟨.call [] (.aggi .u64 (W.el r22_18e)) [] [], none⟩), (37, ⟨.call [] (.aggi .u64 (W.el r22_20e)) [] [], none⟩), (38, ⟨.call [] (.c (.bool (true))) [] [], none⟩), (43, ⟨.call [] (.aggi .u64 (W.el r21_23e)) [] [], none⟩), (46, ⟨.call [] (.aggi .u64 (W.el r21_25e)) [] [], none⟩), (47, ⟨.call [] (.c (.bool (true))) [] [], none⟩), (52, ⟨.call [] (.aggi .u64 (W.el r22_28e)) [] [], none⟩), (54, ⟨.call [] (.aggi .u64 (W.el r22_30e)) [] [], none⟩), (58, ⟨.call [] (.aggi .u64 (W.el r22_32e)) [] [], none⟩), (59, ⟨.call [] (.aggi .u64 (W.el r22_34e)) [] [], none⟩), (60, ⟨.call [] (.c (.bool (true))) [] [], none⟩), (65, ⟨.call [] (.aggi .u64 (W.el r21_37e)) [] [], none⟩), (67, ⟨.call [] (.aggi .u64 (W.el r21_39e)) [] [], none⟩), (71, ⟨.call [] (.aggi .u64 (W.el r21_41e)) [] [], none⟩), (72, ⟨.call [] (.aggi .u64 (W.el r21_43e)) [] [], none⟩), (73, ⟨.call [] (.c (.bool (true))) [] [], none⟩), (79, ⟨.call [] (.aggi .u64 (W.el r22_46e)) [] [], none⟩), (80, ⟨.call [] (.aggi .u64 (W.el r21_48e)) [] [], none⟩), (83, ⟨.call [] (.aggi .u64 (W.el r21_50e)) [] [], none⟩), (86, ⟨.call [] (.aggi .u64 (W.el r21_52e)) [] [], none⟩), (87, ⟨.call [] (.aggi .u64 (W.el r22_54e)) [] [], none⟩), (88, ⟨.call [] (.c (.bool (true))) [] [], none⟩), (93, ⟨.call [] (.aggi .u64 (W.el r22_57e)) [] [], none⟩), (95, ⟨.call [] (.aggi .u64 (W.el r23_59e)) [] [], none⟩), (97, ⟨.call [] (.c (.bool (true))) [] [], none⟩), (101, ⟨.call [] (.aggi .u64 (W.el r24_62e)) [] [], none⟩), (102, ⟨.call [] (.aggi .u64 (W.el r22_64e)) [] [], none⟩), (104, ⟨.call [] (.c (.bool (true))) [] [], none⟩), (108, ⟨.call [] (.aggi .u64 (W.el r28_67e)) [] [], none⟩), (109, ⟨.call [] (.aggi .u64 (W.el r21_69e)) [] [], none⟩), (111, ⟨.call [] (.c (.bool (true))) [] [], none⟩), (125, ⟨.call [] (.aggi .u64 (W.el r28_72e)) [] [], none⟩), (126, ⟨.call [] (.c (.bool (true))) [] [], none⟩)])
    (cs := [Contract Try.prog 19 [(.agg [(.int .u64 (W.El.a0 r21_12e)), (.int .u64 (W.El.a1 r21_12e)), (.int .u64 (W.El.a2 r21_12e)), (.int .u64 (W.El.a3 r21_12e)), (.int .u64 (W.El.a4 r21_12e))]), (.aggi .u64 (W.el r28_72e))] [] 2017 (.c (.bool (true))) [] [],
      Contract Try.prog 28 [] [] 2001 (.aggi .u64 (W.el r28_72e)) [] [],
      Contract Try.prog 19 [(.aggi .u64 (W.el r21_69e)), (.agg [(.int .u64 (W.El.a0 r14_2e)), (.int .u64 (W.El.a1 r14_2e)), (.int .u64 (W.El.a2 r14_2e)), (.int .u64 (W.El.a3 r14_2e)), (.int .u64 (W.El.a4 r14_2e))])] [] 1777 (.c (.bool (true))) [] [],
      Contract Try.prog 21 [(.agg [(.int .u64 (W.El.a0 r14_2e)), (.int .u64 (W.El.a1 r14_2e)), (.int .u64 (W.El.a2 r14_2e)), (.int .u64 (W.El.a3 r14_2e)), (.int .u64 (W.El.a4 r14_2e))]), (.aggi .u64 (W.el r28_67e))] [] 1745 (.aggi .u64 (W.el r21_69e)) [] [],
      Contract Try.prog 28 [] [] 1729 (.aggi .u64 (W.el r28_67e)) [] [],
      Contract Try.prog 19 [(.aggi .u64 (W.el r22_64e)), (.agg [(.int .u64 (W.El.a0 r14_2e)), (.int .u64 (W.El.a1 r14_2e)), (.int .u64 (W.El.a2 r14_2e)), (.int .u64 (W.El.a3 r14_2e)), (.int .u64 (W.El.a4 r14_2e))])] [] 1665 (.c (.bool (true))) [] [],
      Contract Try.prog 22 [(.agg [(.int .u64 (W.El.a0 r14_2e)), (.int .u64 (W.El.a1 r14_2e)), (.int .u64 (W.El.a2 r14_2e)), (.int .u64 (W.El.a3 r14_2e)), (.int .u64 (W.El.a4 r14_2e))]), (.aggi .u64 (W.el r24_62e))] [] 1633 (.aggi .u64 (W.el r22_64e)) [] [],
      Contract Try.prog 24 [] [] 1617 (.aggi .u64 (W.el r24_62e)) [] [],
      Contract Try.prog 19 [(.aggi .u64 (W.el r23_59e)), (.agg [(.int .u64 (W.El.a0 r14_2e)), (.int .u64 (W.El.a1 r14_2e)), (.int .u64 (W.El.a2 r14_2e)), (.int .u64 (W.El.a3 r14_2e)), (.int .u64 (W.El.a4 r14_2e))])] [] 1553 (.c (.bool (true))) [] [],
      Contract Try.prog 23 [(.aggi .u64 (W.el r22_57e)), (.agg [(.int .u64 (W.El.a0 r14_6e)), (.int .u64 (W.El.a1 r14_6e)), (.int .u64 (W.El.a2 r14_6e)), (.int .u64 (W.El.a3 r14_6e)), (.int .u64 (W.El.a4 r14_6e))])] [] 1521 (.aggi .u64 (W.el r23_59e)) [] [],
      Contract Try.prog 22 [(.agg [(.int .u64 (W.El.a0 r14_2e)), (.int .u64 (W.El.a1 r14_2e)), (.int .u64 (W.El.a2 r14_2e)), (.int .u64 (W.El.a3 r14_2e)), (.int .u64 (W.El.a4 r14_2e))]), (.agg [(.int .u64 (W.El.a0 r14_6e)), (.int .u64 (W.El.a1 r14_6e)), (.int .u64 (W.El.a2 r14_6e)), (.int .u64 (W.El.a3 r14_6e)), (.int .u64 (W.El.a4 r14_6e))])] [] 1489 (.aggi .u64 (W.el r22_57e)) [] [],
      Contract Try.prog 19 [(.aggi .u64 (W.el r21_48e)), (.aggi .u64 (W.el r22_54e))] [] 1409 (.c (.bool (true))) [] [],
      Contract Try.prog 22 [(.aggi .u64 (W.el r21_50e)), (.aggi .u64 (W.el r21_52e))] [] 1393 (.aggi .u64 (W.el r22_54e)) [] [],
      Contract Try.prog 21 [(.agg [(.int .u64 (W.El.a0 r14_2e)), (.int .u64 (W.El.a1 r14_2e)), (.int .u64 (W.El.a2 r14_2e)), (.int .u64 (W.El.a3 r14_2e)), (.int .u64 (W.El.a4 r14_2e))]), (.agg [(.int .u64 (W.El.a0 r14_8e)), (.int .u64 (W.El.a1 r14_8e)), (.int .u64 (W.El.a2 r14_8e)), (.int .u64 (W.El.a3 r14_8e)), (.int .u64 (W.El.a4 r14_8e))])] [] 1377 (.aggi .u64 (W.el r21_52e)) [] [],
      Contract Try.prog 21 [(.agg [(.int .u64 (W.El.a0 r14_2e)), (.int .u64 (W.El.a1 r14_2e)), (.int .u64 (W.El.a2 r14_2e)), (.int .u64 (W.El.a3 r14_2e)), (.int .u64 (W.El.a4 r14_2e))]), (.agg [(.int .u64 (W.El.a0 r14_6e)), (.int .u64 (W.El.a1 r14_6e)), (.int .u64 (W.El.a2 r14_6e)), (.int .u64 (W.El.a3 r14_6e)), (.int .u64 (W.El.a4 r14_6e))])] [] 1329 (.aggi .u64 (W.el r21_50e)) [] [],
      Contract Try.prog 21 [(.agg [(.int .u64 (W.El.a0 r14_2e)), (.int .u64 (W.El.a1 r14_2e)), (.int .u64 (W.El.a2 r14_2e)), (.int .u64 (W.El.a3 r14_2e)), (.int .u64 (W.El.a4 r14_2e))]), (.aggi .u64 (W.el r22_46e))] [] 1281 (.aggi .u64 (W.el r21_48e)) [] [],
      Contract Try.prog 22 [(.agg [(.int .u64 (W.El.a0 r14_6e)), (.int .u64 (W.El.a1 r14_6e)), (.int .u64 (W.El.a2 r14_6e)), (.int .u64 (W.El.a3 r14_6e)), (.int .u64 (W.El.a4 r14_6e))]), (.agg [(.int .u64 (W.El.a0 r14_8e)), (.int .u64 (W.El.a1 r14_8e)), (.int .u64 (W.El.a2 r14_8e)), (.int .u64 (W.El.a3 r14_8e)), (.int .u64 (W.El.a4 r14_8e))])] [] 1265 (.aggi .u64 (W.el r22_46e)) [] [],
      Contract Try.prog 19 [(.aggi .u64 (W.el r21_39e)), (.aggi .u64 (W.el r21_43e))] [] 1169 (.c (.bool (true))) [] [],
      Contract Try.prog 21 [(.agg [(.int .u64 (W.El.a0 r14_2e)), (.int .u64 (W.El.a1 r14_2e)), (.int .u64 (W.El.a2 r14_2e)), (.int .u64 (W.El.a3 r14_2e)), (.int .u64 (W.El.a4 r14_2e))]), (.aggi .u64 (W.el r21_41e))] [] 1153 (.aggi .u64 (W.el r21_43e)) [] [],
      Contract Try.prog 21 [(.agg [(.int .u64 (W.El.a0 r14_6e)), (.int .u64 (W.El.a1 r14_6e)), (.int .u64 (W.El.a2 r14_6e)), (.int .u64 (W.El.a3 r14_6e)), (.int .u64 (W.El.a4 r14_6e))]), (.agg [(.int .u64 (W.El.a0 r14_8e)), (.int .u64 (W.El.a1 r14_8e)), (.int .u64 (W.El.a2 r14_8e)), (.int .u64 (W.El.a3 r14_8e)), (.int .u64 (W.El.a4 r14_8e))])] [] 1137 (.aggi .u64 (W.el r21_41e)) [] [],
      Contract Try.prog 21 [(.aggi .u64 (W.el r21_37e)), (.agg [(.int .u64 (W.El.a0 r14_8e)), (.int .u64 (W.El.a1 r14_8e)), (.int .u64 (W.El.a2 r14_8e)), (.int .u64 (W.El.a3 r14_8e)), (.int .u64 (W.El.a4 r14_8e))])] [] 1073 (.aggi .u64 (W.el r21_39e)) [] [],
      Contract Try.prog 21 [(.agg [(.int .u64 (W.El.a0 r14_2e)), (.int .u64 (W.El.a1 r14_2e)), (.int .u64 (W.El.a2 r14_2e)), (.int .u64 (W.El.a3 r14_2e)), (.int .u64 (W.El.a4 r14_2e))]), (.agg [(.int .u64 (W.El.a0 r14_6e)), (.int .u64 (W.El.a1 r14_6e)), (.int .u64 (W.El.a2 r14_6e)), (.int .u64 (W.El.a3 r14_6e)), (.int .u64 (W.El.a4 r14_6e))])] [] 1041 (.aggi .u64 (W.el r21_37e)) [] [],
      Contract Try.prog 19 [(.aggi .u64 (W.el r22_30e)), (.aggi .u64 (W.el r22_34e))] [] 961 (.c (.bool (true))) [] [],
      Contract Try.prog 22 [(.agg [(.int .u64 (W.El.a0 r14_2e)), (.int .u64 (W.El.a1 r14_2e)), (.int .u64 (W.El.a2 r14_2e)), (.int .u64 (W.El.a3 r14_2e)), (.int .u64 (W.El.a4 r14_2e))]), (.aggi .u64 (W.el r22_32e))] [] 945 (.aggi .u64 (W.el r22_34e)) [] [],
      Contract Try.prog 22 [(.agg [(.int .u64 (W.El.a0 r14_6e)), (.int .u64 (W.El.a1 r14_6e)), (.int .u64 (W.El.a2 r14_6e)), (.int .u64 (W.El.a3 r14_6e)), (.int .u64 (W.El.a4 r14_6e))]), (.agg [(.int .u64 (W.El.a0 r14_8e)), (.int .u64 (W.El.a1 r14_8e)), (.int .u64 (W.El.a2 r14_8e)), (.int .u64 (W.El.a3 r14_8e)), (.int .u64 (W.El.a4 r14_8e))])] [] 929 (.aggi .u64 (W.el r22_32e)) [] [],
      Contract Try.prog 22 [(.aggi .u64 (W.el r22_28e)), (.agg [(.int .u64 (W.El.a0 r14_8e)), (.int .u64 (W.El.a1 r14_8e)), (.int .u64 (W.El.a2 r14_8e)), (.int .u64 (W.El.a3 r14_8e)), (.int .u64 (W.El.a4 r14_8e))])] [] 865 (.aggi .u64 (W.el r22_30e)) [] [],
      Contract Try.prog 22 [(.agg [(.int .u64 (W.El.a0 r14_2e)), (.int .u64 (W.El.a1 r14_2e)), (.int .u64 (W.El.a2 r14_2e)), (.int .u64 (W.El.a3 r14_2e)), (.int .u64 (W.El.a4 r14_2e))]), (.agg [(.int .u64 (W.El.a0 r14_6e)), (.int .u64 (W.El.a1 r14_6e)), (.int .u64 (W.El.a2 r14_6e)), (.int .u64 (W.El.a3 r14_6e)), (.int .u64 (W.El.a4 r14_6e))])] [] 833 (.aggi .u64 (W.el r22_28e)) [] [],
      Contract Try.prog 19 [(.aggi .u64 (W.el r21_23e)), (.aggi .u64 (W.el r21_25e))] [] 753 (.c (.bool (true))) [] [],
      Contract Try.prog 21 [(.agg [(.int .u64 (W.El.a0 r14_6e)), (.int .u64 (W.El.a1 r14_6e)), (.int .u64 (W.El.a2 r14_6e)), (.int .u64 (W.El.a3 r14_6e)), (.int .u64 (W.El.a4 r14_6e))]), (.agg [(.int .u64 (W.El.a0 r14_2e)), (.int .u64 (W.El.a1 r14_2e)), (.int .u64 (W.El.a2 r14_2e)), (.int .u64 (W.El.a3 r14_2e)), (.int .u64 (W.El.a4 r14_2e))])] [] 737 (.aggi .u64 (W.el r21_25e)) [] [],
      Contract Try.prog 21 [(.agg [(.int .u64 (W.El.a0 r14_2e)), (.int .u64 (W.El.a1 r14_2e)), (.int .u64 (W.El.a2 r14_2e)), (.int .u64 (W.El.a3 r14_2e)), (.int .u64 (W.El.a4 r14_2e))]), (.agg [(.int .u64 (W.El.a0 r14_6e)), (.int .u64 (W.El.a1 r14_6e)), (.int .u64 (W.El.a2 r14_6e)), (.int .u64 (W.El.a3 r14_6e)), (.int .u64 (W.El.a4 r14_6e))])] [] 689 (.aggi .u64 (W.el r21_23e)) [] [],
      Contract Try.prog 19 [(.aggi .u64 (W.el r22_18e)), (.aggi .u64 (W.el r22_20e))] [] 609 (.c (.bool (true))) [] [],
      Contract Try.prog 22 [(.agg [(.int .u64 (W.El.a0 r14_6e)), (.int .u64 (W.El.a1 r14_6e)), (.int .u64 (W.El.a2 r14_6e)), (.int .u64 (W.El.a3 r14_6e)), (.int .u64 (W.El.a4 r14_6e))]), (.agg [(.int .u64 (W.El.a0 r14_2e)), (.int .u64 (W.El.a1 r14_2e)), (.int .u64 (W.El.a2 r14_2e)), (.int .u64 (W.El.a3 r14_2e)), (.int .u64 (W.El.a4 r14_2e))])] [] 593 (.aggi .u64 (W.el r22_20e)) [] [],
      Contract Try.prog 22 [(.agg [(.int .u64 (W.El.a0 r14_2e)), (.int .u64 (W.El.a1 r14_2e)), (.int .u64 (W.El.a2 r14_2e)), (.int .u64 (W.El.a3 r14_2e)), (.int .u64 (W.El.a4 r14_2e))]), (.agg [(.int .u64 (W.El.a0 r14_6e)), (.int .u64 (W.El.a1 r14_6e)), (.int .u64 (W.El.a2 r14_6e)), (.int .u64 (W.El.a3 r14_6e)), (.int .u64 (W.El.a4 r14_6e))])] [] 545 (.aggi .u64 (W.el r22_18e)) [] [],
      Contract Try.prog 18 [] [] 481 (.c (.bool (true))) [] [],
      Contract Try.prog 19 [(.agg [(.int .u64 (W.El.a0 r14_2e)), (.int .u64 (W.El.a1 r14_2e)), (.int .u64 (W.El.a2 r14_2e)), (.int .u64 (W.El.a3 r14_2e)), (.int .u64 (W.El.a4 r14_2e))]), (.aggi .u64 (W.el r24_14e))] [] 449 (.c (.bool (false))) [] [],
      Contract Try.prog 24 [] [] 433 (.aggi .u64 (W.el r24_14e)) [] [],
      Contract Try.prog 21 [(.agg [(.int .u64 (W.El.a0 r14_2e)), (.int .u64 (W.El.a1 r14_2e)), (.int .u64 (W.El.a2 r14_2e)), (.int .u64 (W.El.a3 r14_2e)), (.int .u64 (W.El.a4 r14_2e))]), (.aggi .u64 (W.el r27_10e))] [] 369 (.aggi .u64 (W.el r21_12e)) [] [],
      Contract Try.prog 27 [(.agg [(.int .u64 (W.El.a0 r14_2e)), (.int .u64 (W.El.a1 r14_2e)), (.int .u64 (W.El.a2 r14_2e)), (.int .u64 (W.El.a3 r14_2e)), (.int .u64 (W.El.a4 r14_2e))])] [] 353 (.aggi .u64 (W.el r27_10e)) [] [],
      Contract Try.prog 14 [(.aggi .u8 (Go.Proofs.Ytkjbjgkjplmkhaa.W.bts c))] [] 273 (.aggi .u64 (W.el r14_8e)) [] [],
      Contract Try.prog 14 [(.aggi .u8 (W.bts r15_4n))] [] 209 (.aggi .u64 (W.el r14_6e)) [] [],
      Contract Try.prog 15 [(.aggi .u8 (Go.Proofs.Ytkjbjgkjplmkhaa.W.bts b)), (.c (.int .i64 o))] [] 193 (.aggi .u8 (W.bts r15_4n)) [] [],
      Contract Try.prog 14 [(.aggi .u8 (W.bts r15_0n))] [] 113 (.aggi .u64 (W.el r14_2e)) [] [],
      Contract Try.prog 15 [(.aggi .u8 (Go.Proofs.Ytkjbjgkjplmkhaa.W.bts a)), (.c (.int .i64 h))] [] 97 (.aggi .u8 (W.bts r15_0n)) [] []])
    mixed Try.func8 (by kernel_rfl) (by kernel_rfl) (by kernel_rfl) rfl (by kernel_rfl) ⟨c74.use (by kernel_rfl) rfl rfl _ _, c73.use (by kernel_rfl) rfl rfl _ _, c71.use (by kernel_rfl) rfl rfl _ _, c70.use (by kernel_rfl) rfl rfl _ _, c68.use (by kernel_rfl) rfl rfl _ _, c66.use (by kernel_rfl) rfl rfl _ _, c65.use (by kernel_rfl) rfl rfl _ _, c63.use (by kernel_rfl) rfl rfl _ _, c61.use (by kernel_rfl) rfl rfl _ _, c60.use (by kernel_rfl) rfl rfl _ _, c58.use (by kernel_rfl) rfl rfl _ _, c56.use (by kernel_rfl) rfl rfl _ _, c55.use (by kernel_rfl) rfl rfl _ _, c53.use (by kernel_rfl) rfl rfl _ _, c51.use (by kernel_rfl) rfl rfl _ _, c49.use (by kernel_rfl) rfl rfl _ _, c47.use (by kernel_rfl) rfl rfl _ _, c45.use (by kernel_rfl) rfl rfl _ _, c44.use (by kernel_rfl) rfl rfl _ _, c42.use (by kernel_rfl) rfl rfl _ _, c40.use (by kernel_rfl) rfl rfl _ _, c38.use (by kernel_rfl) rfl rfl _ _, c36.use (by kernel_rfl) rfl rfl _ _, c35.use (by kernel_rfl) rfl rfl _ _, c33.use (by kernel_rfl) rfl rfl _ _, c31.use (by kernel_rfl) rfl rfl _ _, c29.use (by kernel_rfl) rfl rfl _ _, c27.use (by kernel_rfl) rfl rfl _ _, c26.use (by kernel_rfl) rfl rfl _ _, c24.use (by kernel_rfl) rfl rfl _ _, c22.use (by kernel_rfl) rfl rfl _ _, c21.use (by kernel_rfl) rfl rfl _ _, c19.use (by kernel_rfl) rfl rfl _ _, c17.use (by kernel_rfl) rfl rfl _ _, c16.use (by kernel_rfl) rfl rfl _ _, c15.use (by kernel_rfl) rfl rfl _ _, c13.use (by kernel_rfl) rfl rfl _ _, c11.use (by kernel_rfl) rfl rfl _ _, c9.use (by kernel_rfl) rfl rfl _ _, c7.use (by kernel_rfl) rfl rfl _ _, c5.use (by kernel_rfl) rfl rfl _ _, c3.use (by kernel_rfl) rfl rfl _ _, c1.use (by kernel_rfl) rfl rfl _ _, trivial⟩

theorem run9 (r17_0n : Int) (r28_2e r28_4e r22_6e r14_9e : W.El) (r16_11n : Int) (r24_14e r27_16e : W.El) (r16_18n : Int) (r27_21e r21_23e : W.El) (r16_25n : Int) (r28_28e r26_30e r28_33e : W.El)
    (c1 : PureF Try.prog 17 [(.c (.int .u8 0))] (.aggi .u8 (W.bts r17_0n)))
    (c3 : PureF Try.prog 28 [] (.aggi .u64 (W.el r28_2e)))
    (c5 : PureF Try.prog 28 [] (.aggi .u64 (W.el r28_4e)))
    (c7 : PureF Try.prog 22 [(.aggi .u64 (W.el r28_2e)), (.aggi .u64 (W.el r28_4e))] (.aggi .u64 (W.el r22_6e)))
    (c8 : PureF Try.prog 18 [] (.c (.bool (true))))
    (c10 : PureF Try.prog 14 [(.aggi .u8 [(r17_0n % 256), (r17_0n / 256 % 256), (r17_0n / 65536 % 256), (r17_0n / 16777216 % 256), (r17_0n / 4294967296 % 256), (r17_0n / 1099511627776 % 256), (r17_0n / 281474976710656 % 256), (r17_0n / 72057594037927936 % 256), (r17_0n / 18446744073709551616 % 256), (r17_0n / 4722366482869645213696 % 256), (r17_0n / 1208925819614629174706176 % 256), (r17_0n / 309485009821345068724781056 % 256), (r17_0n / 79228162514264337593543950336 % 256), (r17_0n / 20282409603651670423947251286016 % 256), (r17_0n / 5192296858534827628530496329220096 % 256), (r17_0n / 1329227995784915872903807060280344576 % 256), (r17_0n / 340282366920938463463374607431768211456 % 256), (r17_0n / 87112285931760246646623899502532662132736 % 256), (r17_0n / 22300745198530623141535718272648361505980416 % 256), (r17_0n / 5708990770823839524233143877797980545530986496 % 256), (r17_0n / 1461501637330902918203684832716283019655932542976 % 256), (r17_0n / 374144419156711147060143317175368453031918731001856 % 256), (r17_0n / 95780971304118053647396689196894323976171195136475136 % 256), (r17_0n / 24519928653854221733733552434404946937899825954937634816 % 256), (r17_0n / 6277101735386680763835789423207666416102355444464034512896 % 256), (r17_0n / 1606938044258990275541962092341162602522202993782792835301376 % 256), (r17_0n / 411376139330301510538742295639337626245683966408394965837152256 % 256), (r17_0n / 105312291668557186697918027683670432318895095400549111254310977536 % 256), (r17_0n / 26959946667150639794667015087019630673637144422540572481103610249216 % 256), (r17_0n / 6901746346790563787434755862277025452451108972170386555162524223799296 % 256), (r17_0n / 1766847064778384329583297500742918515827483896875618958121606201292619776 % 256), 255])] (.aggi .u64 (W.el r14_9e)))
    (c12 : PureF Try.prog 16 [(.aggi .u64 (W.el r14_9e))] (.aggi .u8 (W.bts r16_11n)))
    (h13 : (W.bts r16_11n == [0, 0, 0, 0, 0, 0, 0, 0, 0, 0, 0, 0, 0, 0, 0, 0, 0, 0, 0, 0, 0, 0, 0, 0, 0, 0, 0, 0, 0, 0, 0, 0]) = true)
    (c15 : PureF Try.prog 24 [] (.aggi .u64 (W.el r24_14e)))
    (c17 : PureF Try.prog 27 [(.aggi .u64 (W.el r24_14e))] (.aggi .u64 (W.el r27_16e)))
    (c19 : PureF Try.prog 16 [(.aggi .u64 (W.el r27_16e))] (.aggi .u8 (W.bts r16_18n)))
    (h20 : (W.bts r16_18n == [0, 0, 0, 0, 0, 0, 0, 0, 0, 0, 0, 0, 0, 0, 0, 0, 0, 0, 0, 0, 0, 0, 0, 0, 0, 0, 0, 0, 0, 0, 0, 0]) = true)
    (c22 : PureF Try.prog 27 [(.aggi .u64 (W.el r22_6e))] (.aggi .u64 (W.el r27_21e)))
    (c24 : PureF Try.prog 21 [(.aggi .u64 (W.el r22_6e)), (.aggi .u64 (W.el r27_21e))] (.aggi .u64 (W.el r21_23e)))
    (c26 : PureF Try.prog 16 [(.aggi .u64 (W.el r21_23e))] (.aggi .u8 (W.bts r16_25n)))
    (h27 : (W.bts r16_25n == [1, 0, 0, 0, 0, 0, 0, 0, 0, 0, 0, 0, 0, 0, 0, 0, 0, 0, 0, 0, 0, 0, 0, 0, 0, 0, 0, 0, 0, 0, 0, 0]) = true)
    (c29 : PureF Try.prog 28 [] (.aggi .u64 (W.el r28_28e)))
    (c31 : PureF Try.prog 26 [(.aggi .u64 (W.el r28_28e)), (.c (.int .u32 2))] (.aggi .u64 (W.el r26_30e)))
    (c32 : PureF Try.prog 19 [(.aggi .u64 (W.el r26_30e)), (.aggi .u64 (W.el r22_6e))] (.c (.bool (true))))
    (c34 : PureF Try.prog 28 [] (.aggi .u64 (W.el r28_33e)))
    (c35 : PureF Try.prog 19 [(.aggi .u64 (W.el r22_6e)), (.aggi .u64 (W.el r28_33e))] (.c (.bool (false)))) :
    PureF Try.prog 9 [] (.c (.bool (true))) :=
  Contract0.of_frun (fn := Try.f9) (c := bodyOf Try.f9) (fuel := 300) (k := kOf Try.prog Try.f9) (outs := []) (hs := [(1, ⟨.call [] (.aggi .u8 (W.bts r17_0n)) [] [], none⟩), (6, ⟨.call [] (.aggi .u64 (W.el r28_2e)) [] [], none⟩), (7, ⟨.call [] (.aggi .u64 (W.el r28_4e)) [] [], none⟩), (8, ⟨.call [] (.aggi .u64 (W.el r22_6e)) [] [], none⟩), (11, ⟨.call [] (.c (.bool (true))) [] [], none⟩), (14, ⟨.call [] (.aggi .u64 (W.el r14_9e)) [] [], none⟩), (15, ⟨.call [] (.aggi .u8 (W.bts r16_11n)) [] [], none⟩), (17, ⟨.auto, some (.c (.bool (true)))⟩), (20, ⟨.call [] (.aggi .u64 (W.el r24_14e)) [] [], none⟩), (21, ⟨.call [] (.aggi .u64 (W.el r27_16e)) [] [], none⟩), (22, ⟨.call [] (.aggi .u8 (W.bts r16_18n)) [] [], none⟩), (24, ⟨.auto, some (.c (.bool (true)))⟩), (29, ⟨.call [] (.aggi .u64 (W.el r27_21e)) [] [], none⟩), (30, ⟨.call [] (.aggi .u64 (W.el r21_23e)) [] [], none⟩), (31, ⟨.call [] (.aggi .u8 (W.bts r16_25n)) [] [], none⟩), (33, ⟨.auto, some (.c (.bool (true)))⟩), (36, ⟨.call [] (.aggi .u64 (W.el r28_28e)) [] [], none⟩), (37, ⟨.call [] (.aggi .u64 (W.el r26_30e)) [] [], none⟩), (39, ⟨.call [] (.c (.bool (true))) [] [], none⟩), (43, ⟨.call [] (.aggi .u64 (W.el r28_33e)) [] [], none⟩), (44, ⟨.call [] (.c (.bool (false))) [] [], none⟩)])
    (cs := [Contract Try.prog 19 [(.agg [(.int .u64 (W.El.a0 r22_6e)), (.int .u64 (W.El.a1 r22_6e)), (.int .u64 (W.El.a2 r22_6e)), (.int .u64 (W.El.a3 r22_6e)), (.int .u64 (W.El.a4 r22_6e))]), (.aggi .u64 (W.el r28_33e))] [] 705 (.c (.bool (false))) [] [],
      Contract Try.prog 28 [] [] 689 (.aggi .u64 (W.el r28_33e)) [] [],
      Contract Try.prog 19 [(.aggi .u64 (W.el r26_30e)), (.agg [(.int .u64 (W.El.a0 r22_6e)), (.int .u64 (W.El.a1 r22_6e)), (.int .u64 (W.El.a2 r22_6e)), (.int .u64 (W.El.a3 r22_6e)), (.int .u64 (W.El.a4 r22_6e))])] [] 625 (.c (.bool (true))) [] [],
      Contract Try.prog 26 [(.aggi .u64 (W.el r28_28e)), (.c (.int .u32 2))] [] 593 (.aggi .u64 (W.el r26_30e)) [] [],
      Contract Try.prog 28 [] [] 577 (.aggi .u64 (W.el r28_28e)) [] [],
      EB (W.bts r16_25n == [1, 0, 0, 0, 0, 0, 0, 0, 0, 0, 0, 0, 0, 0, 0, 0, 0, 0, 0, 0, 0, 0, 0, 0, 0, 0, 0, 0, 0, 0, 0, 0]) true,
      Contract Try.prog 16 [(.aggi .u64 (W.el r21_23e))] [] 497 (.aggi .u8 (W.bts r16_25n)) [] [],
      Contract Try.prog 21 [(.agg [(.int .u64 (W.El.a0 r22_6e)), (.int .u64 (W.El.a1 r22_6e)), (.int .u64 (W.El.a2 r22_6e)), (.int .u64 (W.El.a3 r22_6e)), (.int .u64 (W.El.a4 r22_6e))]), (.aggi .u64 (W.el r27_21e))] [] 481 (.aggi .u64 (W.el r21_23e)) [] [],
      Contract Try.prog 27 [(.agg [(.int .u64 (W.El.a0 r22_6e)), (.int .u64 (W.El.a1 r22_6e)), (.int .u64 (W.El.a2 r22_6e)), (.int .u64 (W.El.a3 r22_6e)), (.int .u64 (W.El.a4 r22_6e))])] [] 465 (.aggi .u64 (W.el r27_21e)) [] [],
      EB (W.bts r16_18n == [0, 0, 0, 0, 0, 0, 0, 0, 0, 0, 0, 0, 0, 0, 0, 0, 0, 0, 0, 0, 0, 0, 0, 0, 0, 0, 0, 0, 0, 0, 0, 0]) true,
      Contract Try.prog 16 [(.aggi .u64 (W.el r27_16e))] [] 353 (.aggi .u8 (W.bts r16_18n)) [] [],
      Contract Try.prog 27 [(.aggi .u64 (W.el r24_14e))] [] 337 (.aggi .u64 (W.el r27_16e)) [] [],
      Contract Try.prog 24 [] [] 321 (.aggi .u64 (W.el r24_14e)) [] [],
      EB (W.bts r16_11n == [0, 0, 0, 0, 0, 0, 0, 0, 0, 0, 0, 0, 0, 0, 0, 0, 0, 0, 0, 0, 0, 0, 0, 0, 0, 0, 0, 0, 0, 0, 0, 0]) true,
      Contract Try.prog 16 [(.aggi .u64 (W.el r14_9e))] [] 241 (.aggi .u8 (W.bts r16_11n)) [] [],
      Contract Try.prog 14 [(.agg [(.int .u8 (r17_0n % 256)), (.int .u8 (r17_0n / 256 % 256)), (.int .u8 (r17_0n / 65536 % 256)), (.int .u8 (r17_0n / 16777216 % 256)), (.int .u8 (r17_0n / 4294967296 % 256)), (.int .u8 (r17_0n / 1099511627776 % 256)), (.int .u8 (r17_0n / 281474976710656 % 256)), (.int .u8 (r17_0n / 72057594037927936 % 256)), (.int .u8 (r17_0n / 18446744073709551616 % 256)), (.int .u8 (r17_0n / 4722366482869645213696 % 256)), (.int .u8 (r17_0n / 1208925819614629174706176 % 256)), (.int .u8 (r17_0n / 309485009821345068724781056 % 256)), (.int .u8 (r17_0n / 79228162514264337593543950336 % 256)), (.int .u8 (r17_0n / 20282409603651670423947251286016 % 256)), (.int .u8 (r17_0n / 5192296858534827628530496329220096 % 256)), (.int .u8 (r17_0n / 1329227995784915872903807060280344576 % 256)), (.int .u8 (r17_0n / 340282366920938463463374607431768211456 % 256)), (.int .u8 (r17_0n / 87112285931760246646623899502532662132736 % 256)), (.int .u8 (r17_0n / 22300745198530623141535718272648361505980416 % 256)), (.int .u8 (r17_0n / 5708990770823839524233143877797980545530986496 % 256)), (.int .u8 (r17_0n / 1461501637330902918203684832716283019655932542976 % 256)), (.int .u8 (r17_0n / 374144419156711147060143317175368453031918731001856 % 256)), (.int .u8 (r17_0n / 95780971304118053647396689196894323976171195136475136 % 256)), (.int .u8 (r17_0n / 24519928653854221733733552434404946937899825954937634816 % 256)), (.int .u8 (r17_0n / 6277101735386680763835789423207666416102355444464034512896 % 256)), (.int .u8 (r17_0n / 1606938044258990275541962092341162602522202993782792835301376 % 256)), (.int .u8 (r17_0n / 411376139330301510538742295639337626245683966408394965837152256 % 256)), (.int .u8 (r17_0n / 105312291668557186697918027683670432318895095400549111254310977536 % 256)), (.int .u8 (r17_0n / 26959946667150639794667015087019630673637144422540572481103610249216 % 256)), (.int .u8 (r17_0n / 6901746346790563787434755862277025452451108972170386555162524223799296 % 256)), (.int .u8 (r17_0n / 1766847064778384329583297500742918515827483896875618958121606201292619776 % 256)), (.int .u8 255)])] [] 225 (.aggi .u64 (W.el r14_9e)) [] [],
      Contract Try.prog 18 [] [] 177 (.c (.bool (true))) [] [],
      Contract Try.prog 22 [(.aggi .u64 (W.el r28_2e)), (.aggi .u64 (W.el r28_4e))] [] 129 (.aggi .u64 (W.el r22_6e)) [] [],
      Contract Try.prog 28 [] [] 113 (.aggi .u64 (W.el r28_4e)) [] [],
      Contract Try.prog 28 [] [] 97 (.aggi .u64 (W.el r28_2e)) [] [],
      Contract Try.prog 17 [(.c (.int .u8 0))] [] 17 (.aggi .u8 (W.bts r17_0n)) [] []])
    mixed Try.func9 (by kernel_rfl) (by kernel_rfl) (by kernel_rfl) rfl (by kernel_rfl) ⟨c35.use (by kernel_rfl) rfl rfl _ _, c34.use (by kernel_rfl) rfl rfl _ _, c32.use (by kernel_rfl) rfl rfl _ _, c31.use (by kernel_rfl) rfl rfl _ _, c29.use (by kernel_rfl) rfl rfl _ _, .mk h27, c26.use (by kernel_rfl) rfl rfl _ _, c24.use (by kernel_rfl) rfl rfl _ _, c22.use (by kernel_rfl) rfl rfl _ _, .mk h20, c19.use (by kernel_rfl) rfl rfl _ _, c17.use (by kernel_rfl) rfl rfl _ _, c15.use (by kernel_rfl) rfl rfl _ _, .mk h13, c12.use (by kernel_rfl) rfl rfl _ _, c10.use (by kernel_rfl) rfl rfl _ _, c8.use (by kernel_rfl) rfl rfl _ _, c7.use (by kernel_rfl) rfl rfl _ _, c5.use (by kernel_rfl) rfl rfl _ _, c3.use (by kernel_rfl) rfl rfl _ _, c1.use (by kernel_rfl) rfl rfl _ _, trivial⟩

end Go.Proofs.Ytkjbjgkjplmkhaa.Vm
