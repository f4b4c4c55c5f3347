/- What functions of the program come to: parts of the walk (Ca). -/
import Derived.Test.YtkjbjgkjplmkhaaDoorWa
import Derived.Test.YtkjbjgkjplmkhaaDoorFg
import Derived.KernelRfl
import Derived.Test.YtkjbjgkjplmkhaaDoorProg
import Derived.Test.YtkjbjgkjplmkhaaDoorFb
set_option linter.unusedSimpArgs false
set_option linter.unusedVariables false
/- Words for the ladder's points. -/
namespace Go.Proofs.YtkjbjgkjplmkhaaDoor.W
/-- A point of the ladder: two elements. -/
def pt (e f : El) : List Int := [e.a0, e.a1, e.a2, e.a3, e.a4, f.a0, f.a1, f.a2, f.a3, f.a4]
end Go.Proofs.YtkjbjgkjplmkhaaDoor.W

namespace Go.Proofs.YtkjbjgkjplmkhaaDoor.Vm
open Go Go.Proofs Go.Proofs.YtkjbjgkjplmkhaaDoor
set_option maxRecDepth 100000
theorem run44 (a r21_0e : W.El)
    (c1 : PureF Tryd.prog 11 [(.aggi .u64 (W.el a)), (.aggi .u64 (W.el a))] (.aggi .u64 (W.el r21_0e))) :
    PureF Tryd.prog 49 [(.aggi .u64 (W.el a))] (.aggi .u64 (W.el r21_0e)) :=
  Contract0.of_frun (fn := Tryd.f49) (c := bodyOf Tryd.f49) (fuel := 300) (k := kOf Tryd.prog Tryd.f49) (outs := []) (hs := [(4, ⟨.call [] (.aggi .u64 (W.el r21_0e)) [] [], none⟩)])
    (cs := [Contract Tryd.prog 11 [(.aggi .u64 (W.el a)), (.aggi .u64 (W.el a))] [] 65 (.aggi .u64 (W.el r21_0e)) [] []])
    mixed Tryd.func49 (by kernel_rfl) (by kernel_rfl) (by kernel_rfl) rfl (by kernel_rfl) ⟨c1.use (by kernel_rfl) rfl rfl _ _, trivial⟩

theorem run39 (a b c d : W.El) (s : Int) (r20_0e r20_0g r20_2e r20_2g : W.El)
    (c1 : PureF Tryd.prog 48 [(.aggi .u64 (W.el a)), (.aggi .u64 (W.el c)), (.c (.int .u64 s))] (.tup [(.aggi .u64 (W.el r20_0e)), (.aggi .u64 (W.el r20_0g))]))
    (c3 : PureF Tryd.prog 48 [(.aggi .u64 (W.el b)), (.aggi .u64 (W.el d)), (.c (.int .u64 s))] (.tup [(.aggi .u64 (W.el r20_2e)), (.aggi .u64 (W.el r20_2g))])) :
    PureF Tryd.prog 41 [(.aggi .u64 (W.pt a b)), (.aggi .u64 (W.pt c d)), (.c (.int .u64 s))] (.tup [(.aggi .u64 (W.pt r20_0e r20_2e)), (.aggi .u64 (W.pt r20_0g r20_2g))]) :=
  Contract0.of_frun (fn := Tryd.f41) (c := bodyOf Tryd.f41) (fuel := 300) (k := kOf Tryd.prog Tryd.f41) (outs := []) (hs := [(9, ⟨.call [] (.tup [(.aggi .u64 (W.el r20_0e)), (.aggi .u64 (W.el r20_0g))]) [] [], none⟩), (22, ⟨.call [] (.tup [(.aggi .u64 (W.el r20_2e)), (.aggi .u64 (W.el r20_2g))]) [] [], none⟩)])
    (cs := [Contract Tryd.prog 48 [(.aggi .u64 (W.el b)), (.aggi .u64 (W.el d)), (.c (.int .u64 s))] [] 353 (.tup [(.aggi .u64 (W.el r20_2e)), (.aggi .u64 (W.el r20_2g))]) [] [],
      Contract Tryd.prog 48 [(.aggi .u64 (W.el a)), (.aggi .u64 (W.el c)), (.c (.int .u64 s))] [] 145 (.tup [(.aggi .u64 (W.el r20_0e)), (.aggi .u64 (W.el r20_0g))]) [] []])
    mixed Tryd.func41 (by kernel_rfl) (by kernel_rfl) (by kernel_rfl) rfl (by kernel_rfl) ⟨c3.use (by kernel_rfl) rfl rfl _ _, c1.use (by kernel_rfl) rfl rfl _ _, trivial⟩

theorem run40 (a b c d u r22_0e r23_2e r44_4e r44_6e r23_8e r23_10e r21_12e r22_14e r21_16e r22_18e r44_20e r23_22e r44_24e r21_26e r21_28e r26_30e r22_32e r21_34e : W.El)
    (c1 : PureF Tryd.prog 17 [(.aggi .u64 (W.el a)), (.aggi .u64 (W.el b))] (.aggi .u64 (W.el r22_0e)))
    (c3 : PureF Tryd.prog 19 [(.aggi .u64 (W.el a)), (.aggi .u64 (W.el b))] (.aggi .u64 (W.el r23_2e)))
    (c5 : PureF Tryd.prog 49 [(.aggi .u64 (W.el r22_0e))] (.aggi .u64 (W.el r44_4e)))
    (c7 : PureF Tryd.prog 49 [(.aggi .u64 (W.el r23_2e))] (.aggi .u64 (W.el r44_6e)))
    (c9 : PureF Tryd.prog 19 [(.aggi .u64 (W.el r44_4e)), (.aggi .u64 (W.el r44_6e))] (.aggi .u64 (W.el r23_8e)))
    (c11 : PureF Tryd.prog 19 [(.aggi .u64 (W.el c)), (.aggi .u64 (W.el d))] (.aggi .u64 (W.el r23_10e)))
    (c13 : PureF Tryd.prog 11 [(.aggi .u64 (W.el r23_10e)), (.aggi .u64 (W.el r22_0e))] (.aggi .u64 (W.el r21_12e)))
    (c15 : PureF Tryd.prog 17 [(.aggi .u64 (W.el c)), (.aggi .u64 (W.el d))] (.aggi .u64 (W.el r22_14e)))
    (c17 : PureF Tryd.prog 11 [(.aggi .u64 (W.el r22_14e)), (.aggi .u64 (W.el r23_2e))] (.aggi .u64 (W.el r21_16e)))
    (c19 : PureF Tryd.prog 17 [(.aggi .u64 (W.el r21_12e)), (.aggi .u64 (W.el r21_16e))] (.aggi .u64 (W.el r22_18e)))
    (c21 : PureF Tryd.prog 49 [(.aggi .u64 (W.el r22_18e))] (.aggi .u64 (W.el r44_20e)))
    (c23 : PureF Tryd.prog 19 [(.aggi .u64 (W.el r21_12e)), (.aggi .u64 (W.el r21_16e))] (.aggi .u64 (W.el r23_22e)))
    (c25 : PureF Tryd.prog 49 [(.aggi .u64 (W.el r23_22e))] (.aggi .u64 (W.el r44_24e)))
    (c27 : PureF Tryd.prog 11 [(.aggi .u64 (W.el u)), (.aggi .u64 (W.el r44_24e))] (.aggi .u64 (W.el r21_26e)))
    (c29 : PureF Tryd.prog 11 [(.aggi .u64 (W.el r44_4e)), (.aggi .u64 (W.el r44_6e))] (.aggi .u64 (W.el r21_28e)))
    (c31 : PureF Tryd.prog 21 [(.aggi .u64 (W.el r23_8e)), (.c (.int .u32 121665))] (.aggi .u64 (W.el r26_30e)))
    (c33 : PureF Tryd.prog 17 [(.aggi .u64 (W.el r44_4e)), (.aggi .u64 (W.el r26_30e))] (.aggi .u64 (W.el r22_32e)))
    (c35 : PureF Tryd.prog 11 [(.aggi .u64 (W.el r23_8e)), (.aggi .u64 (W.el r22_32e))] (.aggi .u64 (W.el r21_34e))) :
    PureF Tryd.prog 42 [(.aggi .u64 (W.pt a b)), (.aggi .u64 (W.pt c d)), (.aggi .u64 (W.el u))] (.tup [(.aggi .u64 (W.pt r21_28e r21_34e)), (.aggi .u64 (W.pt r44_20e r21_26e))]) :=
  Contract0.of_frun (fn := Tryd.f42) (c := bodyOf Tryd.f42) (fuel := 300) (k := kOf Tryd.prog Tryd.f42) (outs := []) (hs := [(9, ⟨.call [] (.aggi .u64 (W.el r22_0e)) [] [], none⟩), (14, ⟨.call [] (.aggi .u64 (W.el r23_2e)) [] [], none⟩), (20, ⟨.call [] (.aggi .u64 (W.el r44_4e)) [] [], none⟩), (22, ⟨.call [] (.aggi .u64 (W.el r44_6e)) [] [], none⟩), (29, ⟨.call [] (.aggi .u64 (W.el r23_8e)) [] [], none⟩), (36, ⟨.call [] (.aggi .u64 (W.el r23_10e)) [] [], none⟩), (38, ⟨.call [] (.aggi .u64 (W.el r21_12e)) [] [], none⟩), (45, ⟨.call [] (.aggi .u64 (W.el r22_14e)) [] [], none⟩), (47, ⟨.call [] (.aggi .u64 (W.el r21_16e)) [] [], none⟩), (52, ⟨.call [] (.aggi .u64 (W.el r22_18e)) [] [], none⟩), (53, ⟨.call [] (.aggi .u64 (W.el r44_20e)) [] [], none⟩), (57, ⟨.call [] (.aggi .u64 (W.el r23_22e)) [] [], none⟩), (58, ⟨.call [] (.aggi .u64 (W.el r44_24e)) [] [], none⟩), (59, ⟨.call [] (.aggi .u64 (W.el r21_26e)) [] [], none⟩), (64, ⟨.call [] (.aggi .u64 (W.el r21_28e)) [] [], none⟩), (68, ⟨.call [] (.aggi .u64 (W.el r26_30e)) [] [], none⟩), (69, ⟨.call [] (.aggi .u64 (W.el r22_32e)) [] [], none⟩), (70, ⟨.call [] (.aggi .u64 (W.el r21_34e)) [] [], none⟩)])
    (cs := [Contract Tryd.prog 11 [(.aggi .u64 [(W.El.a0 r23_8e), (W.El.a1 r23_8e), (W.El.a2 r23_8e), (W.El.a3 r23_8e), (W.El.a4 r23_8e)]), (.aggi .u64 (W.el r22_32e))] [] 1121 (.aggi .u64 (W.el r21_34e)) [] [],
      Contract Tryd.prog 17 [(.aggi .u64 [(W.El.a0 r44_4e), (W.El.a1 r44_4e), (W.El.a2 r44_4e), (W.El.a3 r44_4e), (W.El.a4 r44_4e)]), (.aggi .u64 (W.el r26_30e))] [] 1105 (.aggi .u64 (W.el r22_32e)) [] [],
      Contract Tryd.prog 21 [(.aggi .u64 [(W.El.a0 r23_8e), (W.El.a1 r23_8e), (W.El.a2 r23_8e), (W.El.a3 r23_8e), (W.El.a4 r23_8e)]), (.c (.int .u32 121665))] [] 1089 (.aggi .u64 (W.el r26_30e)) [] [],
      Contract Tryd.prog 11 [(.aggi .u64 [(W.El.a0 r44_4e), (W.El.a1 r44_4e), (W.El.a2 r44_4e), (W.El.a3 r44_4e), (W.El.a4 r44_4e)]), (.aggi .u64 [(W.El.a0 r44_6e), (W.El.a1 r44_6e), (W.El.a2 r44_6e), (W.El.a3 r44_6e), (W.El.a4 r44_6e)])] [] 1025 (.aggi .u64 (W.el r21_28e)) [] [],
      Contract Tryd.prog 11 [(.aggi .u64 (W.el u)), (.aggi .u64 (W.el r44_24e))] [] 945 (.aggi .u64 (W.el r21_26e)) [] [],
      Contract Tryd.prog 49 [(.aggi .u64 (W.el r23_22e))] [] 929 (.aggi .u64 (W.el r44_24e)) [] [],
      Contract Tryd.prog 19 [(.aggi .u64 [(W.El.a0 r21_12e), (W.El.a1 r21_12e), (W.El.a2 r21_12e), (W.El.a3 r21_12e), (W.El.a4 r21_12e)]), (.aggi .u64 [(W.El.a0 r21_16e), (W.El.a1 r21_16e), (W.El.a2 r21_16e), (W.El.a3 r21_16e), (W.El.a4 r21_16e)])] [] 913 (.aggi .u64 (W.el r23_22e)) [] [],
      Contract Tryd.prog 49 [(.aggi .u64 (W.el r22_18e))] [] 849 (.aggi .u64 (W.el r44_20e)) [] [],
      Contract Tryd.prog 17 [(.aggi .u64 [(W.El.a0 r21_12e), (W.El.a1 r21_12e), (W.El.a2 r21_12e), (W.El.a3 r21_12e), (W.El.a4 r21_12e)]), (.aggi .u64 [(W.El.a0 r21_16e), (W.El.a1 r21_16e), (W.El.a2 r21_16e), (W.El.a3 r21_16e), (W.El.a4 r21_16e)])] [] 833 (.aggi .u64 (W.el r22_18e)) [] [],
      Contract Tryd.prog 11 [(.aggi .u64 (W.el r22_14e)), (.aggi .u64 [(W.El.a0 r23_2e), (W.El.a1 r23_2e), (W.El.a2 r23_2e), (W.El.a3 r23_2e), (W.El.a4 r23_2e)])] [] 753 (.aggi .u64 (W.el r21_16e)) [] [],
      Contract Tryd.prog 17 [(.aggi .u64 (W.el c)), (.aggi .u64 (W.el d))] [] 721 (.aggi .u64 (W.el r22_14e)) [] [],
      Contract Tryd.prog 11 [(.aggi .u64 (W.el r23_10e)), (.aggi .u64 [(W.El.a0 r22_0e), (W.El.a1 r22_0e), (W.El.a2 r22_0e), (W.El.a3 r22_0e), (W.El.a4 r22_0e)])] [] 609 (.aggi .u64 (W.el r21_12e)) [] [],
      Contract Tryd.prog 19 [(.aggi .u64 (W.el c)), (.aggi .u64 (W.el d))] [] 577 (.aggi .u64 (W.el r23_10e)) [] [],
      Contract Tryd.prog 19 [(.aggi .u64 [(W.El.a0 r44_4e), (W.El.a1 r44_4e), (W.El.a2 r44_4e), (W.El.a3 r44_4e), (W.El.a4 r44_4e)]), (.aggi .u64 [(W.El.a0 r44_6e), (W.El.a1 r44_6e), (W.El.a2 r44_6e), (W.El.a3 r44_6e), (W.El.a4 r44_6e)])] [] 465 (.aggi .u64 (W.el r23_8e)) [] [],
      Contract Tryd.prog 49 [(.aggi .u64 [(W.El.a0 r23_2e), (W.El.a1 r23_2e), (W.El.a2 r23_2e), (W.El.a3 r23_2e), (W.El.a4 r23_2e)])] [] 353 (.aggi .u64 (W.el r44_6e)) [] [],
      Contract Tryd.prog 49 [(.aggi .u64 [(W.El.a0 r22_0e), (W.El.a1 r22_0e), (W.El.a2 r22_0e), (W.El.a3 r22_0e), (W.El.a4 r22_0e)])] [] 321 (.aggi .u64 (W.el r44_4e)) [] [],
      Contract Tryd.prog 19 [(.aggi .u64 (W.el a)), (.aggi .u64 (W.el b))] [] 225 (.aggi .u64 (W.el r23_2e)) [] [],
      Contract Tryd.prog 17 [(.aggi .u64 (W.el a)), (.aggi .u64 (W.el b))] [] 145 (.aggi .u64 (W.el r22_0e)) [] []])
    mixed Tryd.func42 (by kernel_rfl) (by kernel_rfl) (by kernel_rfl) rfl (by kernel_rfl) ⟨c35.use (by kernel_rfl) rfl rfl _ _, c33.use (by kernel_rfl) rfl rfl _ _, c31.use (by kernel_rfl) rfl rfl _ _, c29.use (by kernel_rfl) rfl rfl _ _, c27.use (by kernel_rfl) rfl rfl _ _, c25.use (by kernel_rfl) rfl rfl _ _, c23.use (by kernel_rfl) rfl rfl _ _, c21.use (by kernel_rfl) rfl rfl _ _, c19.use (by kernel_rfl) rfl rfl _ _, c17.use (by kernel_rfl) rfl rfl _ _, c15.use (by kernel_rfl) rfl rfl _ _, c13.use (by kernel_rfl) rfl rfl _ _, c11.use (by kernel_rfl) rfl rfl _ _, c9.use (by kernel_rfl) rfl rfl _ _, c7.use (by kernel_rfl) rfl rfl _ _, c5.use (by kernel_rfl) rfl rfl _ _, c3.use (by kernel_rfl) rfl rfl _ _, c1.use (by kernel_rfl) rfl rfl _ _, trivial⟩

theorem run31 (k x1 x3 x5 x7 x9 : Int)
    (h0 : (List.getD (W.bts k) 0 0) = x1)
    (h2 : (bAnd IntKind.u8 x1 248) = x3)
    (h4 : (List.getD (splice (W.bts k) 0 [x3]) 31 0) = x5)
    (h6 : (bAnd IntKind.u8 x5 127) = x7)
    (h8 : (bOr IntKind.u8 x7 64) = x9) :
    PureF Tryd.prog 28 [(.aggi .u8 (W.bts k))] (.aggi .u8 [x3, (k / 256 % 256), (k / 65536 % 256), (k / 16777216 % 256), (k / 4294967296 % 256), (k / 1099511627776 % 256), (k / 281474976710656 % 256), (k / 72057594037927936 % 256), (k / 18446744073709551616 % 256), (k / 4722366482869645213696 % 256), (k / 1208925819614629174706176 % 256), (k / 309485009821345068724781056 % 256), (k / 79228162514264337593543950336 % 256), (k / 20282409603651670423947251286016 % 256), (k / 5192296858534827628530496329220096 % 256), (k / 1329227995784915872903807060280344576 % 256), (k / 340282366920938463463374607431768211456 % 256), (k / 87112285931760246646623899502532662132736 % 256), (k / 22300745198530623141535718272648361505980416 % 256), (k / 5708990770823839524233143877797980545530986496 % 256), (k / 1461501637330902918203684832716283019655932542976 % 256), (k / 374144419156711147060143317175368453031918731001856 % 256), (k / 95780971304118053647396689196894323976171195136475136 % 256), (k / 24519928653854221733733552434404946937899825954937634816 % 256), (k / 6277101735386680763835789423207666416102355444464034512896 % 256), (k / 1606938044258990275541962092341162602522202993782792835301376 % 256), (k / 411376139330301510538742295639337626245683966408394965837152256 % 256), (k / 105312291668557186697918027683670432318895095400549111254310977536 % 256), (k / 26959946667150639794667015087019630673637144422540572481103610249216 % 256), (k / 6901746346790563787434755862277025452451108972170386555162524223799296 % 256), (k / 1766847064778384329583297500742918515827483896875618958121606201292619776 % 256), x9]) :=
  Contract0.of_frun (fn := Tryd.f28) (c := bodyOf Tryd.f28) (fuel := 300) (k := kOf Tryd.prog Tryd.f28) (outs := []) (hs := [(3, ⟨.auto, some (.c (.int .u8 x1))⟩), (4, ⟨.auto, some (.c (.int .u8 x3))⟩), (8, ⟨.auto, some (.c (.int .u8 x5))⟩), (9, ⟨.auto, some (.c (.int .u8 x7))⟩), (10, ⟨.auto, some (.c (.int .u8 x9))⟩)])
    (cs := [EI .u8 (bOr IntKind.u8 x7 64) x9,
      EI .u8 (bAnd IntKind.u8 x5 127) x7,
      EI .u8 (List.getD (splice (W.bts k) 0 [x3]) 31 0) x5,
      EI .u8 (bAnd IntKind.u8 x1 248) x3,
      EI .u8 (List.getD (W.bts k) 0 0) x1])
    mixed Tryd.func28 (by kernel_rfl) (by kernel_rfl) (by kernel_rfl) rfl (by kernel_rfl) ⟨.mk h8, .mk h6, .mk h4, .mk h2, .mk h0, trivial⟩

def L30I (r31_0n : Int) (r14_2e : W.El) (s i : Int) (a b c d : W.El) : S0 :=
  ⟨[(2, (.c (.ptr 1 0 0))), (4, (.c (.ptr 33 0 0))), (5, (.c (.ptr 129 0 0))), (6, (.c (.ptr 257 0 0))), (7, (.c (.ptr 273 0 0))), (8, (.c (.int .u64 s))), (9, (.c (.int .i64 i)))], [(1, (.one ⟨true, true, (.ints .u8 (Go.Proofs.YtkjbjgkjplmkhaaDoor.W.bts r31_0n))⟩)), (33, (.one ⟨true, true, (.ints .u8 [0, 0, 0, 0, 0, 0, 0, 0, 0, 0, 0, 0, 0, 0, 0, 0, 0, 0, 0, 0, 0, 0, 0, 0, 0, 0, 0, 0, 0, 0, 0, 0])⟩)), (129, (.one ⟨true, true, (.ints .u64 (W.el r14_2e))⟩)), (257, (.one ⟨true, true, .ints .u64 (W.pt a b)⟩)), (273, (.one ⟨true, true, .ints .u64 (W.pt c d)⟩))], 353⟩
def L30J (r31_0n : Int) (r14_2e : W.El) (s : Int) (a b c d : W.El) : S0 :=
  ⟨[(2, (.c (.ptr 1 0 0))), (4, (.c (.ptr 33 0 0))), (5, (.c (.ptr 129 0 0))), (6, (.c (.ptr 257 0 0))), (7, (.c (.ptr 273 0 0))), (8, (.c (.int .u64 s)))], [(1, (.one ⟨true, true, (.ints .u8 (Go.Proofs.YtkjbjgkjplmkhaaDoor.W.bts r31_0n))⟩)), (33, (.one ⟨true, true, (.ints .u8 [0, 0, 0, 0, 0, 0, 0, 0, 0, 0, 0, 0, 0, 0, 0, 0, 0, 0, 0, 0, 0, 0, 0, 0, 0, 0, 0, 0, 0, 0, 0, 0])⟩)), (129, (.one ⟨true, true, (.ints .u64 (W.el r14_2e))⟩)), (257, (.one ⟨true, true, .ints .u64 (W.pt a b)⟩)), (273, (.one ⟨true, true, .ints .u64 (W.pt c d)⟩))], 353⟩

theorem run30_go (r31_0n : Int) (r14_2e : W.El) (s i : Int) (a b c d : W.El) (x12 x15 x18 x20 x23 x25 x27 : Int) (r39_28e r39_28g r39_28h r39_28j r40_30e r40_30g r40_30h r40_30j : W.El) (x33 : Int)
    (h10 : (decide (i ≥ 0)) = true)
    (h11 : (IntKind.wrap IntKind.i64 (Int.tdiv i 8)) = x12)
    (c13 : ((0 : Int) ≤ x12 ∧ x12 < (32 : Int)))
    (h14 : (List.getD (W.bts r31_0n) (addO 0 (mulE (Int.toNat x12) 1)) 0) = x15)
    (c16 : (addO (0 : Nat) (mulE (Int.toNat x12) (1 : Nat)) + (1 : Nat) ≤ (32 : Nat)))
    (h17 : (Int.tmod i 8) = x18)
    (h19 : (x15 / 2 ^ min (Int.toNat x18) 8) = x20)
    (c21 : ((0 : Int) ≤ x18))
    (h22 : (x20 % 18446744073709551616) = x23)
    (h24 : (bAnd IntKind.u64 x23 1) = x25)
    (h26 : (bXor IntKind.u64 s x25) = x27)
    (c29 : PureF Tryd.prog 41 [(.aggi .u64 (W.pt a b)), (.aggi .u64 (W.pt c d)), (.c (.int .u64 x27))] (.tup [(.aggi .u64 (W.pt r39_28e r39_28g)), (.aggi .u64 (W.pt r39_28h r39_28j))]))
    (c31 : PureF Tryd.prog 42 [(.aggi .u64 (W.pt r39_28e r39_28g)), (.aggi .u64 (W.pt r39_28h r39_28j)), (.aggi .u64 (W.el r14_2e))] (.tup [(.aggi .u64 (W.pt r40_30e r40_30g)), (.aggi .u64 (W.pt r40_30h r40_30j))]))
    (h32 : (IntKind.wrap IntKind.i64 (i - 1)) = x33) :
    CodeOk Tryd.prog 65 353 (kAt (kOf Tryd.prog Tryd.f24) [true, true, true, true, true, false, true, false, false]) (L30I r31_0n r14_2e s i a b c d) .normal (L30I r31_0n r14_2e x25 x33 r40_30e r40_30g r40_30h r40_30j) :=
  CodeOk.of_runs (fuel := 300) (v := ⟨[2, 4, 5, 6, 7, 8, 9], [1, 33, 129, 257, 273], [], 353⟩) (hs := [(1, ⟨.auto, some (.c (.bool (true)))⟩), (4, ⟨.auto, some (.c (.int .i64 x12))⟩), (5, ⟨.ask, none⟩), (6, ⟨.ask, some (.c (.int .u8 x15))⟩), (8, ⟨.auto, some (.c (.int .i64 x18))⟩), (9, ⟨.ask, some (.c (.int .u8 x20))⟩), (10, ⟨.auto, some (.c (.int .u64 x23))⟩), (11, ⟨.auto, some (.c (.int .u64 x25))⟩), (17, ⟨.auto, some (.c (.int .u64 x27))⟩), (18, ⟨.call [] (.tup [(.aggi .u64 (W.pt r39_28e r39_28g)), (.aggi .u64 (W.pt r39_28h r39_28j))]) [] [], none⟩), (29, ⟨.call [] (.tup [(.aggi .u64 (W.pt r40_30e r40_30g)), (.aggi .u64 (W.pt r40_30h r40_30j))]) [] [], none⟩), (36, ⟨.auto, some (.c (.int .i64 x33))⟩)])
    (cs := [EI .i64 (IntKind.wrap IntKind.i64 (i - 1)) x33,
      Contract Tryd.prog 42 [(.aggi .u64 (W.pt r39_28e r39_28g)), (.aggi .u64 (W.pt r39_28h r39_28j)), (.aggi .u64 (W.el r14_2e))] [] 801 (.tup [(.aggi .u64 (W.pt r40_30e r40_30g)), (.aggi .u64 (W.pt r40_30h r40_30j))]) [] [],
      Contract Tryd.prog 41 [(.aggi .u64 (W.pt a b)), (.aggi .u64 (W.pt c d)), (.c (.int .u64 x27))] [] 625 (.tup [(.aggi .u64 (W.pt r39_28e r39_28g)), (.aggi .u64 (W.pt r39_28h r39_28j))]) [] [],
      EI .u64 (bXor IntKind.u64 s x25) x27,
      EI .u64 (bAnd IntKind.u64 x23 1) x25,
      EI .u64 (x20 % 18446744073709551616) x23,
      EI .u8 (x15 / 2 ^ min (Int.toNat x18) 8) x20,
      ((0 : Int) ≤ x18),
      EI .i64 (Int.tmod i 8) x18,
      EI .u8 (List.getD (W.bts r31_0n) (addO 0 (mulE (Int.toNat x12) 1)) 0) x15,
      (addO (0 : Nat) (mulE (Int.toNat x12) (1 : Nat)) + (1 : Nat) ≤ (32 : Nat)),
      ((0 : Int) ≤ x12 ∧ x12 < (32 : Int)),
      EI .i64 (IntKind.wrap IntKind.i64 (Int.tdiv i 8)) x12,
      EB (decide (i ≥ 0)) true])
    mixed (by kernel_rfl) ⟨.mk h32, c31.use (by kernel_rfl) rfl rfl _ _, c29.use (by kernel_rfl) rfl rfl _ _, .mk h26, .mk h24, .mk h22, .mk h19, c21, .mk h17, .mk h14, c16, c13, .mk h11, .mk h10, trivial⟩

theorem run30_out (r31_0n : Int) (r14_2e : W.El) (s i : Int) (a b c d : W.El)
    (h10 : (decide (i ≥ 0)) = false) :
    CodeOk Tryd.prog 65 353 (kAt (kOf Tryd.prog Tryd.f24) [true, true, true, true, true, false, true, false, false]) (L30I r31_0n r14_2e s i a b c d) (.exit 0) (L30J r31_0n r14_2e s a b c d) :=
  CodeOk.of_runs (fuel := 300) (v := ⟨[2, 4, 5, 6, 7, 8], [1, 33, 129, 257, 273], [], 353⟩) (hs := [(1, ⟨.auto, some (.c (.bool (false)))⟩)])
    (cs := [EB (decide (i ≥ 0)) false])
    mixed (by kernel_rfl) ⟨.mk h10, trivial⟩

theorem run30 (k u r31_0n : Int) (r14_2e r28_4e r24_6e r28_8e : W.El) (s : Int) (a b c d r39_11e r39_11g r39_11h r39_11j r27_13e r21_15e : W.El) (r16_17n : Int)
    (c1 : PureF Tryd.prog 28 [(.aggi .u8 (Go.Proofs.YtkjbjgkjplmkhaaDoor.W.bts k))] (.aggi .u8 (W.bts r31_0n)))
    (c3 : PureF Tryd.prog 8 [(.aggi .u8 (Go.Proofs.YtkjbjgkjplmkhaaDoor.W.bts u))] (.aggi .u64 (W.el r14_2e)))
    (c5 : PureF Tryd.prog 37 [] (.aggi .u64 (W.el r28_4e)))
    (c7 : PureF Tryd.prog 36 [] (.aggi .u64 (W.el r24_6e)))
    (c9 : PureF Tryd.prog 37 [] (.aggi .u64 (W.el r28_8e)))
    (l10 : CodeOk Tryd.prog 65 353 (kAt (kOf Tryd.prog Tryd.f24) [true, true, true, true, true, false, true, false]) (L30I r31_0n r14_2e 0 254 r28_4e r24_6e r14_2e r28_8e) (.exit 0) (L30J r31_0n r14_2e s a b c d))
    (c12 : PureF Tryd.prog 41 [(.aggi .u64 (W.pt a b)), (.aggi .u64 (W.pt c d)), (.c (.int .u64 s))] (.tup [(.aggi .u64 (W.pt r39_11e r39_11g)), (.aggi .u64 (W.pt r39_11h r39_11j))]))
    (c14 : PureF Tryd.prog 15 [(.aggi .u64 (W.el r39_11g))] (.aggi .u64 (W.el r27_13e)))
    (c16 : PureF Tryd.prog 11 [(.aggi .u64 (W.el r39_11e)), (.aggi .u64 (W.el r27_13e))] (.aggi .u64 (W.el r21_15e)))
    (c18 : PureF Tryd.prog 12 [(.aggi .u64 (W.el r21_15e))] (.aggi .u8 (W.bts r16_17n))) :
    PureF Tryd.prog 24 [(.aggi .u8 (W.bts k)), (.aggi .u8 (W.bts u))] (.aggi .u8 (Go.Proofs.YtkjbjgkjplmkhaaDoor.W.bts r16_17n)) :=
  Contract0.of_frun (fn := Tryd.f24) (c := bodyOf Tryd.f24) (fuel := 300) (k := kOf Tryd.prog Tryd.f24) (outs := []) (hs := [(4, ⟨.call [] (.aggi .u8 (W.bts r31_0n)) [] [], none⟩), (7, ⟨.call [] (.aggi .u64 (W.el r14_2e)) [] [], none⟩), (10, ⟨.call [] (.aggi .u64 (W.el r28_4e)) [] [], none⟩), (11, ⟨.call [] (.aggi .u64 (W.el r24_6e)) [] [], none⟩), (14, ⟨.call [] (.aggi .u64 (W.el r28_8e)) [] [], none⟩), (22, ⟨.sum ⟨[2, 4, 5, 6, 7, 8, 9], [1, 33, 129, 257, 273], [], 353⟩ (.exit 0) (L30J r31_0n r14_2e s a b c d), none⟩), (26, ⟨.call [] (.tup [(.aggi .u64 (W.pt r39_11e r39_11g)), (.aggi .u64 (W.pt r39_11h r39_11j))]) [] [], none⟩), (35, ⟨.call [] (.aggi .u64 (W.el r27_13e)) [] [], none⟩), (36, ⟨.call [] (.aggi .u64 (W.el r21_15e)) [] [], none⟩), (37, ⟨.call [] (.aggi .u8 (W.bts r16_17n)) [] [], none⟩)])
    (cs := [Contract Tryd.prog 12 [(.aggi .u64 (W.el r21_15e))] [] 577 (.aggi .u8 (W.bts r16_17n)) [] [],
      Contract Tryd.prog 11 [(.aggi .u64 (W.el r39_11e)), (.aggi .u64 (W.el r27_13e))] [] 561 (.aggi .u64 (W.el r21_15e)) [] [],
      Contract Tryd.prog 15 [(.aggi .u64 (W.el r39_11g))] [] 545 (.aggi .u64 (W.el r27_13e)) [] [],
      Contract Tryd.prog 41 [(.aggi .u64 (W.pt a b)), (.aggi .u64 (W.pt c d)), (.c (.int .u64 s))] [] 401 (.tup [(.aggi .u64 (W.pt r39_11e r39_11g)), (.aggi .u64 (W.pt r39_11h r39_11j))]) [] [],
      CodeOk Tryd.prog 65 353 (kAt (kOf Tryd.prog Tryd.f24) [true, true, true, true, true, false, true, false]) (L30I r31_0n r14_2e 0 254 r28_4e r24_6e r14_2e r28_8e) (.exit 0) (L30J r31_0n r14_2e s a b c d),
      Contract Tryd.prog 37 [] [] 225 (.aggi .u64 (W.el r28_8e)) [] [],
      Contract Tryd.prog 36 [] [] 177 (.aggi .u64 (W.el r24_6e)) [] [],
      Contract Tryd.prog 37 [] [] 161 (.aggi .u64 (W.el r28_4e)) [] [],
      Contract Tryd.prog 8 [(.aggi .u8 (Go.Proofs.YtkjbjgkjplmkhaaDoor.W.bts u))] [] 113 (.aggi .u64 (W.el r14_2e)) [] [],
      Contract Tryd.prog 28 [(.aggi .u8 (Go.Proofs.YtkjbjgkjplmkhaaDoor.W.bts k))] [] 65 (.aggi .u8 (W.bts r31_0n)) [] []])
    mixed Tryd.func24 (by kernel_rfl) (by kernel_rfl) (by kernel_rfl) rfl (by kernel_rfl) ⟨c18.use (by kernel_rfl) rfl rfl _ _, c16.use (by kernel_rfl) rfl rfl _ _, c14.use (by kernel_rfl) rfl rfl _ _, c12.use (by kernel_rfl) rfl rfl _ _, l10, c9.use (by kernel_rfl) rfl rfl _ _, c7.use (by kernel_rfl) rfl rfl _ _, c5.use (by kernel_rfl) rfl rfl _ _, c3.use (by kernel_rfl) rfl rfl _ _, c1.use (by kernel_rfl) rfl rfl _ _, trivial⟩

theorem run32 (k r30_0n : Int)
    (c1 : PureF Tryd.prog 24 [(.aggi .u8 (Go.Proofs.YtkjbjgkjplmkhaaDoor.W.bts k)), (.aggi .u8 [9, 0, 0, 0, 0, 0, 0, 0, 0, 0, 0, 0, 0, 0, 0, 0, 0, 0, 0, 0, 0, 0, 0, 0, 0, 0, 0, 0, 0, 0, 0, 0])] (.aggi .u8 (W.bts r30_0n))) :
    PureF Tryd.prog 31 [(.aggi .u8 (W.bts k))] (.aggi .u8 (Go.Proofs.YtkjbjgkjplmkhaaDoor.W.bts r30_0n)) :=
  Contract0.of_frun (fn := Tryd.f31) (c := bodyOf Tryd.f31) (fuel := 300) (k := kOf Tryd.prog Tryd.f31) (outs := []) (hs := [(4, ⟨.call [] (.aggi .u8 (W.bts r30_0n)) [] [], none⟩)])
    (cs := [Contract Tryd.prog 24 [(.aggi .u8 (Go.Proofs.YtkjbjgkjplmkhaaDoor.W.bts k)), (.agg [(.int .u8 9), (.int .u8 0), (.int .u8 0), (.int .u8 0), (.int .u8 0), (.int .u8 0), (.int .u8 0), (.int .u8 0), (.int .u8 0), (.int .u8 0), (.int .u8 0), (.int .u8 0), (.int .u8 0), (.int .u8 0), (.int .u8 0), (.int .u8 0), (.int .u8 0), (.int .u8 0), (.int .u8 0), (.int .u8 0), (.int .u8 0), (.int .u8 0), (.int .u8 0), (.int .u8 0), (.int .u8 0), (.int .u8 0), (.int .u8 0), (.int .u8 0), (.int .u8 0), (.int .u8 0), (.int .u8 0), (.int .u8 0)])] [] 65 (.aggi .u8 (W.bts r30_0n)) [] []])
    mixed Tryd.func31 (by kernel_rfl) (by kernel_rfl) (by kernel_rfl) rfl (by kernel_rfl) ⟨c1.use (by kernel_rfl) rfl rfl _ _, trivial⟩

theorem run34a (k u r30_0n : Int)
    (c1 : PureF Tryd.prog 24 [(.aggi .u8 (Go.Proofs.YtkjbjgkjplmkhaaDoor.W.bts k)), (.aggi .u8 (Go.Proofs.YtkjbjgkjplmkhaaDoor.W.bts u))] (.aggi .u8 (W.bts r30_0n)))
    (c2 : Contract0 Tryd.prog 40 [(.c (.sl 1 0 0 32 1)), (.c (.sl 2 0 0 32 1))] [(1, (.one ⟨false, true, (.ints .u8 (Go.Proofs.YtkjbjgkjplmkhaaDoor.W.bts r30_0n))⟩)), (2, (.one ⟨false, true, (.ints .u8 [0, 0, 0, 0, 0, 0, 0, 0, 0, 0, 0, 0, 0, 0, 0, 0, 0, 0, 0, 0, 0, 0, 0, 0, 0, 0, 0, 0, 0, 0, 0, 0])⟩))] 3 (.c (.bool (true))) [] []) :
    PureF Tryd.prog 25 [(.aggi .u8 (W.bts k)), (.aggi .u8 (W.bts u))] (.tup [(.aggi .u8 (Go.Proofs.YtkjbjgkjplmkhaaDoor.W.bts r30_0n)), (.c (.int .i64 10))]) :=
  Contract0.of_frun (fn := Tryd.f25) (c := bodyOf Tryd.f25) (fuel := 300) (k := kOf Tryd.prog Tryd.f25) (outs := []) (hs := [(6, ⟨.call [] (.aggi .u8 (W.bts r30_0n)) [] [], none⟩), (11, ⟨.call [113, 161] (.c (.bool (true))) [] [], none⟩)])
    (cs := [Contract Tryd.prog 40 [(.c (.sl 113 0 0 32 1)), (.c (.sl 161 0 0 32 1))] [(113, (.one ⟨true, true, (.ints .u8 (W.bts r30_0n))⟩)), (161, (.one ⟨true, true, (.ints .u8 [0, 0, 0, 0, 0, 0, 0, 0, 0, 0, 0, 0, 0, 0, 0, 0, 0, 0, 0, 0, 0, 0, 0, 0, 0, 0, 0, 0, 0, 0, 0, 0])⟩))] 177 (.c (.bool (true))) [] [],
      Contract Tryd.prog 24 [(.aggi .u8 (Go.Proofs.YtkjbjgkjplmkhaaDoor.W.bts k)), (.aggi .u8 (Go.Proofs.YtkjbjgkjplmkhaaDoor.W.bts u))] [] 97 (.aggi .u8 (W.bts r30_0n)) [] []])
    mixed Tryd.func25 (by kernel_rfl) (by kernel_rfl) (by kernel_rfl) rfl (by kernel_rfl) ⟨c2.ro [(113, (1, true)), (161, (2, true))] rfl (by kernel_rfl) rfl (by kernel_rfl) rfl rfl _, c1.use (by kernel_rfl) rfl rfl _ _, trivial⟩

theorem run34b (k u r30_0n : Int)
    (c1 : PureF Tryd.prog 24 [(.aggi .u8 (Go.Proofs.YtkjbjgkjplmkhaaDoor.W.bts k)), (.aggi .u8 (Go.Proofs.YtkjbjgkjplmkhaaDoor.W.bts u))] (.aggi .u8 (W.bts r30_0n)))
    (c2 : Contract0 Tryd.prog 40 [(.c (.sl 1 0 0 32 1)), (.c (.sl 2 0 0 32 1))] [(1, (.one ⟨false, true, (.ints .u8 (Go.Proofs.YtkjbjgkjplmkhaaDoor.W.bts r30_0n))⟩)), (2, (.one ⟨false, true, (.ints .u8 [0, 0, 0, 0, 0, 0, 0, 0, 0, 0, 0, 0, 0, 0, 0, 0, 0, 0, 0, 0, 0, 0, 0, 0, 0, 0, 0, 0, 0, 0, 0, 0])⟩))] 3 (.c (.bool (false))) [] []) :
    PureF Tryd.prog 25 [(.aggi .u8 (W.bts k)), (.aggi .u8 (W.bts u))] (.tup [(.aggi .u8 (Go.Proofs.YtkjbjgkjplmkhaaDoor.W.bts r30_0n)), (.c (.int .i64 0))]) :=
  Contract0.of_frun (fn := Tryd.f25) (c := bodyOf Tryd.f25) (fuel := 300) (k := kOf Tryd.prog Tryd.f25) (outs := []) (hs := [(6, ⟨.call [] (.aggi .u8 (W.bts r30_0n)) [] [], none⟩), (11, ⟨.call [113, 161] (.c (.bool (false))) [] [], none⟩)])
    (cs := [Contract Tryd.prog 40 [(.c (.sl 113 0 0 32 1)), (.c (.sl 161 0 0 32 1))] [(113, (.one ⟨true, true, (.ints .u8 (W.bts r30_0n))⟩)), (161, (.one ⟨true, true, (.ints .u8 [0, 0, 0, 0, 0, 0, 0, 0, 0, 0, 0, 0, 0, 0, 0, 0, 0, 0, 0, 0, 0, 0, 0, 0, 0, 0, 0, 0, 0, 0, 0, 0])⟩))] 177 (.c (.bool (false))) [] [],
      Contract Tryd.prog 24 [(.aggi .u8 (Go.Proofs.YtkjbjgkjplmkhaaDoor.W.bts k)), (.aggi .u8 (Go.Proofs.YtkjbjgkjplmkhaaDoor.W.bts u))] [] 97 (.aggi .u8 (W.bts r30_0n)) [] []])
    mixed Tryd.func25 (by kernel_rfl) (by kernel_rfl) (by kernel_rfl) rfl (by kernel_rfl) ⟨c2.ro [(113, (1, true)), (161, (2, true))] rfl (by kernel_rfl) rfl (by kernel_rfl) rfl rfl _, c1.use (by kernel_rfl) rfl rfl _ _, trivial⟩

end Go.Proofs.YtkjbjgkjplmkhaaDoor.Vm

namespace Go.Proofs.YtkjbjgkjplmkhaaDoor.Vm
open Go Go.Proofs Go.Proofs.YtkjbjgkjplmkhaaDoor
theorem btsK_get : ∀ (k i : Nat) (n : Int), i < k → (btsK k n).getD i 0 = n / 256 ^ i % 256
  | 0, i, n, h => by omega
  | k + 1, 0, n, _ => by simp [btsK]
  | k + 1, i + 1, n, h => by
    have := btsK_get k i (n / 256) (by omega)
    rw [btsK, List.getD_cons_succ, this, Int.ediv_ediv_of_nonneg (by decide), Int.pow_succ, Int.mul_comm]
theorem bts_at (n : Int) {i : Nat} (h : i < 32) : (W.bts n).getD i 0 = n / 256 ^ i % 256 := by rw [bts_eq, btsK_get 32 i n h]
theorem off_eq (i : Nat) : addO 0 (mulE i 1) = i := by
  rw [addO_eq]; simp [mulE]
theorem pow0 (i : Nat) : (0 : Int) < 256 ^ i := Int.pow_pos (by decide)
end Go.Proofs.YtkjbjgkjplmkhaaDoor.Vm
