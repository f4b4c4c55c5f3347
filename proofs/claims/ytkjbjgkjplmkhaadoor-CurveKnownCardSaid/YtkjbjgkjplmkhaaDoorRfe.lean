/- What functions of the program come to: parts of the walk (Rfe). -/
import Derived.Test.YtkjbjgkjplmkhaaDoorRfd
import Derived.KernelRfl
import Derived.Test.YtkjbjgkjplmkhaaDoorProg
set_option linter.unusedSimpArgs false
set_option linter.unusedVariables false
namespace Go.Proofs.YtkjbjgkjplmkhaaDoor.Vm
open Go Go.Proofs Go.Proofs.YtkjbjgkjplmkhaaDoor
set_option maxRecDepth 100000
theorem rinv (x : Fp) :
    Contract0 Tryd.prog 16 [(.aggi .u64 (W.fd x))] [(0, (.one ⟨false, false, (.ints .u64 (W.pr))⟩))] 2 (.aggi .u64 (W.fd (finv x))) [] [] :=
  Contract0.told (res := (.aggi .u64 (W.fd (finv x)))) (up := []) (res' := (.aggi .u64 (W.fd (finv x)))) (up' := []) (by rfl) (by rfl) (Contract0.of_frun (res := (.aggi .u64 (W.fd (finv x)))) (up := []) (kill := []) (n0 := 2) (m := [(0, (.one ⟨false, false, (.ints .u64 (W.pr))⟩))]) (args := [(.aggi .u64 (W.fd x))]) (fn := Tryd.f16) (c := bodyOf Tryd.f16) (fuel := 300) (k := kOf Tryd.prog Tryd.f16) (outs := []) (hs := [(6, ⟨.sum ⟨[1, 2, 3, 4], [0, 2, 18, 50], [], 98⟩ (.exit 0) (LRI x (-1) (finv x)), none⟩)])
    (cs := [CodeOk Tryd.prog 23 98 (kAt (kOf Tryd.prog Tryd.f16) [true, true, false, true, false]) (LR0 x) (.exit 0) (LRI x (-1) (finv x))])
    mixed Tryd.func16 (by kernel_rfl) (by kernel_rfl) (by kernel_rfl) (by kernel_rfl) (by kernel_rfl) ⟨(rinvl x), trivial⟩)


theorem rclamp (k : Int) :
    PureF Tryd.prog 29 [(.aggi .u8 (W.bts k))] (.aggi .u8 [(Int.tdiv (List.getD (W.bts k) 0 0) 8 % 256 * 8 % 256), (k / 256 % 256), (k / 65536 % 256), (k / 16777216 % 256), (k / 4294967296 % 256), (k / 1099511627776 % 256), (k / 281474976710656 % 256), (k / 72057594037927936 % 256), (k / 18446744073709551616 % 256), (k / 4722366482869645213696 % 256), (k / 1208925819614629174706176 % 256), (k / 309485009821345068724781056 % 256), (k / 79228162514264337593543950336 % 256), (k / 20282409603651670423947251286016 % 256), (k / 5192296858534827628530496329220096 % 256), (k / 1329227995784915872903807060280344576 % 256), (k / 340282366920938463463374607431768211456 % 256), (k / 87112285931760246646623899502532662132736 % 256), (k / 22300745198530623141535718272648361505980416 % 256), (k / 5708990770823839524233143877797980545530986496 % 256), (k / 1461501637330902918203684832716283019655932542976 % 256), (k / 374144419156711147060143317175368453031918731001856 % 256), (k / 95780971304118053647396689196894323976171195136475136 % 256), (k / 24519928653854221733733552434404946937899825954937634816 % 256), (k / 6277101735386680763835789423207666416102355444464034512896 % 256), (k / 1606938044258990275541962092341162602522202993782792835301376 % 256), (k / 411376139330301510538742295639337626245683966408394965837152256 % 256), (k / 105312291668557186697918027683670432318895095400549111254310977536 % 256), (k / 26959946667150639794667015087019630673637144422540572481103610249216 % 256), (k / 6901746346790563787434755862277025452451108972170386555162524223799296 % 256), (k / 1766847064778384329583297500742918515827483896875618958121606201292619776 % 256), ((Int.tmod (k / 452312848583266388373324160190187140051835877600158453279131187530910662656 % 256) 64 + 64) % 256)]) :=
  Contract0.of_frun (res := (.aggi .u8 [(Int.tdiv (List.getD (W.bts k) 0 0) 8 % 256 * 8 % 256), (k / 256 % 256), (k / 65536 % 256), (k / 16777216 % 256), (k / 4294967296 % 256), (k / 1099511627776 % 256), (k / 281474976710656 % 256), (k / 72057594037927936 % 256), (k / 18446744073709551616 % 256), (k / 4722366482869645213696 % 256), (k / 1208925819614629174706176 % 256), (k / 309485009821345068724781056 % 256), (k / 79228162514264337593543950336 % 256), (k / 20282409603651670423947251286016 % 256), (k / 5192296858534827628530496329220096 % 256), (k / 1329227995784915872903807060280344576 % 256), (k / 340282366920938463463374607431768211456 % 256), (k / 87112285931760246646623899502532662132736 % 256), (k / 22300745198530623141535718272648361505980416 % 256), (k / 5708990770823839524233143877797980545530986496 % 256), (k / 1461501637330902918203684832716283019655932542976 % 256), (k / 374144419156711147060143317175368453031918731001856 % 256), (k / 95780971304118053647396689196894323976171195136475136 % 256), (k / 24519928653854221733733552434404946937899825954937634816 % 256), (k / 6277101735386680763835789423207666416102355444464034512896 % 256), (k / 1606938044258990275541962092341162602522202993782792835301376 % 256), (k / 411376139330301510538742295639337626245683966408394965837152256 % 256), (k / 105312291668557186697918027683670432318895095400549111254310977536 % 256), (k / 26959946667150639794667015087019630673637144422540572481103610249216 % 256), (k / 6901746346790563787434755862277025452451108972170386555162524223799296 % 256), (k / 1766847064778384329583297500742918515827483896875618958121606201292619776 % 256), ((Int.tmod (k / 452312848583266388373324160190187140051835877600158453279131187530910662656 % 256) 64 + 64) % 256)])) (up := []) (kill := []) (n0 := 1) (m := []) (args := [(.aggi .u8 (W.bts k))]) (fn := Tryd.f29) (c := bodyOf Tryd.f29) (fuel := 300) (k := kOf Tryd.prog Tryd.f29) (outs := []) (hs := [])
    (cs := [])
    mixed Tryd.func29 (by kernel_rfl) (by kernel_rfl) (by kernel_rfl) (by kernel_rfl) (by kernel_rfl) trivial


end Go.Proofs.YtkjbjgkjplmkhaaDoor.Vm

namespace Go.Proofs.YtkjbjgkjplmkhaaDoor.Vm
open Go Go.Proofs Go.Proofs.YtkjbjgkjplmkhaaDoor
theorem rclamp_ok (k : Int) : PureF Tryd.prog 29 [(.aggi .u8 (W.bts k))] (.aggi .u8 (W.bts (clampN k))) := by
  have r := rclamp k
  have h0 : List.getD (W.bts k) 0 0 = k % 256 := rfl
  rw [h0, Int.tdiv_eq_ediv_of_nonneg (by omega), Int.tmod_eq_emod_of_nonneg (by omega)] at r
  have e : W.bts (clampN k) = [((k % 256) / 8 % 256 * 8 % 256), (k / 256 % 256), (k / 65536 % 256), (k / 16777216 % 256), (k / 4294967296 % 256), (k / 1099511627776 % 256), (k / 281474976710656 % 256), (k / 72057594037927936 % 256), (k / 18446744073709551616 % 256), (k / 4722366482869645213696 % 256), (k / 1208925819614629174706176 % 256), (k / 309485009821345068724781056 % 256), (k / 79228162514264337593543950336 % 256), (k / 20282409603651670423947251286016 % 256), (k / 5192296858534827628530496329220096 % 256), (k / 1329227995784915872903807060280344576 % 256), (k / 340282366920938463463374607431768211456 % 256), (k / 87112285931760246646623899502532662132736 % 256), (k / 22300745198530623141535718272648361505980416 % 256), (k / 5708990770823839524233143877797980545530986496 % 256), (k / 1461501637330902918203684832716283019655932542976 % 256), (k / 374144419156711147060143317175368453031918731001856 % 256), (k / 95780971304118053647396689196894323976171195136475136 % 256), (k / 24519928653854221733733552434404946937899825954937634816 % 256), (k / 6277101735386680763835789423207666416102355444464034512896 % 256), (k / 1606938044258990275541962092341162602522202993782792835301376 % 256), (k / 411376139330301510538742295639337626245683966408394965837152256 % 256), (k / 105312291668557186697918027683670432318895095400549111254310977536 % 256), (k / 26959946667150639794667015087019630673637144422540572481103610249216 % 256), (k / 6901746346790563787434755862277025452451108972170386555162524223799296 % 256), (k / 1766847064778384329583297500742918515827483896875618958121606201292619776 % 256), (((k / 452312848583266388373324160190187140051835877600158453279131187530910662656 % 256) % 64 + 64) % 256)] := by
    unfold W.bts clampN
    simp only [List.cons.injEq, and_true]
    refine ⟨?_, ?_, ?_, ?_, ?_, ?_, ?_, ?_, ?_, ?_, ?_, ?_, ?_, ?_, ?_, ?_, ?_, ?_, ?_, ?_, ?_, ?_, ?_, ?_, ?_, ?_, ?_, ?_, ?_, ?_, ?_, ?_⟩ <;> omega
  rw [e]
  exact r
end Go.Proofs.YtkjbjgkjplmkhaaDoor.Vm

namespace Go.Proofs.YtkjbjgkjplmkhaaDoor.Vm
open Go Go.Proofs Go.Proofs.YtkjbjgkjplmkhaaDoor
set_option maxRecDepth 100000
theorem rx (k u : Int) :
    Contract0 Tryd.prog 27 [(.aggi .u8 (W.bts k)), (.aggi .u8 (W.bts u))] [(0, (.one ⟨false, false, (.ints .u64 (W.pr))⟩))] 2 (.aggi .u8 (W.bts (W.vl (W.la k u * finv (W.lb k u))))) [] [] :=
  Contract0.told (res := (.aggi .u8 (W.bts (W.vl (W.la k u * finv (W.lb k u)))))) (up := []) (res' := (.aggi .u8 (W.bts (W.vl (W.la k u * finv (W.lb k u)))))) (up' := []) (by rfl) (by rfl) (Contract0.of_frun (res := (.aggi .u8 (W.bts (W.vl (W.la k u * finv (W.lb k u)))))) (up := []) (kill := []) (n0 := 2) (m := [(0, (.one ⟨false, false, (.ints .u64 (W.pr))⟩))]) (args := [(.aggi .u8 (W.bts k)), (.aggi .u8 (W.bts u))]) (fn := Tryd.f27) (c := bodyOf Tryd.f27) (fuel := 300) (k := kOf Tryd.prog Tryd.f27) (outs := []) (hs := [(4, ⟨.call [] (.aggi .u8 (W.bts (k % 28948022309329048855892746252171976963317496166410141009864396001978282409984 - k % 8 + 28948022309329048855892746252171976963317496166410141009864396001978282409984))) [] [], none⟩), (7, ⟨.call [0] (.aggi .u64 (W.fd (toF (u % 57896044618658097711785492504343953926634992332820282019728792003956564819968)))) [] [], none⟩), (23, ⟨.sum ⟨[2, 4, 5, 6, 7, 8, 9, 10], [0, 2, 34, 130, 178, 226, 274, 322], [], 370⟩ (.exit 0) (LXI (-1) (W.bts (clampN k)) (toF (u % 57896044618658097711785492504343953926634992332820282019728792003956564819968)) (W.la k u) (W.lb k u) (W.lc k u) (W.ld k u)), none⟩), (26, ⟨.call [0] (.aggi .u64 (W.fd (finv (W.lb k u)))) [] [], none⟩), (27, ⟨.call [0] (.aggi .u64 (W.fd (W.la k u * finv (W.lb k u)))) [] [], none⟩), (28, ⟨.call [] (.aggi .u8 (W.bts (W.vl (W.la k u * finv (W.lb k u))))) [] [], none⟩)])
    (cs := [Contract Tryd.prog 13 [(.aggi .u64 (W.fd (W.la k u * finv (W.lb k u))))] [] 434 (.aggi .u8 (W.bts (W.vl (W.la k u * finv (W.lb k u))))) [] [],
      Contract Tryd.prog 14 [(.aggi .u64 (W.fd (W.la k u))), (.aggi .u64 (W.fd (finv (W.lb k u))))] [(0, (.one ⟨false, false, (.ints .u64 (W.pr))⟩))] 418 (.aggi .u64 (W.fd (W.la k u * finv (W.lb k u)))) [] [],
      Contract Tryd.prog 16 [(.aggi .u64 (W.fd (W.lb k u)))] [(0, (.one ⟨false, false, (.ints .u64 (W.pr))⟩))] 402 (.aggi .u64 (W.fd (finv (W.lb k u)))) [] [],
      CodeOk Tryd.prog 108 370 (kAt (kOf Tryd.prog Tryd.f27) [true, true, true, true, true, true, true, false, true, false]) (LX0 k u) (.exit 0) (LXI (-1) (W.bts (clampN k)) (toF (u % 57896044618658097711785492504343953926634992332820282019728792003956564819968)) (W.la k u) (W.lb k u) (W.lc k u) (W.ld k u)),
      Contract Tryd.prog 9 [(.aggi .u8 (W.bts u))] [(0, (.one ⟨false, false, (.ints .u64 (W.pr))⟩))] 114 (.aggi .u64 (W.fd (toF (u % 57896044618658097711785492504343953926634992332820282019728792003956564819968)))) [] [],
      Contract Tryd.prog 29 [(.aggi .u8 (W.bts k))] [] 66 (.aggi .u8 (W.bts (k % 28948022309329048855892746252171976963317496166410141009864396001978282409984 - k % 8 + 28948022309329048855892746252171976963317496166410141009864396001978282409984))) [] []])
    mixed Tryd.func27 (by kernel_rfl) (by kernel_rfl) (by kernel_rfl) (by kernel_rfl) (by kernel_rfl) ⟨Contract0.inst (rbytes (W.la k u * finv (W.lb k u))) [] [none] [] [] (by kernel_rfl) (by kernel_rfl) (by kernel_rfl) (by kernel_rfl) (by kernel_rfl), Contract0.glob (rmul (W.la k u) (finv (W.lb k u))) pr_glob (by kernel_rfl) (by kernel_rfl) (by kernel_rfl) (by kernel_rfl) 418, Contract0.glob (rinv (W.lb k u)) pr_glob (by kernel_rfl) (by kernel_rfl) (by kernel_rfl) (by kernel_rfl) 402, (rxl k u), Contract0.glob (rfrom u) pr_glob (by kernel_rfl) (by kernel_rfl) (by kernel_rfl) (by kernel_rfl) 114, Contract0.inst (rclamp_ok k) [] [none] [] [] (by kernel_rfl) (by kernel_rfl) (by kernel_rfl) (by kernel_rfl) (by kernel_rfl), trivial⟩)


end Go.Proofs.YtkjbjgkjplmkhaaDoor.Vm

namespace Go.Proofs.YtkjbjgkjplmkhaaDoor.W
open Go.Proofs.YtkjbjgkjplmkhaaDoor.Vm
theorem xs_ex (k u : Int) : ∃ y : Int, y = xF (clampN k) (toF (u % 57896044618658097711785492504343953926634992332820282019728792003956564819968)) := ⟨_, rfl⟩
/-- What X comes to; sealed. -/
noncomputable def xs (k u : Int) : Int := Classical.choose (xs_ex k u)
theorem xs_eq (k u : Int) : xs k u = xF (clampN k) (toF (u % 57896044618658097711785492504343953926634992332820282019728792003956564819968)) := Classical.choose_spec (xs_ex k u)
end Go.Proofs.YtkjbjgkjplmkhaaDoor.W
namespace Go.Proofs.YtkjbjgkjplmkhaaDoor.Vm
open Go Go.Proofs Go.Proofs.YtkjbjgkjplmkhaaDoor
theorem rx_ok (k u : Int) : Contract0 Tryd.prog 27 [(.aggi .u8 (W.bts k)), (.aggi .u8 (W.bts u))] [(0, (.one ⟨false, false, (.ints .u64 (W.pr))⟩))] 2 (.aggi .u8 (W.bts (W.xs k u))) [] [] := by
  have r := rx k u
  have e : W.vl (W.la k u * finv (W.lb k u)) = W.xs k u := by rw [W.vl_eq, W.la_eq, W.lb_eq, W.xs_eq]; rfl
  rw [e] at r
  exact r
end Go.Proofs.YtkjbjgkjplmkhaaDoor.Vm
