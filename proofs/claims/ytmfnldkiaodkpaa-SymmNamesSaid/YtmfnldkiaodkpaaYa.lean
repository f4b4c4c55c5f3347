/- What functions of the program come to: parts of the walk (Ya). -/
import Derived.Test.YtmfnldkiaodkpaaCc
import Derived.Test.YtmfnldkiaodkpaaSd
import Derived.Test.YtmfnldkiaodkpaaVmc
import Derived.KernelRfl
import Derived.Test.YtmfnldkiaodkpaaProg
set_option linter.unusedSimpArgs false
set_option linter.unusedVariables false
namespace Go.Proofs.Ytmfnldkiaodkpaa.Vm
open Go Go.Proofs Go.Proofs.Ytmfnldkiaodkpaa
theorem chasK (h : Bool) (n K : Int)  : Contract0 Try.prog 70 [(.c (.ptr 1 0 0))] [(1, (.one ⟨false, false, .cells ((W.bts K).map (C.int .u8) ++ [.bool h, .int .u64 n])⟩))] 2 (.c (.bool h)) [] [] := chas h n (K % 256) (K / 256 % 256) (K / 65536 % 256) (K / 16777216 % 256) (K / 4294967296 % 256) (K / 1099511627776 % 256) (K / 281474976710656 % 256) (K / 72057594037927936 % 256) (K / 18446744073709551616 % 256) (K / 4722366482869645213696 % 256) (K / 1208925819614629174706176 % 256) (K / 309485009821345068724781056 % 256) (K / 79228162514264337593543950336 % 256) (K / 20282409603651670423947251286016 % 256) (K / 5192296858534827628530496329220096 % 256) (K / 1329227995784915872903807060280344576 % 256) (K / 340282366920938463463374607431768211456 % 256) (K / 87112285931760246646623899502532662132736 % 256) (K / 22300745198530623141535718272648361505980416 % 256) (K / 5708990770823839524233143877797980545530986496 % 256) (K / 1461501637330902918203684832716283019655932542976 % 256) (K / 374144419156711147060143317175368453031918731001856 % 256) (K / 95780971304118053647396689196894323976171195136475136 % 256) (K / 24519928653854221733733552434404946937899825954937634816 % 256) (K / 6277101735386680763835789423207666416102355444464034512896 % 256) (K / 1606938044258990275541962092341162602522202993782792835301376 % 256) (K / 411376139330301510538742295639337626245683966408394965837152256 % 256) (K / 105312291668557186697918027683670432318895095400549111254310977536 % 256) (K / 26959946667150639794667015087019630673637144422540572481103610249216 % 256) (K / 6901746346790563787434755862277025452451108972170386555162524223799296 % 256) (K / 1766847064778384329583297500742918515827483896875618958121606201292619776 % 256) (K / 452312848583266388373324160190187140051835877600158453279131187530910662656 % 256)
end Go.Proofs.Ytmfnldkiaodkpaa.Vm

namespace Go.Proofs.Ytmfnldkiaodkpaa.Vm
open Go Go.Proofs Go.Proofs.Ytmfnldkiaodkpaa
set_option maxRecDepth 100000
theorem yhash (X H K n : Int) (h : Bool) :
    Contract0 Try.prog 23 [(.c (.ptr 1 0 0))] [(1, (.one ⟨false, false, (.cells ([(.ptr 2 0 0)] ++ ((W.bts X).map (C.int .u8)) ++ ((W.bts H).map (C.int .u8))))⟩)), (2, (.one ⟨false, false, (.cells ((W.bts K).map (C.int .u8) ++ [(.bool h), (.int .u64 n)]))⟩))] 3 (.aggi .u8 (W.bts H)) [] [] :=
  Contract0.of_frun (res := (.aggi .u8 (W.bts H))) (up := []) (kill := []) (n0 := 3) (m := [(1, (.one ⟨false, false, (.cells ([(.ptr 2 0 0)] ++ ((W.bts X).map (C.int .u8)) ++ ((W.bts H).map (C.int .u8))))⟩)), (2, (.one ⟨false, false, (.cells ((W.bts K).map (C.int .u8) ++ [(.bool h), (.int .u64 n)]))⟩))]) (args := [(.c (.ptr 1 0 0))]) (fn := Try.f23) (c := bodyOf Try.f23) (fuel := 300) (k := kOf Try.prog Try.f23) (outs := []) (hs := [])
    (cs := [])
    mixed Try.func23 (by kernel_rfl) (by kernel_rfl) (by kernel_rfl) (by kernel_rfl) (by kernel_rfl) trivial


theorem ychain (X H K n : Int) (h : Bool) :
    Contract0 Try.prog 24 [(.c (.ptr 1 0 0))] [(1, (.one ⟨false, false, (.cells ([(.ptr 2 0 0)] ++ ((W.bts X).map (C.int .u8)) ++ ((W.bts H).map (C.int .u8))))⟩)), (2, (.one ⟨false, false, (.cells ((W.bts K).map (C.int .u8) ++ [(.bool h), (.int .u64 n)]))⟩))] 3 (.aggi .u8 (W.bts X)) [] [] :=
  Contract0.of_frun (res := (.aggi .u8 (W.bts X))) (up := []) (kill := []) (n0 := 3) (m := [(1, (.one ⟨false, false, (.cells ([(.ptr 2 0 0)] ++ ((W.bts X).map (C.int .u8)) ++ ((W.bts H).map (C.int .u8))))⟩)), (2, (.one ⟨false, false, (.cells ((W.bts K).map (C.int .u8) ++ [(.bool h), (.int .u64 n)]))⟩))]) (args := [(.c (.ptr 1 0 0))]) (fn := Try.f24) (c := bodyOf Try.f24) (fuel := 300) (k := kOf Try.prog Try.f24) (outs := []) (hs := [])
    (cs := [])
    mixed Try.func24 (by kernel_rfl) (by kernel_rfl) (by kernel_rfl) (by kernel_rfl) (by kernel_rfl) trivial


theorem yhas (X H K n : Int) (h : Bool) :
    Contract0 Try.prog 26 [(.c (.ptr 1 0 0))] [(1, (.one ⟨false, false, (.cells ([(.ptr 2 0 0)] ++ ((W.bts X).map (C.int .u8)) ++ ((W.bts H).map (C.int .u8))))⟩)), (2, (.one ⟨false, false, (.cells ((W.bts K).map (C.int .u8) ++ [(.bool h), (.int .u64 n)]))⟩))] 3 (.c (.bool h)) [] [] :=
  Contract0.of_frun (res := (.c (.bool h))) (up := []) (kill := []) (n0 := 3) (m := [(1, (.one ⟨false, false, (.cells ([(.ptr 2 0 0)] ++ ((W.bts X).map (C.int .u8)) ++ ((W.bts H).map (C.int .u8))))⟩)), (2, (.one ⟨false, false, (.cells ((W.bts K).map (C.int .u8) ++ [(.bool h), (.int .u64 n)]))⟩))]) (args := [(.c (.ptr 1 0 0))]) (fn := Try.f26) (c := bodyOf Try.f26) (fuel := 300) (k := kOf Try.prog Try.f26) (outs := []) (hs := [(5, ⟨.call [2] (.c (.bool h)) [] [], none⟩)])
    (cs := [Contract Try.prog 70 [(.c (.ptr 2 0 0))] [(2, (.one ⟨false, false, (.cells ((W.bts K).map (C.int .u8) ++ [(.bool h), (.int .u64 n)]))⟩))] 83 (.c (.bool h)) [] []])
    mixed Try.func26 (by kernel_rfl) (by kernel_rfl) (by kernel_rfl) (by kernel_rfl) (by kernel_rfl) ⟨Contract0.inst (chasK h n K) [.b 2 1 true []] [none] [] [] (by kernel_rfl) (by kernel_rfl) (by kernel_rfl) (by kernel_rfl) (by kernel_rfl), trivial⟩


theorem ymix (ex : Bool) (X H K n : Int) (h : Bool) (l : List Int) (o q : Nat)
    (hl : o + q ≤ l.length)
    (hs : q ≤ 1073741824) :
    Contract0 Try.prog 25 [(.c (.ptr 1 0 0)), (.c (.sl 3 0 o q 1))] [(1, (.one ⟨true, ex, (.cells ([(.ptr 2 0 0)] ++ ((W.bts X).map (C.int .u8)) ++ ((W.bts H).map (C.int .u8))))⟩)), (2, (.one ⟨true, ex, (.cells ((W.bts K).map (C.int .u8) ++ [(.bool h), (.int .u64 n)]))⟩)), (3, (.one ⟨false, false, (.ints .u8 l)⟩))] 4 (.tup []) [] [(1, (.one ⟨true, ex, (.cells ([(.ptr 2 0 0)] ++ ((W.bts X).map (C.int .u8)) ++ ((W.bts (W.bsum (List.take 32 (W.bts H) ++ List.take q (List.drop o l)))).map (C.int .u8))))⟩)), (2, (.one ⟨true, ex, (.cells ((W.bts K).map (C.int .u8) ++ [(.bool h), (.int .u64 n)]))⟩))] :=
  Contract0.renum (Contract0.of_frun (res := (.tup [])) (up := [(1, (.one ⟨true, ex, (.cells ([(.ptr 2 0 0)] ++ ((W.bts X).map (C.int .u8)) ++ ((W.bts (W.bsum (List.take 32 (W.bts H) ++ List.take q (List.drop o l)))).map (C.int .u8))))⟩)), (2, (.one ⟨true, ex, (.cells ((W.bts K).map (C.int .u8) ++ [(.bool h), (.int .u64 n)]))⟩))]) (kill := []) (n0 := 4) (m := [(1, (.one ⟨true, ex, (.cells ([(.ptr 2 0 0)] ++ ((W.bts X).map (C.int .u8)) ++ ((W.bts H).map (C.int .u8))))⟩)), (2, (.one ⟨true, ex, (.cells ((W.bts K).map (C.int .u8) ++ [(.bool h), (.int .u64 n)]))⟩)), (3, (.one ⟨false, false, (.ints .u8 l)⟩))]) (args := [(.c (.ptr 1 0 0)), (.c (.sl 3 0 o q 1))]) (fn := Try.f25) (c := bodyOf Try.f25) (fuel := 300) (k := kOf Try.prog Try.f25) (outs := [1, 2]) (hs := [(7, ⟨.call [100, 1, 3, 2] (.aggi .u8 (W.bts (W.bsum (List.take 32 (W.bts H) ++ List.take q (List.drop o l))))) [] [], none⟩)])
    (cs := [Contract Try.prog 22 [(.c (.sl 100 0 0 2 1))] [(100, (.one ⟨true, true, (.cells [(.sl 1 0 33 32 1), (.sl 3 0 o q 1)])⟩)), (1, (.one ⟨true, ex, (.cells ([(.ptr 2 0 0)] ++ ((W.bts X).map (C.int .u8)) ++ ((W.bts H).map (C.int .u8))))⟩)), (3, (.one ⟨false, false, (.ints .u8 l)⟩)), (2, (.one ⟨true, ex, (.cells ((W.bts K).map (C.int .u8) ++ [(.bool h), (.int .u64 n)]))⟩))] 116 (.aggi .u8 (W.bts (W.bsum (List.take 32 (W.bts H) ++ List.take q (List.drop o l))))) [] []])
    mixed Try.func25 (by kernel_rfl) (by kernel_rfl) (by kernel_rfl) (by kernel_rfl) (by kernel_rfl) ⟨ContractN.fin (ContractN.part (m1 := [(100, (.one ⟨true, true, (.cells [(.sl 131 0 0 32 1), (.sl 3 0 o q 1)])⟩)), (3, (.one ⟨false, false, (.ints .u8 l)⟩)), (2, (.one ⟨true, ex, (.cells ((W.bts K).map (C.int .u8) ++ [(.bool h), (.int .u64 n)]))⟩))]) (k := .u8) (l := (W.bts H)) (args1 := [(.c (.sl 100 0 0 2 1))]) (own := true) (ex := ex) (L := ([(.ptr 2 0 0)] ++ ((W.bts X).map (C.int .u8)) ++ ((W.bts H).map (C.int .u8)))) 131 1 33 (Contract0.instN (sum2 (W.bts H) l 0 32 o q (by simp only [and_true, List.length_set, List.length_append, List.length_replicate, List.length_take, List.length_drop, List.length_map, List.length_cons, List.length_nil, List.length_zipWith, splice_len1, W.le_len, W.bts_len, Int.toNat_natCast, addO_eq, mulE_eq, mulE_one, W.once_len, W.block_len, W.p8_len, W.apply_len, W.boxTag_len, W.box_len, W.nonce_len, W.hand_len, W.tag_len]; omega) (by omega) (by omega)) [.b 100 1 true [], .b 131 2 true [], .b 3 3 true []] [none] [] [] (by kernel_rfl) (by kernel_rfl) (by kernel_rfl) (by kernel_rfl) (by kernel_rfl)) (by kernel_rfl) (by kernel_rfl) (by kernel_rfl) (by kernel_rfl) (by kernel_rfl) (by kernel_rfl) (by kernel_rfl) (by kernel_rfl)) (by kernel_rfl), trivial⟩) [.b 1 1 false, .b 2 2 false, .b 3 3 true] [] [] [] (by kernel_rfl) (by kernel_rfl) (by kernel_rfl) (by kernel_rfl) (by kernel_rfl)


end Go.Proofs.Ytmfnldkiaodkpaa.Vm

namespace Go.Proofs.Ytmfnldkiaodkpaa.W
open Go Go.Proofs.Ytmfnldkiaodkpaa.Vm
/-- A hash into which bytes were mixed. -/
noncomputable def mx (H : Int) (t : List Int) : Int := bsum (List.take 32 (bts H) ++ t)
end Go.Proofs.Ytmfnldkiaodkpaa.W
namespace Go.Proofs.Ytmfnldkiaodkpaa.Vm
open Go Go.Proofs Go.Proofs.Ytmfnldkiaodkpaa
theorem ymix_ok (ex : Bool) (X H : Int) (K n : Int) (h : Bool) (l : List Int) (o q : Nat) (h0_ : o + q ≤ l.length) (h1_ : q ≤ 1073741824) : Contract0 Try.prog 25 [(.c (.ptr 1 0 0)), (.c (.sl 3 0 o q 1))] [(1, (.one ⟨true, ex, .cells ([.ptr 2 0 0] ++ (W.bts X).map (C.int .u8) ++ (W.bts H).map (C.int .u8))⟩)), (2, (.one ⟨true, ex, .cells ((W.bts K).map (C.int .u8) ++ [.bool h, .int .u64 n])⟩)), (3, (.one ⟨false, false, (.ints .u8 l)⟩))] 4 (.tup []) [] [(1, (.one ⟨true, ex, .cells ([.ptr 2 0 0] ++ (W.bts X).map (C.int .u8) ++ (W.bts (W.mx H (List.take q (List.drop o l)))).map (C.int .u8))⟩)), (2, (.one ⟨true, ex, .cells ((W.bts K).map (C.int .u8) ++ [.bool h, .int .u64 n])⟩))] := ymix ex X H K n h l o q h0_ h1_
end Go.Proofs.Ytmfnldkiaodkpaa.Vm
