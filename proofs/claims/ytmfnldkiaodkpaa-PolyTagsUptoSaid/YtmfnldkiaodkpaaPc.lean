/- What functions of the program come to: parts of the walk (Pc). -/
import Derived.Test.YtmfnldkiaodkpaaPw
import Derived.KernelRfl
import Derived.Test.YtmfnldkiaodkpaaProg
set_option linter.unusedSimpArgs false
set_option linter.unusedVariables false
namespace Go.Proofs.Ytmfnldkiaodkpaa.Vm
open Go Go.Proofs Go.Proofs.Ytmfnldkiaodkpaa
set_option maxRecDepth 100000
theorem run48a   :
    Contract0 Try.prog 56 [(.c (.str ({ data := { toList := [97, 56, 48, 54, 49, 100, 99, 49, 51, 48, 53, 49, 51, 54, 99, 54, 99, 50, 50, 98, 56, 98, 97, 102, 48, 99, 48, 49, 50, 55, 97, 57] } })))] [] 1 (.c (.sl 15777 0 0 16 1)) [] [(15777, (.one ⟨true, false, (.ints .u8 [168, 6, 29, 193, 48, 81, 54, 198, 194, 43, 139, 175, 12, 1, 39, 169])⟩))] :=
  Contract0.norm_up (up := [(15777, (.one ⟨true, false, (.cells [(.int .u8 168), (.int .u8 6), (.int .u8 29), (.int .u8 193), (.int .u8 48), (.int .u8 81), (.int .u8 54), (.int .u8 198), (.int .u8 194), (.int .u8 43), (.int .u8 139), (.int .u8 175), (.int .u8 12), (.int .u8 1), (.int .u8 39), (.int .u8 169)])⟩))]) (Contract0.of_frun (fn := Try.f56) (c := bodyOf Try.f56) (fuel := 2000) (k := kOf Try.prog Try.f56) (outs := [15777]) (hs := [])
    (cs := [])
    mixed Try.func56 (by kernel_rfl) (by kernel_rfl) (by kernel_rfl) rfl (by kernel_rfl) trivial) (by kernel_rfl)

theorem run48b   :
    Contract0 Try.prog 56 [(.c (.str ({ data := { toList := [56, 53, 100, 54, 98, 101, 55, 56, 53, 55, 53, 53, 54, 100, 51, 51, 55, 102, 52, 52, 53, 50, 102, 101, 52, 50, 100, 53, 48, 54, 97, 56, 48, 49, 48, 51, 56, 48, 56, 97, 102, 98, 48, 100, 98, 50, 102, 100, 52, 97, 98, 102, 102, 54, 97, 102, 52, 49, 52, 57, 102, 53, 49, 98] } })))] [] 1 (.c (.sl 31713 0 0 32 1)) [] [(31713, (.one ⟨true, false, (.ints .u8 [133, 214, 190, 120, 87, 85, 109, 51, 127, 68, 82, 254, 66, 213, 6, 168, 1, 3, 128, 138, 251, 13, 178, 253, 74, 191, 246, 175, 65, 73, 245, 27])⟩))] :=
  Contract0.norm_up (up := [(31713, (.one ⟨true, false, (.cells [(.int .u8 133), (.int .u8 214), (.int .u8 190), (.int .u8 120), (.int .u8 87), (.int .u8 85), (.int .u8 109), (.int .u8 51), (.int .u8 127), (.int .u8 68), (.int .u8 82), (.int .u8 254), (.int .u8 66), (.int .u8 213), (.int .u8 6), (.int .u8 168), (.int .u8 1), (.int .u8 3), (.int .u8 128), (.int .u8 138), (.int .u8 251), (.int .u8 13), (.int .u8 178), (.int .u8 253), (.int .u8 74), (.int .u8 191), (.int .u8 246), (.int .u8 175), (.int .u8 65), (.int .u8 73), (.int .u8 245), (.int .u8 27)])⟩))]) (Contract0.of_frun (fn := Try.f56) (c := bodyOf Try.f56) (fuel := 2000) (k := kOf Try.prog Try.f56) (outs := [31713]) (hs := [])
    (cs := [])
    mixed Try.func56 (by kernel_rfl) (by kernel_rfl) (by kernel_rfl) rfl (by kernel_rfl) trivial) (by kernel_rfl)

theorem run63a   :
    Contract0 Try.prog 83 [(.c (.int .u64 1152921487695413247)), (.c (.int .i64 8))] [] 1 (.c (.sl 33 0 0 8 1)) [] [(33, (.one ⟨true, true, (.ints .u8 [255, 255, 255, 15, 252, 255, 255, 15])⟩))] :=
  Contract0.norm_up (up := [(33, (.one ⟨true, true, (.ints .u8 [255, 255, 255, 15, 252, 255, 255, 15])⟩))]) (Contract0.of_frun (fn := Try.f83) (c := bodyOf Try.f83) (fuel := 300) (k := kOf Try.prog Try.f83) (outs := [33]) (hs := [])
    (cs := [])
    mixed Try.func83 (by kernel_rfl) (by kernel_rfl) (by kernel_rfl) rfl (by kernel_rfl) trivial) (by kernel_rfl)

theorem run63b   :
    Contract0 Try.prog 83 [(.c (.int .u64 1152921487695413244)), (.c (.int .i64 8))] [] 1 (.c (.sl 33 0 0 8 1)) [] [(33, (.one ⟨true, true, (.ints .u8 [252, 255, 255, 15, 252, 255, 255, 15])⟩))] :=
  Contract0.norm_up (up := [(33, (.one ⟨true, true, (.ints .u8 [252, 255, 255, 15, 252, 255, 255, 15])⟩))]) (Contract0.of_frun (fn := Try.f83) (c := bodyOf Try.f83) (fuel := 300) (k := kOf Try.prog Try.f83) (outs := [33]) (hs := [])
    (cs := [])
    mixed Try.func83 (by kernel_rfl) (by kernel_rfl) (by kernel_rfl) rfl (by kernel_rfl) trivial) (by kernel_rfl)

theorem run38a
    (c1 : Contract0 Try.prog 83 [(.c (.int .u64 1152921487695413247)), (.c (.int .i64 8))] [] 1 (.c (.sl 33 0 0 8 1)) [] [(33, (.one ⟨true, true, (.ints .u8 [255, 255, 255, 15, 252, 255, 255, 15])⟩))])   :
    Contract0 Try.prog 58 [(.c (.int .u64 1152921487695413247))] [] 1 (.c (.sl 33 0 0 8 1)) [] [(33, (.one ⟨true, true, (.ints .u8 [255, 255, 255, 15, 252, 255, 255, 15])⟩))] :=
  Contract0.norm_up (up := [(33, (.one ⟨true, true, (.ints .u8 [255, 255, 255, 15, 252, 255, 255, 15])⟩))]) (Contract0.of_frun (fn := Try.f58) (c := bodyOf Try.f58) (fuel := 300) (k := kOf Try.prog Try.f58) (outs := [33]) (hs := [(2, ⟨.call [] (.c (.sl 33 0 0 8 1)) [] [(33, (.one ⟨true, true, (.ints .u8 [255, 255, 255, 15, 252, 255, 255, 15])⟩))], none⟩)])
    (cs := [Contract Try.prog 83 [(.c (.int .u64 1152921487695413247)), (.c (.int .i64 8))] [] 33 (.c (.sl 33 0 0 8 1)) [] [(33, (.one ⟨true, true, (.ints .u8 [255, 255, 255, 15, 252, 255, 255, 15])⟩))]])
    mixed Try.func58 (by kernel_rfl) (by kernel_rfl) (by kernel_rfl) rfl (by kernel_rfl) ⟨c1.gen [] [(33, 33)] [] (by kernel_rfl) (by kernel_rfl) rfl (by kernel_rfl) rfl rfl (by kernel_rfl) rfl rfl (by kernel_rfl), trivial⟩) (by kernel_rfl)

theorem run38b
    (c1 : Contract0 Try.prog 83 [(.c (.int .u64 1152921487695413244)), (.c (.int .i64 8))] [] 1 (.c (.sl 33 0 0 8 1)) [] [(33, (.one ⟨true, true, (.ints .u8 [252, 255, 255, 15, 252, 255, 255, 15])⟩))])   :
    Contract0 Try.prog 58 [(.c (.int .u64 1152921487695413244))] [] 1 (.c (.sl 33 0 0 8 1)) [] [(33, (.one ⟨true, true, (.ints .u8 [252, 255, 255, 15, 252, 255, 255, 15])⟩))] :=
  Contract0.norm_up (up := [(33, (.one ⟨true, true, (.ints .u8 [252, 255, 255, 15, 252, 255, 255, 15])⟩))]) (Contract0.of_frun (fn := Try.f58) (c := bodyOf Try.f58) (fuel := 300) (k := kOf Try.prog Try.f58) (outs := [33]) (hs := [(2, ⟨.call [] (.c (.sl 33 0 0 8 1)) [] [(33, (.one ⟨true, true, (.ints .u8 [252, 255, 255, 15, 252, 255, 255, 15])⟩))], none⟩)])
    (cs := [Contract Try.prog 83 [(.c (.int .u64 1152921487695413244)), (.c (.int .i64 8))] [] 33 (.c (.sl 33 0 0 8 1)) [] [(33, (.one ⟨true, true, (.ints .u8 [252, 255, 255, 15, 252, 255, 255, 15])⟩))]])
    mixed Try.func58 (by kernel_rfl) (by kernel_rfl) (by kernel_rfl) rfl (by kernel_rfl) ⟨c1.gen [] [(33, 33)] [] (by kernel_rfl) (by kernel_rfl) rfl (by kernel_rfl) rfl rfl (by kernel_rfl) rfl rfl (by kernel_rfl), trivial⟩) (by kernel_rfl)

theorem run37   :
    Contract0 Try.prog 57 [(.c (.sl 1 0 0 2 1))] [(1, (.one ⟨false, true, (.cells [(.sl 2 0 0 8 1), (.sl 3 0 0 8 1)])⟩)), (2, (.one ⟨false, true, (.ints .u8 [255, 255, 255, 15, 252, 255, 255, 15])⟩)), (3, (.one ⟨false, true, (.ints .u8 [252, 255, 255, 15, 252, 255, 255, 15])⟩))] 4 (.c (.sl 356 0 0 16 1)) [] [(356, (.one ⟨true, false, (.ints .u8 [255, 255, 255, 15, 252, 255, 255, 15, 252, 255, 255, 15, 252, 255, 255, 15])⟩))] :=
  Contract0.norm_up (up := [(356, (.one ⟨true, false, (.ints .u8 [255, 255, 255, 15, 252, 255, 255, 15, 252, 255, 255, 15, 252, 255, 255, 15])⟩))]) (Contract0.of_frun (fn := Try.f57) (c := bodyOf Try.f57) (fuel := 300) (k := kOf Try.prog Try.f57) (outs := [356]) (hs := [])
    (cs := [])
    mixed Try.func57 (by kernel_rfl) (by kernel_rfl) (by kernel_rfl) rfl (by kernel_rfl) trivial) (by kernel_rfl)

theorem run47
    (c1 : Contract0 Try.prog 56 [(.c (.str ({ data := { toList := [56, 53, 100, 54, 98, 101, 55, 56, 53, 55, 53, 53, 54, 100, 51, 51, 55, 102, 52, 52, 53, 50, 102, 101, 52, 50, 100, 53, 48, 54, 97, 56, 48, 49, 48, 51, 56, 48, 56, 97, 102, 98, 48, 100, 98, 50, 102, 100, 52, 97, 98, 102, 102, 54, 97, 102, 52, 49, 52, 57, 102, 53, 49, 98] } })))] [] 1 (.c (.sl 31713 0 0 32 1)) [] [(31713, (.one ⟨true, false, (.ints .u8 [133, 214, 190, 120, 87, 85, 109, 51, 127, 68, 82, 254, 66, 213, 6, 168, 1, 3, 128, 138, 251, 13, 178, 253, 74, 191, 246, 175, 65, 73, 245, 27])⟩))])   :
    PureF Try.prog 55 [(.c (.str ({ data := { toList := [56, 53, 100, 54, 98, 101, 55, 56, 53, 55, 53, 53, 54, 100, 51, 51, 55, 102, 52, 52, 53, 50, 102, 101, 52, 50, 100, 53, 48, 54, 97, 56, 48, 49, 48, 51, 56, 48, 56, 97, 102, 98, 48, 100, 98, 50, 102, 100, 52, 97, 98, 102, 102, 54, 97, 102, 52, 49, 52, 57, 102, 53, 49, 98] } })))] (.aggi .u8 [133, 214, 190, 120, 87, 85, 109, 51, 127, 68, 82, 254, 66, 213, 6, 168, 1, 3, 128, 138, 251, 13, 178, 253, 74, 191, 246, 175, 65, 73, 245, 27]) :=
  Contract0.of_frun (fn := Try.f55) (c := bodyOf Try.f55) (fuel := 300) (k := kOf Try.prog Try.f55) (outs := []) (hs := [(4, ⟨.call [] (.c (.sl 65 0 0 32 1)) [] [(65, (.one ⟨true, false, (.ints .u8 [133, 214, 190, 120, 87, 85, 109, 51, 127, 68, 82, 254, 66, 213, 6, 168, 1, 3, 128, 138, 251, 13, 178, 253, 74, 191, 246, 175, 65, 73, 245, 27])⟩))], none⟩)])
    (cs := [Contract Try.prog 56 [(.c (.str ({ data := { toList := [56, 53, 100, 54, 98, 101, 55, 56, 53, 55, 53, 53, 54, 100, 51, 51, 55, 102, 52, 52, 53, 50, 102, 101, 52, 50, 100, 53, 48, 54, 97, 56, 48, 49, 48, 51, 56, 48, 56, 97, 102, 98, 48, 100, 98, 50, 102, 100, 52, 97, 98, 102, 102, 54, 97, 102, 52, 49, 52, 57, 102, 53, 49, 98] } })))] [] 65 (.c (.sl 65 0 0 32 1)) [] [(65, (.one ⟨true, false, (.ints .u8 [133, 214, 190, 120, 87, 85, 109, 51, 127, 68, 82, 254, 66, 213, 6, 168, 1, 3, 128, 138, 251, 13, 178, 253, 74, 191, 246, 175, 65, 73, 245, 27])⟩))]])
    mixed Try.func55 (by kernel_rfl) (by kernel_rfl) (by kernel_rfl) rfl (by kernel_rfl) ⟨c1.gen [] [(31713, 65)] [] (by kernel_rfl) (by kernel_rfl) rfl (by kernel_rfl) rfl rfl (by kernel_rfl) rfl rfl (by kernel_rfl), trivial⟩

theorem run19
    (c1 : PureF Try.prog 55 [(.c (.str ({ data := #[56, 53, 100, 54, 98, 101, 55, 56, 53, 55, 53, 53, 54, 100, 51, 51, 55, 102, 52, 52, 53, 50, 102, 101, 52, 50, 100, 53, 48, 54, 97, 56, 48, 49, 48, 51, 56, 48, 56, 97, 102, 98, 48, 100, 98, 50, 102, 100, 52, 97, 98, 102, 102, 54, 97, 102, 52, 49, 52, 57, 102, 53, 49, 98] })))] (.aggi .u8 [133, 214, 190, 120, 87, 85, 109, 51, 127, 68, 82, 254, 66, 213, 6, 168, 1, 3, 128, 138, 251, 13, 178, 253, 74, 191, 246, 175, 65, 73, 245, 27]))
    (c3 : PureF Try.prog 18 [(.aggi .u8 [133, 214, 190, 120, 87, 85, 109, 51, 127, 68, 82, 254, 66, 213, 6, 168, 1, 3, 128, 138, 251, 13, 178, 253, 74, 191, 246, 175, 65, 73, 245, 27]), (.c .nils)] (.aggi .u8 [1, 3, 128, 138, 251, 13, 178, 253, 74, 191, 246, 175, 65, 73, 245, 27]))
    (c5 : Contract0 Try.prog 18 [(.aggi .u8 [133, 214, 190, 120, 87, 85, 109, 51, 127, 68, 82, 254, 66, 213, 6, 168, 1, 3, 128, 138, 251, 13, 178, 253, 74, 191, 246, 175, 65, 73, 245, 27]), (.c (.sl 1 0 0 34 1))] [(1, (.one ⟨false, true, (.ints .u8 [67, 114, 121, 112, 116, 111, 103, 114, 97, 112, 104, 105, 99, 32, 70, 111, 114, 117, 109, 32, 82, 101, 115, 101, 97, 114, 99, 104, 32, 71, 114, 111, 117, 112])⟩))] 2 (.aggi .u8 [168, 6, 29, 193, 48, 81, 54, 198, 194, 43, 139, 175, 12, 1, 39, 169]) [] [])
    (c7 : Contract0 Try.prog 56 [(.c (.str ({ data := #[97, 56, 48, 54, 49, 100, 99, 49, 51, 48, 53, 49, 51, 54, 99, 54, 99, 50, 50, 98, 56, 98, 97, 102, 48, 99, 48, 49, 50, 55, 97, 57] })))] [] 1 (.c (.sl 15777 0 0 16 1)) [] [(15777, (.one ⟨true, false, (.ints .u8 [168, 6, 29, 193, 48, 81, 54, 198, 194, 43, 139, 175, 12, 1, 39, 169])⟩))])   :
    PureF Try.prog 17 [] (.c (.bool (true))) :=
  Contract0.of_frun (fn := Try.f17) (c := bodyOf Try.f17) (fuel := 300) (k := kOf Try.prog Try.f17) (outs := []) (hs := [(1, ⟨.call [] (.aggi .u8 [133, 214, 190, 120, 87, 85, 109, 51, 127, 68, 82, 254, 66, 213, 6, 168, 1, 3, 128, 138, 251, 13, 178, 253, 74, 191, 246, 175, 65, 73, 245, 27]) [] [], none⟩), (5, ⟨.call [] (.aggi .u8 [1, 3, 128, 138, 251, 13, 178, 253, 74, 191, 246, 175, 65, 73, 245, 27]) [] [], none⟩), (11, ⟨.call [161] (.aggi .u8 [168, 6, 29, 193, 48, 81, 54, 198, 194, 43, 139, 175, 12, 1, 39, 169]) [] [], none⟩), (22, ⟨.call [] (.c (.sl 353 0 0 16 1)) [] [(353, (.one ⟨true, false, (.ints .u8 [168, 6, 29, 193, 48, 81, 54, 198, 194, 43, 139, 175, 12, 1, 39, 169])⟩))], none⟩)])
    (cs := [Contract Try.prog 56 [(.c (.str ({ data := #[97, 56, 48, 54, 49, 100, 99, 49, 51, 48, 53, 49, 51, 54, 99, 54, 99, 50, 50, 98, 56, 98, 97, 102, 48, 99, 48, 49, 50, 55, 97, 57] })))] [] 353 (.c (.sl 353 0 0 16 1)) [] [(353, (.one ⟨true, false, (.ints .u8 [168, 6, 29, 193, 48, 81, 54, 198, 194, 43, 139, 175, 12, 1, 39, 169])⟩))],
      Contract Try.prog 18 [(.aggi .u8 [133, 214, 190, 120, 87, 85, 109, 51, 127, 68, 82, 254, 66, 213, 6, 168, 1, 3, 128, 138, 251, 13, 178, 253, 74, 191, 246, 175, 65, 73, 245, 27]), (.c (.sl 161 0 0 34 1))] [(161, (.one ⟨false, true, (.cells [(.int .u8 67), (.int .u8 114), (.int .u8 121), (.int .u8 112), (.int .u8 116), (.int .u8 111), (.int .u8 103), (.int .u8 114), (.int .u8 97), (.int .u8 112), (.int .u8 104), (.int .u8 105), (.int .u8 99), (.int .u8 32), (.int .u8 70), (.int .u8 111), (.int .u8 114), (.int .u8 117), (.int .u8 109), (.int .u8 32), (.int .u8 82), (.int .u8 101), (.int .u8 115), (.int .u8 101), (.int .u8 97), (.int .u8 114), (.int .u8 99), (.int .u8 104), (.int .u8 32), (.int .u8 71), (.int .u8 114), (.int .u8 111), (.int .u8 117), (.int .u8 112)])⟩))] 177 (.aggi .u8 [168, 6, 29, 193, 48, 81, 54, 198, 194, 43, 139, 175, 12, 1, 39, 169]) [] [],
      Contract Try.prog 18 [(.aggi .u8 [133, 214, 190, 120, 87, 85, 109, 51, 127, 68, 82, 254, 66, 213, 6, 168, 1, 3, 128, 138, 251, 13, 178, 253, 74, 191, 246, 175, 65, 73, 245, 27]), (.c .nils)] [] 81 (.aggi .u8 [1, 3, 128, 138, 251, 13, 178, 253, 74, 191, 246, 175, 65, 73, 245, 27]) [] [],
      Contract Try.prog 55 [(.c (.str ({ data := #[56, 53, 100, 54, 98, 101, 55, 56, 53, 55, 53, 53, 54, 100, 51, 51, 55, 102, 52, 52, 53, 50, 102, 101, 52, 50, 100, 53, 48, 54, 97, 56, 48, 49, 48, 51, 56, 48, 56, 97, 102, 98, 48, 100, 98, 50, 102, 100, 52, 97, 98, 102, 102, 54, 97, 102, 52, 49, 52, 57, 102, 53, 49, 98] })))] [] 17 (.aggi .u8 [133, 214, 190, 120, 87, 85, 109, 51, 127, 68, 82, 254, 66, 213, 6, 168, 1, 3, 128, 138, 251, 13, 178, 253, 74, 191, 246, 175, 65, 73, 245, 27]) [] []])
    mixed Try.func17 (by kernel_rfl) (by kernel_rfl) (by kernel_rfl) rfl (by kernel_rfl) ⟨c7.gen [] [(15777, 353)] [] (by kernel_rfl) (by kernel_rfl) rfl (by kernel_rfl) rfl rfl (by kernel_rfl) rfl rfl (by kernel_rfl), c5.ro [(161, (1, true))] rfl (by kernel_rfl) rfl (by kernel_rfl) rfl rfl _, c3.use (by kernel_rfl) rfl rfl _ _, c1.use (by kernel_rfl) rfl rfl _ _, trivial⟩

end Go.Proofs.Ytmfnldkiaodkpaa.Vm
