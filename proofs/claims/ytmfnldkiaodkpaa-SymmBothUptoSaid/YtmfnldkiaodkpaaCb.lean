/- What functions of the program come to: parts of the walk (Cb). -/
import Derived.Test.YtmfnldkiaodkpaaCa
import Derived.KernelRfl
import Derived.Test.YtmfnldkiaodkpaaProg
import Derived.Test.YtmfnldkiaodkpaaVmc
import Derived.Test.YtmfnldkiaodkpaaOa
set_option linter.unusedSimpArgs false
set_option linter.unusedVariables false
namespace Go.Proofs.Ytmfnldkiaodkpaa.Vm
open Go Go.Proofs Go.Proofs.Ytmfnldkiaodkpaa
set_option maxRecDepth 100000
theorem copen0 (ex : Bool) (n k0 k1 k2 k3 k4 k5 k6 k7 k8 k9 k10 k11 k12 k13 k14 k15 k16 k17 k18 k19 k20 k21 k22 k23 k24 k25 k26 k27 k28 k29 k30 k31 : Int) (la lt : List Int) (oa na ot nt : Nat)
    (p0 : 0 ≤ n ∧ n < 18446744073709551616)
    (p1 : oa + na ≤ la.length)
    (p2 : ot + nt ≤ lt.length)
    (p3 : na ≤ 1048576)
    (p4 : nt ≤ 1073741808)
    (p5 : W.bytes la)
    (p6 : W.bytes lt) :
    Contract0 Try.prog 32 [(.c (.ptr 1 0 0)), (.c (.sl 2 0 oa na 1)), (.c (.sl 3 0 ot nt 1))] [(1, (.one ⟨true, ex, (.cells [(.int .u8 k0), (.int .u8 k1), (.int .u8 k2), (.int .u8 k3), (.int .u8 k4), (.int .u8 k5), (.int .u8 k6), (.int .u8 k7), (.int .u8 k8), (.int .u8 k9), (.int .u8 k10), (.int .u8 k11), (.int .u8 k12), (.int .u8 k13), (.int .u8 k14), (.int .u8 k15), (.int .u8 k16), (.int .u8 k17), (.int .u8 k18), (.int .u8 k19), (.int .u8 k20), (.int .u8 k21), (.int .u8 k22), (.int .u8 k23), (.int .u8 k24), (.int .u8 k25), (.int .u8 k26), (.int .u8 k27), (.int .u8 k28), (.int .u8 k29), (.int .u8 k30), (.int .u8 k31), (.bool (false)), (.int .u64 n)])⟩)), (2, (.one ⟨false, false, (.ints .u8 la)⟩)), (3, (.one ⟨false, false, (.ints .u8 lt)⟩))] 4 (.tup [(.c (.sl 4 0 0 nt 1)), (.c (.int .i64 0))]) [] [(1, (.one ⟨true, ex, (.cells [(.int .u8 k0), (.int .u8 k1), (.int .u8 k2), (.int .u8 k3), (.int .u8 k4), (.int .u8 k5), (.int .u8 k6), (.int .u8 k7), (.int .u8 k8), (.int .u8 k9), (.int .u8 k10), (.int .u8 k11), (.int .u8 k12), (.int .u8 k13), (.int .u8 k14), (.int .u8 k15), (.int .u8 k16), (.int .u8 k17), (.int .u8 k18), (.int .u8 k19), (.int .u8 k20), (.int .u8 k21), (.int .u8 k22), (.int .u8 k23), (.int .u8 k24), (.int .u8 k25), (.int .u8 k26), (.int .u8 k27), (.int .u8 k28), (.int .u8 k29), (.int .u8 k30), (.int .u8 k31), (.bool (false)), (.int .u64 n)])⟩)), (4, (.one ⟨true, false, (.ints .u8 (List.take nt (List.drop ot lt)))⟩))] :=
  Contract0.renum (Contract0.of_frun (res := (.tup [(.c (.sl 148 0 0 nt 1)), (.c (.int .i64 0))])) (up := [(1, (.one ⟨true, ex, (.cells [(.int .u8 k0), (.int .u8 k1), (.int .u8 k2), (.int .u8 k3), (.int .u8 k4), (.int .u8 k5), (.int .u8 k6), (.int .u8 k7), (.int .u8 k8), (.int .u8 k9), (.int .u8 k10), (.int .u8 k11), (.int .u8 k12), (.int .u8 k13), (.int .u8 k14), (.int .u8 k15), (.int .u8 k16), (.int .u8 k17), (.int .u8 k18), (.int .u8 k19), (.int .u8 k20), (.int .u8 k21), (.int .u8 k22), (.int .u8 k23), (.int .u8 k24), (.int .u8 k25), (.int .u8 k26), (.int .u8 k27), (.int .u8 k28), (.int .u8 k29), (.int .u8 k30), (.int .u8 k31), (.bool (false)), (.int .u64 n)])⟩)), (148, (.one ⟨true, false, (.ints .u8 (List.take nt (List.drop ot lt)))⟩))]) (kill := []) (n0 := 4) (m := [(1, (.one ⟨true, ex, (.cells [(.int .u8 k0), (.int .u8 k1), (.int .u8 k2), (.int .u8 k3), (.int .u8 k4), (.int .u8 k5), (.int .u8 k6), (.int .u8 k7), (.int .u8 k8), (.int .u8 k9), (.int .u8 k10), (.int .u8 k11), (.int .u8 k12), (.int .u8 k13), (.int .u8 k14), (.int .u8 k15), (.int .u8 k16), (.int .u8 k17), (.int .u8 k18), (.int .u8 k19), (.int .u8 k20), (.int .u8 k21), (.int .u8 k22), (.int .u8 k23), (.int .u8 k24), (.int .u8 k25), (.int .u8 k26), (.int .u8 k27), (.int .u8 k28), (.int .u8 k29), (.int .u8 k30), (.int .u8 k31), (.bool (false)), (.int .u64 n)])⟩)), (2, (.one ⟨false, false, (.ints .u8 la)⟩)), (3, (.one ⟨false, false, (.ints .u8 lt)⟩))]) (args := [(.c (.ptr 1 0 0)), (.c (.sl 2 0 oa na 1)), (.c (.sl 3 0 ot nt 1))]) (fn := Try.f32) (c := bodyOf Try.f32) (fuel := 300) (k := kOf Try.prog Try.f32) (outs := [1, 148]) (hs := [(10, ⟨.call [3] (.c (.sl 148 0 0 nt 1)) [] [(148, (.one ⟨true, false, (.ints .u8 (List.take nt (List.drop ot lt)))⟩))], none⟩)])
    (cs := [Contract Try.prog 75 [(.c (.sl 3 0 ot nt 1))] [(3, (.one ⟨false, false, (.ints .u8 lt)⟩))] 148 (.c (.sl 148 0 0 nt 1)) [] [(148, (.one ⟨true, false, (.ints .u8 (List.take nt (List.drop ot lt)))⟩))]])
    mixed Try.func32 (by kernel_rfl) (by kernel_rfl) (by kernel_rfl) (by kernel_rfl) (by kernel_rfl) ⟨Contract0.in1 (clone lt ot nt (by omega) (by omega)) [.b 3 1 true []] [none] [(2, 148)] [] (by kernel_rfl), trivial⟩) [.b 1 1 false, .b 2 2 true, .b 3 3 true] [] [(148, 4)] [] (by kernel_rfl) (by kernel_rfl) (by kernel_rfl) (by kernel_rfl) (by kernel_rfl)
theorem copenb (ex : Bool) (n k0 k1 k2 k3 k4 k5 k6 k7 k8 k9 k10 k11 k12 k13 k14 k15 k16 k17 k18 k19 k20 k21 k22 k23 k24 k25 k26 k27 k28 k29 k30 k31 : Int) (la t : List Int) (oa na q : Nat)
    (p0 : 0 ≤ n ∧ n < 18446744073709551616)
    (p1 : oa + na ≤ la.length)
    (p2 : na ≤ 1048576)
    (p3 : q = t.length)
    (p4 : q ≤ 1073741808)
    (p5 : W.bytes la)
    (p6 : W.bytes t)
    (p7 : ¬ n = 18446744073709551615) :
    Contract0 Try.prog 32 [(.c (.ptr 1 0 0)), (.c (.sl 2 0 oa na 1)), (.c (.sl 3 0 0 (q + 16) 1))] [(1, (.one ⟨true, ex, (.cells [(.int .u8 k0), (.int .u8 k1), (.int .u8 k2), (.int .u8 k3), (.int .u8 k4), (.int .u8 k5), (.int .u8 k6), (.int .u8 k7), (.int .u8 k8), (.int .u8 k9), (.int .u8 k10), (.int .u8 k11), (.int .u8 k12), (.int .u8 k13), (.int .u8 k14), (.int .u8 k15), (.int .u8 k16), (.int .u8 k17), (.int .u8 k18), (.int .u8 k19), (.int .u8 k20), (.int .u8 k21), (.int .u8 k22), (.int .u8 k23), (.int .u8 k24), (.int .u8 k25), (.int .u8 k26), (.int .u8 k27), (.int .u8 k28), (.int .u8 k29), (.int .u8 k30), (.int .u8 k31), (.bool (true)), (.int .u64 n)])⟩)), (2, (.one ⟨false, false, (.ints .u8 la)⟩)), (3, (.one ⟨false, false, (.ints .u8 (W.box [k0, k1, k2, k3, k4, k5, k6, k7, k8, k9, k10, k11, k12, k13, k14, k15, k16, k17, k18, k19, k20, k21, k22, k23, k24, k25, k26, k27, k28, k29, k30, k31] (W.nonce n) (List.take na (List.drop oa la)) t))⟩))] 4 (.tup [(.c (.sl 4 0 0 q 1)), (.c (.int .i64 0))]) [] [(1, (.one ⟨true, ex, (.cells [(.int .u8 k0), (.int .u8 k1), (.int .u8 k2), (.int .u8 k3), (.int .u8 k4), (.int .u8 k5), (.int .u8 k6), (.int .u8 k7), (.int .u8 k8), (.int .u8 k9), (.int .u8 k10), (.int .u8 k11), (.int .u8 k12), (.int .u8 k13), (.int .u8 k14), (.int .u8 k15), (.int .u8 k16), (.int .u8 k17), (.int .u8 k18), (.int .u8 k19), (.int .u8 k20), (.int .u8 k21), (.int .u8 k22), (.int .u8 k23), (.int .u8 k24), (.int .u8 k25), (.int .u8 k26), (.int .u8 k27), (.int .u8 k28), (.int .u8 k29), (.int .u8 k30), (.int .u8 k31), (.bool (true)), (.int .u64 (n + 1))])⟩)), (4, (.one ⟨true, false, (.ints .u8 t)⟩))] :=
  Contract0.renum (Contract0.of_frun (res := (.tup [(.c (.sl 404 0 0 q 1)), (.c (.int .i64 0))])) (up := [(1, (.one ⟨true, ex, (.cells [(.int .u8 k0), (.int .u8 k1), (.int .u8 k2), (.int .u8 k3), (.int .u8 k4), (.int .u8 k5), (.int .u8 k6), (.int .u8 k7), (.int .u8 k8), (.int .u8 k9), (.int .u8 k10), (.int .u8 k11), (.int .u8 k12), (.int .u8 k13), (.int .u8 k14), (.int .u8 k15), (.int .u8 k16), (.int .u8 k17), (.int .u8 k18), (.int .u8 k19), (.int .u8 k20), (.int .u8 k21), (.int .u8 k22), (.int .u8 k23), (.int .u8 k24), (.int .u8 k25), (.int .u8 k26), (.int .u8 k27), (.int .u8 k28), (.int .u8 k29), (.int .u8 k30), (.int .u8 k31), (.bool (true)), (.int .u64 (n + 1))])⟩)), (404, (.one ⟨true, false, (.ints .u8 t)⟩))]) (kill := []) (n0 := 4) (m := [(1, (.one ⟨true, ex, (.cells [(.int .u8 k0), (.int .u8 k1), (.int .u8 k2), (.int .u8 k3), (.int .u8 k4), (.int .u8 k5), (.int .u8 k6), (.int .u8 k7), (.int .u8 k8), (.int .u8 k9), (.int .u8 k10), (.int .u8 k11), (.int .u8 k12), (.int .u8 k13), (.int .u8 k14), (.int .u8 k15), (.int .u8 k16), (.int .u8 k17), (.int .u8 k18), (.int .u8 k19), (.int .u8 k20), (.int .u8 k21), (.int .u8 k22), (.int .u8 k23), (.int .u8 k24), (.int .u8 k25), (.int .u8 k26), (.int .u8 k27), (.int .u8 k28), (.int .u8 k29), (.int .u8 k30), (.int .u8 k31), (.bool (true)), (.int .u64 n)])⟩)), (2, (.one ⟨false, false, (.ints .u8 la)⟩)), (3, (.one ⟨false, false, (.ints .u8 (W.box [k0, k1, k2, k3, k4, k5, k6, k7, k8, k9, k10, k11, k12, k13, k14, k15, k16, k17, k18, k19, k20, k21, k22, k23, k24, k25, k26, k27, k28, k29, k30, k31] (W.nonce n) (List.take na (List.drop oa la)) t))⟩))]) (args := [(.c (.ptr 1 0 0)), (.c (.sl 2 0 oa na 1)), (.c (.sl 3 0 0 (q + 16) 1))]) (fn := Try.f32) (c := bodyOf Try.f32) (fuel := 300) (k := kOf Try.prog Try.f32) (outs := [1, 404]) (hs := [(13, ⟨.auto, some (.c (.bool (false)))⟩), (24, ⟨.call [] (.aggi .u8 (W.nonce n)) [] [], none⟩), (27, ⟨.call [2, 3] (.tup [(.c (.sl 404 0 0 q 1)), (.c (.int .i64 0))]) [] [(404, (.one ⟨true, false, (.ints .u8 t)⟩))], none⟩), (40, ⟨.auto, some (.c (.int .u64 (n + 1)))⟩)])
    (cs := [EI .u64 ((n + 1) % 18446744073709551616) (n + 1),
      Contract Try.prog 76 [(.agg [(.int .u8 k0), (.int .u8 k1), (.int .u8 k2), (.int .u8 k3), (.int .u8 k4), (.int .u8 k5), (.int .u8 k6), (.int .u8 k7), (.int .u8 k8), (.int .u8 k9), (.int .u8 k10), (.int .u8 k11), (.int .u8 k12), (.int .u8 k13), (.int .u8 k14), (.int .u8 k15), (.int .u8 k16), (.int .u8 k17), (.int .u8 k18), (.int .u8 k19), (.int .u8 k20), (.int .u8 k21), (.int .u8 k22), (.int .u8 k23), (.int .u8 k24), (.int .u8 k25), (.int .u8 k26), (.int .u8 k27), (.int .u8 k28), (.int .u8 k29), (.int .u8 k30), (.int .u8 k31)]), (.aggi .u8 (W.nonce n)), (.c (.sl 2 0 oa na 1)), (.c (.sl 3 0 0 (q + 16) 1))] [(2, (.one ⟨false, false, (.ints .u8 la)⟩)), (3, (.one ⟨false, false, (.ints .u8 (W.box [k0, k1, k2, k3, k4, k5, k6, k7, k8, k9, k10, k11, k12, k13, k14, k15, k16, k17, k18, k19, k20, k21, k22, k23, k24, k25, k26, k27, k28, k29, k30, k31] (W.nonce n) (List.take na (List.drop oa la)) t))⟩))] 404 (.tup [(.c (.sl 404 0 0 q 1)), (.c (.int .i64 0))]) [] [(404, (.one ⟨true, false, (.ints .u8 t)⟩))],
      Contract Try.prog 74 [(.c (.int .u64 n))] [] 356 (.aggi .u8 (W.nonce n)) [] [],
      EB (n == 18446744073709551615) false])
    mixed Try.func32 (by kernel_rfl) (by kernel_rfl) (by kernel_rfl) (by kernel_rfl) (by kernel_rfl) ⟨.mk (by omega), Contract0.in1 (open_box ([k0, k1, k2, k3, k4, k5, k6, k7, k8, k9, k10, k11, k12, k13, k14, k15, k16, k17, k18, k19, k20, k21, k22, k23, k24, k25, k26, k27, k28, k29, k30, k31]) (W.nonce n) la t oa na q (by simp only [and_true, List.length_set, List.length_append, List.length_replicate, List.length_take, List.length_drop, List.length_map, List.length_cons, List.length_nil, List.length_zipWith, splice_len1, W.le_len, W.bts_len, Int.toNat_natCast, addO_eq, mulE_eq, mulE_one, W.once_len, W.block_len, W.p8_len, W.apply_len, W.boxTag_len, W.box_len, W.nonce_len, W.hand_len, W.tag_len]) (by simp only [and_true, List.length_set, List.length_append, List.length_replicate, List.length_take, List.length_drop, List.length_map, List.length_cons, List.length_nil, List.length_zipWith, splice_len1, W.le_len, W.bts_len, Int.toNat_natCast, addO_eq, mulE_eq, mulE_one, W.once_len, W.block_len, W.p8_len, W.apply_len, W.boxTag_len, W.box_len, W.nonce_len, W.hand_len, W.tag_len]) (by omega) (by omega) (by omega) (by omega) (by omega) (by omega)) [.b 2 1 true [], .b 3 2 true []] [none, none, none, none] [(3, 404)] [] (by kernel_rfl), Contract0.in1 (nonce_ok n (by omega)) [] [none] [] [] (by kernel_rfl), .mk (beq_f (by omega)), trivial⟩) [.b 1 1 false, .b 2 2 true, .b 3 3 true] [] [(404, 4)] [] (by kernel_rfl) (by kernel_rfl) (by kernel_rfl) (by kernel_rfl) (by kernel_rfl)
end Go.Proofs.Ytmfnldkiaodkpaa.Vm

namespace Go.Proofs.Ytmfnldkiaodkpaa.W
end Go.Proofs.Ytmfnldkiaodkpaa.W
namespace Go.Proofs.Ytmfnldkiaodkpaa.Vm
open Go Go.Proofs Go.Proofs.Ytmfnldkiaodkpaa
end Go.Proofs.Ytmfnldkiaodkpaa.Vm

namespace Go.Proofs.Ytmfnldkiaodkpaa.Vm
open Go Go.Proofs Go.Proofs.Ytmfnldkiaodkpaa
set_option maxRecDepth 100000
end Go.Proofs.Ytmfnldkiaodkpaa.Vm

namespace Go.Proofs.Ytmfnldkiaodkpaa.Vm
open Go Go.Proofs Go.Proofs.Ytmfnldkiaodkpaa
theorem key_bts {k : List Int} (hk : k.length = 32) (hkb : W.bytes k) : k = W.bts (W.num k) := by
  rw [W.bts_le]
  have := W.le_num hkb
  rw [hk] at this; exact this.symm
end Go.Proofs.Ytmfnldkiaodkpaa.Vm
namespace Go.Proofs.Ytmfnldkiaodkpaa.W
open Go Go.Proofs.Ytmfnldkiaodkpaa.Vm
end Go.Proofs.Ytmfnldkiaodkpaa.W

namespace Go.Proofs.Ytmfnldkiaodkpaa.W
open Go Go.Proofs.Ytmfnldkiaodkpaa.Vm
end Go.Proofs.Ytmfnldkiaodkpaa.W
