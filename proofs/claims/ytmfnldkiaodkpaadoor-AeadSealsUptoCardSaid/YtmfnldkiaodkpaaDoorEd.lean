/- What functions of the program come to: parts of the walk (Ed). -/
import Derived.Test.YtmfnldkiaodkpaaDoorEc
import Derived.KernelRfl
import Derived.Test.YtmfnldkiaodkpaaDoorProg
import Derived.Test.YtmfnldkiaodkpaaDoorOe
set_option linter.unusedSimpArgs false
set_option linter.unusedVariables false
namespace Go.Proofs.YtmfnldkiaodkpaaDoor.Vm
open Go Go.Proofs Go.Proofs.YtmfnldkiaodkpaaDoor
set_option maxRecDepth 100000
theorem rseal_ok (k nn la lt : List Int) (oa na ot nt : Nat) (G : Nat → List Int)
    (hk : k.length = 32)
    (hnn : nn.length = 12)
    (hkb : W.bytes k)
    (hnb : W.bytes nn)
    (hG : G 2 = W.rows)
    (hla : oa + na ≤ la.length)
    (hlt : ot + nt ≤ lt.length)
    (hs : na + nt ≤ 2000000)
    (hba : W.bytes la)
    (hbt : W.bytes lt) :
    Contract0 Tryd.prog 26 [(.aggi .u8 k), (.aggi .u8 nn), (.c (.sl 1 0 oa na 1)), (.c (.sl 2 0 ot nt 1))] [(0, (.many (fun j_ => some ⟨false, false, (.ints (W.gk j_) (G j_))⟩))), (1, (.one ⟨false, false, (.ints .u8 la)⟩)), (2, (.one ⟨false, false, (.ints .u8 lt)⟩))] 4 (.c (.sl 4 0 0 (nt + 16) 1)) [] [(4, (.one ⟨true, false, (.ints .u8 (W.box k nn (List.take na (List.drop oa la)) (List.take nt (List.drop ot lt))))⟩))] :=
  Contract0.told (res := (.c (.sl 4 0 0 (nt + 16) 1))) (up := [(4, (.one ⟨true, false, (.ints .u8 (List.take nt (List.take nt (W.apply k 1 nn (List.take nt (List.drop ot lt)))) ++ List.take 16 (W.boxTag k nn (List.take na (List.drop oa la)) (List.take nt (W.apply k 1 nn (List.take nt (List.drop ot lt)))))))⟩))]) (res' := (.c (.sl 4 0 0 (nt + 16) 1))) (up' := [(4, (.one ⟨true, false, (.ints .u8 (W.box k nn (List.take na (List.drop oa la)) (List.take nt (List.drop ot lt))))⟩))]) (by rfl) (by rw [tk1, box_eq hlt]) (Contract0.renumG (Contract0.unkill pr_glob (Contract0.of_frun (res := (.c (.sl 260 0 0 (nt + 16) 1))) (up := [(260, (.one ⟨true, false, (.ints .u8 (List.take nt (List.take nt (W.apply k 1 nn (List.take nt (List.drop ot lt)))) ++ List.take 16 (W.boxTag k nn (List.take na (List.drop oa la)) (List.take nt (W.apply k 1 nn (List.take nt (List.drop ot lt)))))))⟩))]) (kill := [0]) (n0 := 4) (m := [(0, (.many (fun j_ => some ⟨false, false, (.ints (W.gk j_) (G j_))⟩))), (1, (.one ⟨false, false, (.ints .u8 la)⟩)), (2, (.one ⟨false, false, (.ints .u8 lt)⟩))]) (args := [(.aggi .u8 k), (.aggi .u8 nn), (.c (.sl 1 0 oa na 1)), (.c (.sl 2 0 ot nt 1))]) (fn := Tryd.f26) (c := bodyOf Tryd.f26) (fuel := 300) (k := kOf Tryd.prog Tryd.f26) (outs := [260]) (hs := [(3, ⟨.ask, some (.aggi .u8 k)⟩), (4, ⟨.ask, some (.aggi .u8 nn)⟩), (6, ⟨.call [0, 2] (.c (.sl 100 0 0 nt 1)) [] [(100, (.one ⟨true, false, (.ints .u8 (W.apply k 1 nn (List.take nt (List.drop ot lt))))⟩))], none⟩), (10, ⟨.ask, none⟩), (11, ⟨.ask, some (.aggi .u8 k)⟩), (12, ⟨.ask, some (.aggi .u8 nn)⟩), (15, ⟨.call [0, 1, 100] (.c (.sl 244 0 0 16 1)) [] [(244, (.one ⟨true, true, (.ints .u8 (W.boxTag k nn (List.take na (List.drop oa la)) (List.take nt (W.apply k 1 nn (List.take nt (List.drop ot lt))))))⟩))], none⟩), (16, ⟨.ask, some (.c (.sl 260 0 0 (nt + 16) 1))⟩)])
    (cs := [((.c (.sl 260 0 0 (addO nt 16) 1)) : V) = (.c (.sl 260 0 0 (nt + 16) 1)),
      ((16 : Nat) ≤ (16 : Nat) ∧ (2 : Nat) * (nt + (16 : Nat)) ≤ (4398046511104 : Nat) ∧ (0 : Nat) + nt * (1 : Nat) ≤ List.length (List.take nt (W.apply k (1 : Int) nn (List.take nt (List.drop ot lt))))),
      Contract Tryd.prog 75 [(.aggi .u8 k), (.aggi .u8 nn), (.c (.sl 1 0 oa na 1)), (.c (.sl 100 0 0 nt 1))] [(0, (.many (fun j_ => some ⟨false, false, (.ints (W.gk j_) (G j_))⟩))), (1, (.one ⟨false, false, (.ints .u8 la)⟩)), (100, (.one ⟨true, false, (.ints .u8 (W.apply k 1 nn (List.take nt (List.drop ot lt))))⟩))] 244 (.c (.sl 244 0 0 16 1)) [] [(244, (.one ⟨true, true, (.ints .u8 (W.boxTag k nn (List.take na (List.drop oa la)) (List.take nt (W.apply k 1 nn (List.take nt (List.drop ot lt))))))⟩))],
      ((.aggi .u8 (List.take 12 nn)) : V) = (.aggi .u8 nn),
      ((12 : Nat) ≤ List.length nn),
      ((.aggi .u8 (List.take 32 k)) : V) = (.aggi .u8 k),
      ((32 : Nat) ≤ List.length k),
      ((0 : Nat) + nt * (1 : Nat) ≤ List.length (W.apply k (1 : Int) nn (List.take nt (List.drop ot lt))) ∧ (2 : Nat) * ((0 : Nat) + nt) ≤ (4398046511104 : Nat) ∧ (0 : Nat) ≤ (0 : Nat)),
      Contract Tryd.prog 74 [(.aggi .u8 k), (.c (.int .u32 1)), (.aggi .u8 nn), (.c (.sl 2 0 ot nt 1))] [(0, (.many (fun j_ => some ⟨false, false, (.ints (W.gk j_) (G j_))⟩))), (2, (.one ⟨false, false, (.ints .u8 lt)⟩))] 100 (.c (.sl 100 0 0 nt 1)) [] [(100, (.one ⟨true, false, (.ints .u8 (W.apply k 1 nn (List.take nt (List.drop ot lt))))⟩))],
      ((.aggi .u8 (List.take 12 nn)) : V) = (.aggi .u8 nn),
      ((12 : Nat) ≤ List.length nn),
      ((.aggi .u8 (List.take 32 k)) : V) = (.aggi .u8 k),
      ((32 : Nat) ≤ List.length k)])
    mixed Tryd.func26 (by kernel_rfl) (by kernel_rfl) (by kernel_rfl) (by kernel_rfl) (by kernel_rfl) ⟨EV.sl (by rfl) (by simp only [addO_eq, mulE_eq, mulE_one, Int.toNat_natCast, IntKind.wrap_i64, mmin, mmax]), (by simp only [and_true, List.length_set, List.length_append, List.length_replicate, List.length_take, List.length_drop, List.length_map, List.length_cons, List.length_nil, List.length_zipWith, splice_len1, W.le_len, W.bts_len, Int.toNat_natCast, addO_eq, mulE_eq, mulE_one, W.once_len, W.block_len, W.p8_len, W.apply_len, W.boxTag_len, W.box_len, W.nonce_len, W.zs_len]; omega), Contract0.instG (rtagof_ok k nn la (W.apply k 1 nn (List.take nt (List.drop ot lt))) oa na 0 nt G (by omega) (by omega) (by omega) (by omega) (by omega) (by omega) (by simp only [and_true, List.length_set, List.length_append, List.length_replicate, List.length_take, List.length_drop, List.length_map, List.length_cons, List.length_nil, List.length_zipWith, splice_len1, W.le_len, W.bts_len, Int.toNat_natCast, addO_eq, mulE_eq, mulE_one, W.once_len, W.block_len, W.p8_len, W.apply_len, W.boxTag_len, W.box_len, W.nonce_len, W.zs_len]; omega) (by omega) (by omega) (by repeat' with_reducible first | assumption | exact W.p8_bytes | exact W.bytes_zero | exact W.apply_bytes | exact W.once_bytes | exact W.tag_bytes | exact W.boxTag_bytes | exact W.box_bytes | exact W.bytes_nil | exact W.bts_bytes | exact W.le_bytes | exact W.zs_bytes | apply W.bytes_app | apply W.bytes_take | apply W.bytes_drop)) pr_glob [.b 1 1 true [], .b 100 2 true []] [none, none, none, none] [(4, 244)] [] rfl (by kernel_rfl) (by kernel_rfl) (by kernel_rfl) (by kernel_rfl) (by kernel_rfl), EV.aggi (List.take_of_length_le (by omega)), (by omega), EV.aggi (List.take_of_length_le (by omega)), (by omega), (by simp only [and_true, List.length_set, List.length_append, List.length_replicate, List.length_take, List.length_drop, List.length_map, List.length_cons, List.length_nil, List.length_zipWith, splice_len1, W.le_len, W.bts_len, Int.toNat_natCast, addO_eq, mulE_eq, mulE_one, W.once_len, W.block_len, W.p8_len, W.apply_len, W.boxTag_len, W.box_len, W.nonce_len, W.zs_len]; omega), Contract0.instG (rapply_ok k nn lt 1 ot nt G (by omega) (by omega) (by omega) (by omega) (by omega) (by omega) (by omega) (by omega)) pr_glob [.b 2 1 true []] [none, none, none, none] [(3, 100)] [] rfl (by kernel_rfl) (by kernel_rfl) (by kernel_rfl) (by kernel_rfl) (by kernel_rfl), EV.aggi (List.take_of_length_le (by omega)), (by omega), EV.aggi (List.take_of_length_le (by omega)), (by omega), trivial⟩)) pr_glob [.b 1 1 true, .b 2 2 true] [] [(260, 4)] [] rfl (by kernel_rfl) (by kernel_rfl) (by kernel_rfl) (by kernel_rfl) (by kernel_rfl))


end Go.Proofs.YtmfnldkiaodkpaaDoor.Vm

namespace Go.Proofs.YtmfnldkiaodkpaaDoor.W
open Go Go.Proofs.YtmfnldkiaodkpaaDoor.Vm
theorem bytes_splice {l : List Int} {o : Nat} {x : Int} (h : bytes l) (hx : 0 ≤ x ∧ x < 256) : bytes (splice l o [x]) := by
  intro y hy
  have hy : y ∈ l.set o x := by simpa only [splice] using hy
  rcases List.mem_or_eq_of_mem_set hy with hy | hy
  · exact h y hy
  · subst hy; exact hx
theorem bXor_byte {a b : Int} : 0 ≤ bXor .u8 a b ∧ bXor .u8 a b < 256 := bXor8_byte a b
end Go.Proofs.YtmfnldkiaodkpaaDoor.W
namespace Go.Proofs.YtmfnldkiaodkpaaDoor.Vm
open Go Go.Proofs Go.Proofs.YtmfnldkiaodkpaaDoor
end Go.Proofs.YtmfnldkiaodkpaaDoor.Vm
