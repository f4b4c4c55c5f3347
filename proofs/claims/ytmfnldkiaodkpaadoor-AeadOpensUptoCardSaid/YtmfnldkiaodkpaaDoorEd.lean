/- What functions of the program come to: parts of the walk (Ed). -/
import Derived.Test.YtmfnldkiaodkpaaDoorEc
import Derived.KernelRfl
import Derived.Test.YtmfnldkiaodkpaaDoorProg
import Derived.Test.YtmfnldkiaodkpaaDoorOe
set_option linter.unusedSimpArgs false
set_option linter.unusedVariables false
namespace Go.Proofs.YtmfnldkiaodkpaaDoor.Vm
open Go Go.Proofs Go.Proofs.YtmfnldkiaodkpaaDoor
set_option maxRecDepth 100000
theorem rseal_ok (k nn la lt : List Int) (oa na ot nt : Nat) (G : Nat → List Int)
    (hk : k.length = 32)
    (hnn : nn.length = 12)
    (hkb : W.bytes k)
    (hnb : W.bytes nn)
    (hG : G 2 = W.rows)
    (hla : oa + na ≤ la.length)
    (hlt : ot + nt ≤ lt.length)
    (hs : na + nt ≤ 2000000)
    (hba : W.bytes la)
    (hbt : W.bytes lt) :
    Contract0 Tryd.prog 26 [(.aggi .u8 k), (.aggi .u8 nn), (.c (.sl 1 0 oa na 1)), (.c (.sl 2 0 ot nt 1))] [(0, (.many (fun j_ => some ⟨false, false, (.ints (W.gk j_) (G j_))⟩))), (1, (.one ⟨false, false, (.ints .u8 la)⟩)), (2, (.one ⟨false, false, (.ints .u8 lt)⟩))] 4 (.c (.sl 4 0 0 (nt + 16) 1)) [] [(4, (.one ⟨true, false, (.ints .u8 (W.box k nn (List.take na (List.drop oa la)) (List.take nt (List.drop ot lt))))⟩))] :=
  Contract0.told (res := (.c (.sl 4 0 0 (nt + 16) 1))) (up := [(4, (.one ⟨true, false, (.ints .u8 (List.take nt (List.take nt (W.apply k 1 nn (List.take nt (List.drop ot lt)))) ++ List.take 16 (W.boxTag k nn (List.take na (List.drop oa la)) (List.take nt (W.apply k 1 nn (List.take nt (List.drop ot lt)))))))⟩))]) (res' := (.c (.sl 4 0 0 (nt + 16) 1))) (up' := [(4, (.one ⟨true, false, (.ints .u8 (W.box k nn (List.take na (List.drop oa la)) (List.take nt (List.drop ot lt))))⟩))]) (by rfl) (by rw [tk1, box_eq hlt]) (Contract0.renumG (Contract0.unkill pr_glob (Contract0.of_frun (res := (.c (.sl 260 0 0 (nt + 16) 1))) (up := [(260, (.one ⟨true, false, (.ints .u8 (List.take nt (List.take nt (W.apply k 1 nn (List.take nt (List.drop ot lt)))) ++ List.take 16 (W.boxTag k nn (List.take na (List.drop oa la)) (List.take nt (W.apply k 1 nn (List.take nt (List.drop ot lt)))))))⟩))]) (kill := [0]) (n0 := 4) (m := [(0, (.many (fun j_ => some ⟨false, false, (.ints (W.gk j_) (G j_))⟩))), (1, (.one ⟨false, false, (.ints .u8 la)⟩)), (2, (.one ⟨false, false, (.ints .u8 lt)⟩))]) (args := [(.aggi .u8 k), (.aggi .u8 nn), (.c (.sl 1 0 oa na 1)), (.c (.sl 2 0 ot nt 1))]) (fn := Tryd.f26) (c := bodyOf Tryd.f26) (fuel := 300) (k := kOf Tryd.prog Tryd.f26) (outs := [260]) (hs := [(3, ⟨.ask, some (.aggi .u8 k)⟩), (4, ⟨.ask, some (.aggi .u8 nn)⟩), (6, ⟨.call [0, 2] (.c (.sl 100 0 0 nt 1)) [] [(100, (.one ⟨true, false, (.ints .u8 (W.apply k 1 nn (List.take nt (List.drop ot lt))))⟩))], none⟩), (10, ⟨.ask, none⟩), (11, ⟨.ask, some (.aggi .u8 k)⟩), (12, ⟨.ask, some (.aggi .u8 nn)⟩), (15, ⟨.call [0, 1, 100] (.c (.sl 244 0 0 16 1)) [] [(244, (.one ⟨true, true, (.ints .u8 (W.boxTag k nn (List.take na (List.drop oa la)) (List.take nt (W.apply k 1 nn (List.take nt (List.drop ot lt))))))⟩))], none⟩), (16, ⟨.ask, some (.c (.sl 260 0 0 (nt + 16) 1))⟩)])
    (cs := [((.c (.sl 260 0 0 (addO nt 16) 1)) : V) = (.c (.sl 260 0 0 (nt + 16) 1)),
      ((16 : Nat) ≤ (16 : Nat) ∧ (2 : Nat) * (nt + (16 : Nat)) ≤ (4398046511104 : Nat) ∧ (0 : Nat) + nt * (1 : Nat) ≤ List.length (List.take nt (W.apply k (1 : Int) nn (List.take nt (List.drop ot lt))))),
      Contract Tryd.prog 75 [(.aggi .u8 k), (.aggi .u8 nn), (.c (.sl 1 0 oa na 1)), (.c (.sl 100 0 0 nt 1))] [(0, (.many (fun j_ => some ⟨false, false, (.ints (W.gk j_) (G j_))⟩))), (1, (.one ⟨false, false, (.ints .u8 la)⟩)), (100, (.one ⟨true, false, (.ints .u8 (W.apply k 1 nn (List.take nt (List.drop ot lt))))⟩))] 244 (.c (.sl 244 0 0 16 1)) [] [(244, (.one ⟨true, true, (.ints .u8 (W.boxTag k nn (List.take na (List.drop oa la)) (List.take nt (W.apply k 1 nn (List.take nt (List.drop ot lt))))))⟩))],
      ((.aggi .u8 (List.take 12 nn)) : V) = (.aggi .u8 nn),
      ((12 : Nat) ≤ List.length nn),
      ((.aggi .u8 (List.take 32 k)) : V) = (.aggi .u8 k),
      ((32 : Nat) ≤ List.length k),
      ((0 : Nat) + nt * (1 : Nat) ≤ List.length (W.apply k (1 : Int) nn (List.take nt (List.drop ot lt))) ∧ (2 : Nat) * ((0 : Nat) + nt) ≤ (4398046511104 : Nat) ∧ (0 : Nat) ≤ (0 : Nat)),
      Contract Tryd.prog 74 [(.aggi .u8 k), (.c (.int .u32 1)), (.aggi .u8 nn), (.c (.sl 2 0 ot nt 1))] [(0, (.many (fun j_ => some ⟨false, false, (.ints (W.gk j_) (G j_))⟩))), (2, (.one ⟨false, false, (.ints .u8 lt)⟩))] 100 (.c (.sl 100 0 0 nt 1)) [] [(100, (.one ⟨true, false, (.ints .u8 (W.apply k 1 nn (List.take nt (List.drop ot lt))))⟩))],
      ((.aggi .u8 (List.take 12 nn)) : V) = (.aggi .u8 nn),
      ((12 : Nat) ≤ List.length nn),
      ((.aggi .u8 (List.take 32 k)) : V) = (.aggi .u8 k),
      ((32 : Nat) ≤ List.length k)])
    mixed Tryd.func26 (by kernel_rfl) (by kernel_rfl) (by kernel_rfl) (by kernel_rfl) (by kernel_rfl) ⟨EV.sl (by rfl) (by simp only [addO_eq, mulE_eq, mulE_one, Int.toNat_natCast, IntKind.wrap_i64, mmin, mmax]), (by simp only [and_true, List.length_set, List.length_append, List.length_replicate, List.length_take, List.length_drop, List.length_map, List.length_cons, List.length_nil, List.length_zipWith, splice_len1, W.le_len, W.bts_len, Int.toNat_natCast, addO_eq, mulE_eq, mulE_one, W.once_len, W.block_len, W.p8_len, W.apply_len, W.boxTag_len, W.box_len, W.nonce_len, W.zs_len]; omega), Contract0.instG (rtagof_ok k nn la (W.apply k 1 nn (List.take nt (List.drop ot lt))) oa na 0 nt G (by omega) (by omega) (by omega) (by omega) (by omega) (by omega) (by simp only [and_true, List.length_set, List.length_append, List.length_replicate, List.length_take, List.length_drop, List.length_map, List.length_cons, List.length_nil, List.length_zipWith, splice_len1, W.le_len, W.bts_len, Int.toNat_natCast, addO_eq, mulE_eq, mulE_one, W.once_len, W.block_len, W.p8_len, W.apply_len, W.boxTag_len, W.box_len, W.nonce_len, W.zs_len]; omega) (by omega) (by omega) (by repeat' with_reducible first | assumption | exact W.p8_bytes | exact W.bytes_zero | exact W.apply_bytes | exact W.once_bytes | exact W.tag_bytes | exact W.boxTag_bytes | exact W.box_bytes | exact W.bytes_nil | exact W.bts_bytes | exact W.le_bytes | exact W.zs_bytes | apply W.bytes_app | apply W.bytes_take | apply W.bytes_drop)) pr_glob [.b 1 1 true [], .b 100 2 true []] [none, none, none, none] [(4, 244)] [] rfl (by kernel_rfl) (by kernel_rfl) (by kernel_rfl) (by kernel_rfl) (by kernel_rfl), EV.aggi (List.take_of_length_le (by omega)), (by omega), EV.aggi (List.take_of_length_le (by omega)), (by omega), (by simp only [and_true, List.length_set, List.length_append, List.length_replicate, List.length_take, List.length_drop, List.length_map, List.length_cons, List.length_nil, List.length_zipWith, splice_len1, W.le_len, W.bts_len, Int.toNat_natCast, addO_eq, mulE_eq, mulE_one, W.once_len, W.block_len, W.p8_len, W.apply_len, W.boxTag_len, W.box_len, W.nonce_len, W.zs_len]; omega), Contract0.instG (rapply_ok k nn lt 1 ot nt G (by omega) (by omega) (by omega) (by omega) (by omega) (by omega) (by omega) (by omega)) pr_glob [.b 2 1 true []] [none, none, none, none] [(3, 100)] [] rfl (by kernel_rfl) (by kernel_rfl) (by kernel_rfl) (by kernel_rfl) (by kernel_rfl), EV.aggi (List.take_of_length_le (by omega)), (by omega), EV.aggi (List.take_of_length_le (by omega)), (by omega), trivial⟩)) pr_glob [.b 1 1 true, .b 2 2 true] [] [(260, 4)] [] rfl (by kernel_rfl) (by kernel_rfl) (by kernel_rfl) (by kernel_rfl) (by kernel_rfl))


theorem ropen_t (k nn la lt : List Int) (oa na ot nt : Nat) (G : Nat → List Int)
    (hk : k.length = 32)
    (hnn : nn.length = 12)
    (hkb : W.bytes k)
    (hnb : W.bytes nn)
    (hG : G 2 = W.rows)
    (hla : oa + na ≤ la.length)
    (hlt : ot + nt ≤ lt.length)
    (hs : na + nt ≤ 2000000)
    (hba : W.bytes la)
    (hbt : W.bytes lt)
    (h0 : ((↑nt : Int) < (16 : Int))) :
    Contract0 Tryd.prog 31 [(.aggi .u8 k), (.aggi .u8 nn), (.c (.sl 1 0 oa na 1)), (.c (.sl 2 0 ot nt 1))] [(0, (.many (fun j_ => some ⟨false, false, (.ints (W.gk j_) (G j_))⟩))), (1, (.one ⟨false, false, (.ints .u8 la)⟩)), (2, (.one ⟨false, false, (.ints .u8 lt)⟩))] 4 (.tup [(.c .nils), (.c (.int .i64 1))]) [] [] :=
  Contract0.unkill pr_glob (Contract0.of_frun (res := (.tup [(.c .nils), (.c (.int .i64 1))])) (up := []) (kill := [0]) (n0 := 4) (m := [(0, (.many (fun j_ => some ⟨false, false, (.ints (W.gk j_) (G j_))⟩))), (1, (.one ⟨false, false, (.ints .u8 la)⟩)), (2, (.one ⟨false, false, (.ints .u8 lt)⟩))]) (args := [(.aggi .u8 k), (.aggi .u8 nn), (.c (.sl 1 0 oa na 1)), (.c (.sl 2 0 ot nt 1))]) (fn := Tryd.f31) (c := bodyOf Tryd.f31) (fuel := 300) (k := kOf Tryd.prog Tryd.f31) (outs := []) (hs := [(6, ⟨.auto, some (.c (.bool (true)))⟩)])
    (cs := [EB (decide ((↑nt : Int) < 16)) true])
    mixed Tryd.func31 (by kernel_rfl) (by kernel_rfl) (by kernel_rfl) (by kernel_rfl) (by kernel_rfl) ⟨.mk (decide_eq_true h0), trivial⟩)

theorem ropen_ft (k nn la lt : List Int) (oa na ot nt : Nat) (G : Nat → List Int)
    (hk : k.length = 32)
    (hnn : nn.length = 12)
    (hkb : W.bytes k)
    (hnb : W.bytes nn)
    (hG : G 2 = W.rows)
    (hla : oa + na ≤ la.length)
    (hlt : ot + nt ≤ lt.length)
    (hs : na + nt ≤ 2000000)
    (hba : W.bytes la)
    (hbt : W.bytes lt)
    (h0 : (¬(↑nt : Int) < (16 : Int)))
    (h1 : (List.take (16 : Nat) (List.drop (0 : Nat) (W.boxTag k nn (List.take na (List.drop oa la)) (List.take (nt - (16 : Nat)) (List.drop ot lt)))) = List.take (16 : Nat) (List.drop (ot + (nt - (16 : Nat))) lt))) :
    Contract0 Tryd.prog 31 [(.aggi .u8 k), (.aggi .u8 nn), (.c (.sl 1 0 oa na 1)), (.c (.sl 2 0 ot nt 1))] [(0, (.many (fun j_ => some ⟨false, false, (.ints (W.gk j_) (G j_))⟩))), (1, (.one ⟨false, false, (.ints .u8 la)⟩)), (2, (.one ⟨false, false, (.ints .u8 lt)⟩))] 4 (.tup [(.c (.sl 4 0 0 (nt - 16) 1)), (.c (.int .i64 0))]) [] [(4, (.one ⟨true, false, (.ints .u8 (W.apply k 1 nn (List.take (nt - 16) (List.drop ot lt))))⟩))] :=
  Contract0.renumG (Contract0.unkill pr_glob (Contract0.of_frun (res := (.tup [(.c (.sl 468 0 0 (nt - 16) 1)), (.c (.int .i64 0))])) (up := [(468, (.one ⟨true, false, (.ints .u8 (W.apply k 1 nn (List.take (nt - 16) (List.drop ot lt))))⟩))]) (kill := [0]) (n0 := 4) (m := [(0, (.many (fun j_ => some ⟨false, false, (.ints (W.gk j_) (G j_))⟩))), (1, (.one ⟨false, false, (.ints .u8 la)⟩)), (2, (.one ⟨false, false, (.ints .u8 lt)⟩))]) (args := [(.aggi .u8 k), (.aggi .u8 nn), (.c (.sl 1 0 oa na 1)), (.c (.sl 2 0 ot nt 1))]) (fn := Tryd.f31) (c := bodyOf Tryd.f31) (fuel := 300) (k := kOf Tryd.prog Tryd.f31) (outs := [468]) (hs := [(6, ⟨.auto, some (.c (.bool (false)))⟩), (11, ⟨.auto, some (.c (.int .i64 (↑(nt - 16))))⟩), (12, ⟨.ask, some (.c (.sl 2 0 ot (nt - 16) 1))⟩), (14, ⟨.ask, some (.aggi .u8 k)⟩), (15, ⟨.ask, some (.aggi .u8 nn)⟩), (18, ⟨.call [0, 1, 2] (.c (.sl 276 0 0 16 1)) [] [(276, (.one ⟨true, true, (.ints .u8 (W.boxTag k nn (List.take na (List.drop oa la)) (List.take (nt - 16) (List.drop ot lt))))⟩))], none⟩), (23, ⟨.auto, some (.c (.int .i64 (↑(nt - 16))))⟩), (24, ⟨.ask, some (.c (.sl 2 0 (ot + (nt - 16)) 16 1))⟩), (25, ⟨.ask, none⟩), (26, ⟨.ask, some (.c (.bool (false)))⟩), (28, ⟨.ask, some (.aggi .u8 k)⟩), (29, ⟨.ask, some (.aggi .u8 nn)⟩), (31, ⟨.call [0, 2] (.c (.sl 468 0 0 (nt - 16) 1)) [] [(468, (.one ⟨true, false, (.ints .u8 (W.apply k 1 nn (List.take (nt - 16) (List.drop ot lt))))⟩))], none⟩)])
    (cs := [Contract Tryd.prog 74 [(.aggi .u8 k), (.c (.int .u32 1)), (.aggi .u8 nn), (.c (.sl 2 0 ot (nt - 16) 1))] [(0, (.many (fun j_ => some ⟨false, false, (.ints (W.gk j_) (G j_))⟩))), (2, (.one ⟨false, false, (.ints .u8 lt)⟩))] 468 (.c (.sl 468 0 0 (nt - 16) 1)) [] [(468, (.one ⟨true, false, (.ints .u8 (W.apply k 1 nn (List.take (nt - 16) (List.drop ot lt))))⟩))],
      ((.aggi .u8 (List.take 12 nn)) : V) = (.aggi .u8 nn),
      ((12 : Nat) ≤ List.length nn),
      ((.aggi .u8 (List.take 32 k)) : V) = (.aggi .u8 k),
      ((32 : Nat) ≤ List.length k),
      EB (!ByteArray.toList { data := List.toArray (List.map (fun n => UInt8.ofNat (Int.toNat n)) (List.take 16 (List.drop 0 (W.boxTag k nn (List.take na (List.drop oa la)) (List.take (nt - 16) (List.drop ot lt)))))) } == ByteArray.toList { data := List.toArray (List.map (fun n => UInt8.ofNat (Int.toNat n)) (List.take 16 (List.drop (ot + (nt - 16)) lt))) }) false,
      (ot + (nt - (16 : Nat)) + (16 : Nat) ≤ List.length lt),
      ((.c (.sl 2 0 (addO ot (nt - 16)) (Int.toNat (↑nt - ↑(nt - 16))) 1)) : V) = (.c (.sl 2 0 (ot + (nt - 16)) 16 1)),
      ((0 : Int) ≤ (↑(nt - (16 : Nat)) : Int) ∧ (↑(nt - (16 : Nat)) : Int) ≤ (↑nt : Int) ∧ (↑nt : Int) ≤ (↑nt : Int)),
      EI .i64 (IntKind.wrap IntKind.i64 ((↑nt : Int) - 16)) ((↑(nt - 16) : Int)),
      Contract Tryd.prog 75 [(.aggi .u8 k), (.aggi .u8 nn), (.c (.sl 1 0 oa na 1)), (.c (.sl 2 0 ot (nt - 16) 1))] [(0, (.many (fun j_ => some ⟨false, false, (.ints (W.gk j_) (G j_))⟩))), (1, (.one ⟨false, false, (.ints .u8 la)⟩)), (2, (.one ⟨false, false, (.ints .u8 lt)⟩))] 276 (.c (.sl 276 0 0 16 1)) [] [(276, (.one ⟨true, true, (.ints .u8 (W.boxTag k nn (List.take na (List.drop oa la)) (List.take (nt - 16) (List.drop ot lt))))⟩))],
      ((.aggi .u8 (List.take 12 nn)) : V) = (.aggi .u8 nn),
      ((12 : Nat) ≤ List.length nn),
      ((.aggi .u8 (List.take 32 k)) : V) = (.aggi .u8 k),
      ((32 : Nat) ≤ List.length k),
      ((.c (.sl 2 0 (addO ot 0) (Int.toNat (↑(nt - 16) - 0)) 1)) : V) = (.c (.sl 2 0 ot (nt - 16) 1)),
      ((0 : Int) ≤ (0 : Int) ∧ (0 : Int) ≤ (↑(nt - (16 : Nat)) : Int) ∧ (↑(nt - (16 : Nat)) : Int) ≤ (↑nt : Int)),
      EI .i64 (IntKind.wrap IntKind.i64 ((↑nt : Int) - 16)) ((↑(nt - 16) : Int)),
      EB (decide ((↑nt : Int) < 16)) false])
    mixed Tryd.func31 (by kernel_rfl) (by kernel_rfl) (by kernel_rfl) (by kernel_rfl) (by kernel_rfl) ⟨Contract0.instG (rapply_ok k nn lt 1 ot (nt - 16) G (by omega) (by omega) (by omega) (by omega) (by omega) (by omega) (by omega) (by omega)) pr_glob [.b 2 1 true []] [none, none, none, none] [(3, 468)] [] rfl (by kernel_rfl) (by kernel_rfl) (by kernel_rfl) (by kernel_rfl) (by kernel_rfl), EV.aggi (List.take_of_length_le (by omega)), (by omega), EV.aggi (List.take_of_length_le (by omega)), (by omega), .mk (not_f (strEq_t h1)), (by omega), EV.sl (by simp only [addO_eq, mulE_eq, mulE_one, Int.toNat_natCast, IntKind.wrap_i64, mmin, mmax]) (by omega), (by omega), .mk (by simp only [addO_eq, mulE_eq, mulE_one, Int.toNat_natCast, IntKind.wrap_i64, mmin, mmax]; omega), Contract0.instG (rtagof_ok k nn la lt oa na ot (nt - 16) G (by omega) (by omega) (by omega) (by omega) (by omega) (by omega) (by omega) (by omega) (by omega) (by omega)) pr_glob [.b 1 1 true [], .b 2 2 true []] [none, none, none, none] [(4, 276)] [] rfl (by kernel_rfl) (by kernel_rfl) (by kernel_rfl) (by kernel_rfl) (by kernel_rfl), EV.aggi (List.take_of_length_le (by omega)), (by omega), EV.aggi (List.take_of_length_le (by omega)), (by omega), EV.sl (by simp only [addO_eq, mulE_eq, mulE_one, Int.toNat_natCast, IntKind.wrap_i64, mmin, mmax]; omega) (by rfl), (by omega), .mk (by simp only [addO_eq, mulE_eq, mulE_one, Int.toNat_natCast, IntKind.wrap_i64, mmin, mmax]; omega), .mk (decide_eq_false h0), trivial⟩)) pr_glob [.b 1 1 true, .b 2 2 true] [] [(468, 4)] [] rfl (by kernel_rfl) (by kernel_rfl) (by kernel_rfl) (by kernel_rfl) (by kernel_rfl)

theorem ropen_ff (k nn la lt : List Int) (oa na ot nt : Nat) (G : Nat → List Int)
    (hk : k.length = 32)
    (hnn : nn.length = 12)
    (hkb : W.bytes k)
    (hnb : W.bytes nn)
    (hG : G 2 = W.rows)
    (hla : oa + na ≤ la.length)
    (hlt : ot + nt ≤ lt.length)
    (hs : na + nt ≤ 2000000)
    (hba : W.bytes la)
    (hbt : W.bytes lt)
    (h0 : (¬(↑nt : Int) < (16 : Int)))
    (h1 : (¬List.take (16 : Nat) (List.drop (0 : Nat) (W.boxTag k nn (List.take na (List.drop oa la)) (List.take (nt - (16 : Nat)) (List.drop ot lt)))) = List.take (16 : Nat) (List.drop (ot + (nt - (16 : Nat))) lt))) :
    Contract0 Tryd.prog 31 [(.aggi .u8 k), (.aggi .u8 nn), (.c (.sl 1 0 oa na 1)), (.c (.sl 2 0 ot nt 1))] [(0, (.many (fun j_ => some ⟨false, false, (.ints (W.gk j_) (G j_))⟩))), (1, (.one ⟨false, false, (.ints .u8 la)⟩)), (2, (.one ⟨false, false, (.ints .u8 lt)⟩))] 4 (.tup [(.c .nils), (.c (.int .i64 2))]) [] [] :=
  Contract0.unkill pr_glob (Contract0.of_frun (res := (.tup [(.c .nils), (.c (.int .i64 2))])) (up := []) (kill := [0]) (n0 := 4) (m := [(0, (.many (fun j_ => some ⟨false, false, (.ints (W.gk j_) (G j_))⟩))), (1, (.one ⟨false, false, (.ints .u8 la)⟩)), (2, (.one ⟨false, false, (.ints .u8 lt)⟩))]) (args := [(.aggi .u8 k), (.aggi .u8 nn), (.c (.sl 1 0 oa na 1)), (.c (.sl 2 0 ot nt 1))]) (fn := Tryd.f31) (c := bodyOf Tryd.f31) (fuel := 300) (k := kOf Tryd.prog Tryd.f31) (outs := []) (hs := [(6, ⟨.auto, some (.c (.bool (false)))⟩), (11, ⟨.auto, some (.c (.int .i64 (↑(nt - 16))))⟩), (12, ⟨.ask, some (.c (.sl 2 0 ot (nt - 16) 1))⟩), (14, ⟨.ask, some (.aggi .u8 k)⟩), (15, ⟨.ask, some (.aggi .u8 nn)⟩), (18, ⟨.call [0, 1, 2] (.c (.sl 276 0 0 16 1)) [] [(276, (.one ⟨true, true, (.ints .u8 (W.boxTag k nn (List.take na (List.drop oa la)) (List.take (nt - 16) (List.drop ot lt))))⟩))], none⟩), (23, ⟨.auto, some (.c (.int .i64 (↑(nt - 16))))⟩), (24, ⟨.ask, some (.c (.sl 2 0 (ot + (nt - 16)) 16 1))⟩), (25, ⟨.ask, none⟩), (26, ⟨.ask, some (.c (.bool (true)))⟩)])
    (cs := [EB (!ByteArray.toList { data := List.toArray (List.map (fun n => UInt8.ofNat (Int.toNat n)) (List.take 16 (List.drop 0 (W.boxTag k nn (List.take na (List.drop oa la)) (List.take (nt - 16) (List.drop ot lt)))))) } == ByteArray.toList { data := List.toArray (List.map (fun n => UInt8.ofNat (Int.toNat n)) (List.take 16 (List.drop (ot + (nt - 16)) lt))) }) true,
      (ot + (nt - (16 : Nat)) + (16 : Nat) ≤ List.length lt),
      ((.c (.sl 2 0 (addO ot (nt - 16)) (Int.toNat (↑nt - ↑(nt - 16))) 1)) : V) = (.c (.sl 2 0 (ot + (nt - 16)) 16 1)),
      ((0 : Int) ≤ (↑(nt - (16 : Nat)) : Int) ∧ (↑(nt - (16 : Nat)) : Int) ≤ (↑nt : Int) ∧ (↑nt : Int) ≤ (↑nt : Int)),
      EI .i64 (IntKind.wrap IntKind.i64 ((↑nt : Int) - 16)) ((↑(nt - 16) : Int)),
      Contract Tryd.prog 75 [(.aggi .u8 k), (.aggi .u8 nn), (.c (.sl 1 0 oa na 1)), (.c (.sl 2 0 ot (nt - 16) 1))] [(0, (.many (fun j_ => some ⟨false, false, (.ints (W.gk j_) (G j_))⟩))), (1, (.one ⟨false, false, (.ints .u8 la)⟩)), (2, (.one ⟨false, false, (.ints .u8 lt)⟩))] 276 (.c (.sl 276 0 0 16 1)) [] [(276, (.one ⟨true, true, (.ints .u8 (W.boxTag k nn (List.take na (List.drop oa la)) (List.take (nt - 16) (List.drop ot lt))))⟩))],
      ((.aggi .u8 (List.take 12 nn)) : V) = (.aggi .u8 nn),
      ((12 : Nat) ≤ List.length nn),
      ((.aggi .u8 (List.take 32 k)) : V) = (.aggi .u8 k),
      ((32 : Nat) ≤ List.length k),
      ((.c (.sl 2 0 (addO ot 0) (Int.toNat (↑(nt - 16) - 0)) 1)) : V) = (.c (.sl 2 0 ot (nt - 16) 1)),
      ((0 : Int) ≤ (0 : Int) ∧ (0 : Int) ≤ (↑(nt - (16 : Nat)) : Int) ∧ (↑(nt - (16 : Nat)) : Int) ≤ (↑nt : Int)),
      EI .i64 (IntKind.wrap IntKind.i64 ((↑nt : Int) - 16)) ((↑(nt - 16) : Int)),
      EB (decide ((↑nt : Int) < 16)) false])
    mixed Tryd.func31 (by kernel_rfl) (by kernel_rfl) (by kernel_rfl) (by kernel_rfl) (by kernel_rfl) ⟨.mk (not_t (strEq_f (by repeat' with_reducible first | assumption | exact W.p8_bytes | exact W.bytes_zero | exact W.bytes_nil | exact W.bts_bytes | exact W.boxTag_bytes | exact W.apply_bytes | exact W.box_bytes | exact W.tag_bytes | exact W.le_bytes | apply W.bytes_app | apply W.bytes_take | apply W.bytes_drop) (by repeat' with_reducible first | assumption | exact W.p8_bytes | exact W.bytes_zero | exact W.bytes_nil | exact W.bts_bytes | exact W.boxTag_bytes | exact W.apply_bytes | exact W.box_bytes | exact W.tag_bytes | exact W.le_bytes | apply W.bytes_app | apply W.bytes_take | apply W.bytes_drop) h1)), (by omega), EV.sl (by simp only [addO_eq, mulE_eq, mulE_one, Int.toNat_natCast, IntKind.wrap_i64, mmin, mmax]) (by omega), (by omega), .mk (by simp only [addO_eq, mulE_eq, mulE_one, Int.toNat_natCast, IntKind.wrap_i64, mmin, mmax]; omega), Contract0.instG (rtagof_ok k nn la lt oa na ot (nt - 16) G (by omega) (by omega) (by omega) (by omega) (by omega) (by omega) (by omega) (by omega) (by omega) (by omega)) pr_glob [.b 1 1 true [], .b 2 2 true []] [none, none, none, none] [(4, 276)] [] rfl (by kernel_rfl) (by kernel_rfl) (by kernel_rfl) (by kernel_rfl) (by kernel_rfl), EV.aggi (List.take_of_length_le (by omega)), (by omega), EV.aggi (List.take_of_length_le (by omega)), (by omega), EV.sl (by simp only [addO_eq, mulE_eq, mulE_one, Int.toNat_natCast, IntKind.wrap_i64, mmin, mmax]; omega) (by rfl), (by omega), .mk (by simp only [addO_eq, mulE_eq, mulE_one, Int.toNat_natCast, IntKind.wrap_i64, mmin, mmax]; omega), .mk (decide_eq_false h0), trivial⟩)


end Go.Proofs.YtmfnldkiaodkpaaDoor.Vm

namespace Go.Proofs.YtmfnldkiaodkpaaDoor.W
open Go Go.Proofs.YtmfnldkiaodkpaaDoor.Vm
theorem bytes_splice {l : List Int} {o : Nat} {x : Int} (h : bytes l) (hx : 0 ≤ x ∧ x < 256) : bytes (splice l o [x]) := by
  intro y hy
  have hy : y ∈ l.set o x := by simpa only [splice] using hy
  rcases List.mem_or_eq_of_mem_set hy with hy | hy
  · exact h y hy
  · subst hy; exact hx
theorem bXor_byte {a b : Int} : 0 ≤ bXor .u8 a b ∧ bXor .u8 a b < 256 := bXor8_byte a b
end Go.Proofs.YtmfnldkiaodkpaaDoor.W
namespace Go.Proofs.YtmfnldkiaodkpaaDoor.Vm
open Go Go.Proofs Go.Proofs.YtmfnldkiaodkpaaDoor
theorem lensD : (∀ (l : List Int) (i : Nat) (v : Int), (l.set i v).length = l.length) ∧ (∀ (a b : List Int), (a ++ b).length = a.length + b.length) ∧ (∀ (n : Nat) (l : List Int), (List.take n l).length = min n l.length) ∧ (∀ (n : Nat) (l : List Int), (List.drop n l).length = l.length - n) ∧ (∀ (a : Int) (l : List Int), (a :: l).length = l.length + 1) ∧ (([] : List Int).length = 0) ∧
    (∀ (l : List Int) (o : Nat) (x : Int), (splice l o [x]).length = l.length) ∧ (∀ k nn ad t, (W.box k nn ad t).length = t.length + 16) ∧ (∀ k nn ad t, (W.boxTag k nn ad t).length = 16) ∧ (∀ k c nn t, (W.apply k c nn t).length = t.length) ∧ (∀ n, (W.nonce n).length = 12) ∧ (∀ n : Nat, Int.toNat (n : Int) = n) ∧ (∀ o n, addO o n = o + n) ∧ (∀ n es, mulE n es = n * es) ∧ (∀ p : Prop, (p ∧ True) = p) :=
  ⟨fun _ _ _ => List.length_set, fun _ _ => List.length_append, fun _ _ => List.length_take, fun _ _ => List.length_drop, fun _ _ => List.length_cons, rfl, fun _ _ _ => splice_len1, fun _ _ _ _ => W.box_len, fun _ _ _ _ => W.boxTag_len, fun _ _ _ _ => W.apply_len, fun _ => W.nonce_len, fun _ => Int.toNat_natCast _, addO_eq, mulE_eq, fun p => and_true p⟩
theorem ropen_o (k nn la lt : List Int) (oa na ot nt : Nat) (G : Nat → List Int) (hk : k.length = 32) (hnn : nn.length = 12) (hkb : W.bytes k) (hnb : W.bytes nn) (hG : G 2 = W.rows) (hla : oa + na ≤ la.length) (hlt : ot + nt ≤ lt.length) (hs : na + nt ≤ 2000000) (hba : W.bytes la) (hbt : W.bytes lt) (h0 : ¬ (nt : Int) < 16) (h1 : (List.take 16 (List.drop (ot + (nt - 16)) lt) = List.take 16 (W.boxTag k nn (List.take na (List.drop oa la)) (List.take (nt - 16) (List.drop ot lt))))) : Contract0 Tryd.prog 31 [(.aggi .u8 k), (.aggi .u8 nn), (.c (.sl 1 0 oa na 1)), (.c (.sl 2 0 ot nt 1))] [(0, (.many (fun j_ => some ⟨false, false, (.ints (W.gk j_) (G j_))⟩))), (1, (.one ⟨false, false, (.ints .u8 la)⟩)), (2, (.one ⟨false, false, (.ints .u8 lt)⟩))] 4 (.tup [(.c (.sl 4 0 0 (nt - 16) 1)), (.c (.int .i64 0))]) [] [(4, (.one ⟨true, false, (.ints .u8 (W.apply k 1 nn (List.take (nt - 16) (List.drop ot lt))))⟩))] :=
  ropen_ft k nn la lt oa na ot nt G hk hnn hkb hnb hG hla hlt hs hba hbt h0 (by rw [List.drop_zero]; exact h1.symm)
theorem ropen_w (k nn la lt : List Int) (oa na ot nt : Nat) (G : Nat → List Int) (hk : k.length = 32) (hnn : nn.length = 12) (hkb : W.bytes k) (hnb : W.bytes nn) (hG : G 2 = W.rows) (hla : oa + na ≤ la.length) (hlt : ot + nt ≤ lt.length) (hs : na + nt ≤ 2000000) (hba : W.bytes la) (hbt : W.bytes lt) (h0 : ¬ (nt : Int) < 16) (h1 : ¬ (List.take 16 (List.drop (ot + (nt - 16)) lt) = List.take 16 (W.boxTag k nn (List.take na (List.drop oa la)) (List.take (nt - 16) (List.drop ot lt))))) : Contract0 Tryd.prog 31 [(.aggi .u8 k), (.aggi .u8 nn), (.c (.sl 1 0 oa na 1)), (.c (.sl 2 0 ot nt 1))] [(0, (.many (fun j_ => some ⟨false, false, (.ints (W.gk j_) (G j_))⟩))), (1, (.one ⟨false, false, (.ints .u8 la)⟩)), (2, (.one ⟨false, false, (.ints .u8 lt)⟩))] 4 (.tup [(.c .nils), (.c (.int .i64 2))]) [] [] :=
  ropen_ff k nn la lt oa na ot nt G hk hnn hkb hnb hG hla hlt hs hba hbt h0 (by rw [List.drop_zero]; exact fun e => h1 e.symm)
end Go.Proofs.YtmfnldkiaodkpaaDoor.Vm
