/- What functions of the program come to: parts of the walk (Oe). -/
import Derived.Test.YtmfnldkiaodkpaaDoorOd
import Derived.KernelRfl
import Derived.Test.YtmfnldkiaodkpaaDoorProg
set_option linter.unusedSimpArgs false
set_option linter.unusedVariables false
namespace Go.Proofs.YtmfnldkiaodkpaaDoor.Vm
open Go Go.Proofs Go.Proofs.YtmfnldkiaodkpaaDoor
set_option maxRecDepth 100000
theorem pickraw_t (a b : Int)
    (ha : -9223372036854775808 ≤ a ∧ a < 9223372036854775808)
    (hb : 0 < b ∧ b < 4294967296)
    (h0 : (Int.tmod a b < (0 : Int))) :
    PureF Tryd.prog 29 [(.c (.int .i64 a)), (.c (.int .i64 b))] (.c (.int .i64 (IntKind.wrap IntKind.i64 (Int.tmod a b + b)))) :=
  Contract0.of_frun (res := (.c (.int .i64 (IntKind.wrap IntKind.i64 (Int.tmod a b + b))))) (up := []) (kill := []) (n0 := 1) (m := []) (args := [(.c (.int .i64 a)), (.c (.int .i64 b))]) (fn := Tryd.f29) (c := bodyOf Tryd.f29) (fuel := 300) (k := kOf Tryd.prog Tryd.f29) (outs := []) (hs := [(3, ⟨.ask, none⟩), (6, ⟨.auto, some (.c (.bool (true)))⟩)])
    (cs := [EB (decide (Int.tmod a b < 0)) true,
      (b ≠ (0 : Int))])
    mixed Tryd.func29 (by kernel_rfl) (by kernel_rfl) (by kernel_rfl) (by kernel_rfl) (by kernel_rfl) ⟨.mk (decide_eq_true h0), (by omega), trivial⟩

theorem pickraw_f (a b : Int)
    (ha : -9223372036854775808 ≤ a ∧ a < 9223372036854775808)
    (hb : 0 < b ∧ b < 4294967296)
    (h0 : (¬Int.tmod a b < (0 : Int))) :
    PureF Tryd.prog 29 [(.c (.int .i64 a)), (.c (.int .i64 b))] (.c (.int .i64 (Int.tmod a b))) :=
  Contract0.of_frun (res := (.c (.int .i64 (Int.tmod a b)))) (up := []) (kill := []) (n0 := 1) (m := []) (args := [(.c (.int .i64 a)), (.c (.int .i64 b))]) (fn := Tryd.f29) (c := bodyOf Tryd.f29) (fuel := 300) (k := kOf Tryd.prog Tryd.f29) (outs := []) (hs := [(3, ⟨.ask, none⟩), (6, ⟨.auto, some (.c (.bool (false)))⟩)])
    (cs := [EB (decide (Int.tmod a b < 0)) false,
      (b ≠ (0 : Int))])
    mixed Tryd.func29 (by kernel_rfl) (by kernel_rfl) (by kernel_rfl) (by kernel_rfl) (by kernel_rfl) ⟨.mk (decide_eq_false h0), (by omega), trivial⟩


theorem secret1 :
    PureF Tryd.prog 45 [(.c (.int .i64 1))] (.aggi .u8 [134, 225, 85, 118, 129, 181, 81, 74, 247, 131, 105, 122, 38, 89, 224, 106, 12, 217, 196, 114, 123, 151, 182, 36, 175, 30, 61, 74, 47, 207, 74, 184]) :=
  Contract0.of_frun (res := (.aggi .u8 [134, 225, 85, 118, 129, 181, 81, 74, 247, 131, 105, 122, 38, 89, 224, 106, 12, 217, 196, 114, 123, 151, 182, 36, 175, 30, 61, 74, 47, 207, 74, 184])) (up := []) (kill := []) (n0 := 1) (m := []) (args := [(.c (.int .i64 1))]) (fn := Tryd.f45) (c := bodyOf Tryd.f45) (fuel := 300) (k := kOf Tryd.prog Tryd.f45) (outs := []) (hs := [])
    (cs := [])
    mixed Tryd.func45 (by kernel_rfl) (by kernel_rfl) (by kernel_rfl) (by kernel_rfl) (by kernel_rfl) trivial


theorem few_raw (l : List Int) (o n m : Nat)
    (hl : o + n ≤ l.length)
    (hn : n ≤ 1073741824) :
    Contract0 Tryd.prog 23 [(.c (.sl 1 0 o n 1)), (.c (.int .i64 (↑m)))] [(1, (.one ⟨false, false, (.ints .u8 l)⟩))] 2 (.c (.sl 2 0 0 (min n m) 1)) [] [(2, (.one ⟨true, false, (.ints .u8 (List.take (min n m) (List.drop o l)))⟩))] :=
  Contract0.renum (Contract0.of_frun (res := (.c (.sl 130 0 0 (min n m) 1))) (up := [(130, (.one ⟨true, false, (.ints .u8 (List.take (min n m) (List.drop o l)))⟩))]) (kill := []) (n0 := 2) (m := [(1, (.one ⟨false, false, (.ints .u8 l)⟩))]) (args := [(.c (.sl 1 0 o n 1)), (.c (.int .i64 (↑m)))]) (fn := Tryd.f23) (c := bodyOf Tryd.f23) (fuel := 300) (k := kOf Tryd.prog Tryd.f23) (outs := [130]) (hs := [(6, ⟨.auto, some (.c (.int .i64 (↑(min n m))))⟩), (7, ⟨.ask, some (.c (.sl 1 0 o (min n m) 1))⟩), (8, ⟨.ask, none⟩)])
    (cs := [(o + min n m * (1 : Nat) ≤ List.length l ∧ (2 : Nat) * ((0 : Nat) + min n m) ≤ (4398046511104 : Nat) ∧ (0 : Nat) ≤ (0 : Nat)),
      ((.c (.sl 1 0 (addO o 0) (Int.toNat (↑(min n m) - 0)) 1)) : V) = (.c (.sl 1 0 o (min n m) 1)),
      ((0 : Int) ≤ (0 : Int) ∧ (0 : Int) ≤ (↑(min n m) : Int) ∧ (↑(min n m) : Int) ≤ (↑n : Int)),
      EI .i64 (bif decide ((↑m : Int) < (↑n : Int)) then (↑m : Int) else (↑n : Int)) ((↑(min n m) : Int))])
    mixed Tryd.func23 (by kernel_rfl) (by kernel_rfl) (by kernel_rfl) (by kernel_rfl) (by kernel_rfl) ⟨(by omega), EV.sl (by simp only [addO_eq, mulE_eq, mulE_one, Int.toNat_natCast, IntKind.wrap_i64, mmin, mmax]; omega) (by rfl), (by omega), .mk (by simp only [addO_eq, mulE_eq, mulE_one, Int.toNat_natCast, IntKind.wrap_i64, mmin, mmax]; omega), trivial⟩) [.b 1 1 true] [] [(130, 2)] [] (by kernel_rfl) (by kernel_rfl) (by kernel_rfl) (by kernel_rfl) (by kernel_rfl)


end Go.Proofs.YtmfnldkiaodkpaaDoor.Vm

namespace Go.Proofs.YtmfnldkiaodkpaaDoor.W
open Go Go.Proofs.YtmfnldkiaodkpaaDoor.Vm
def pick (a b : Int) : Nat := (a % b).toNat
theorem pick_lt {a b : Int} (h : 0 < b) : (pick a b : Int) < b := by
  have h1 := Int.emod_nonneg a (Int.ne_of_gt h)
  have h2 := Int.emod_lt_of_pos a h
  unfold pick; omega
def handS (z : Int) : Nat → Int
  | 0 => z
  | i + 1 => (handS z i * 6364136223846793005 % 18446744073709551616 + 1442695040888963407) % 18446744073709551616
/-- Bytes of a raw number. -/
def hand (n : Nat) (s : Int) : List Int := (List.range n).map fun i => handS (s % 18446744073709551616) (i + 1) / 1099511627776 % 256
theorem hand_len {n : Nat} {s : Int} : (hand n s).length = n := by simp [hand]
theorem hand_bytes {n : Nat} {s : Int} : bytes (hand n s) := by
  intro x hx
  simp only [hand, List.mem_map] at hx
  obtain ⟨i, _, rfl⟩ := hx
  omega
end Go.Proofs.YtmfnldkiaodkpaaDoor.W
namespace Go.Proofs.YtmfnldkiaodkpaaDoor.Vm
open Go Go.Proofs Go.Proofs.YtmfnldkiaodkpaaDoor
theorem pick_ok (a b : Int) (ha : -9223372036854775808 ≤ a ∧ a < 9223372036854775808) (hb : 0 < b ∧ b < 4294967296) : PureF Tryd.prog 29 [(.c (.int .i64 a)), (.c (.int .i64 b))] (.c (.int .i64 ((W.pick a b : Nat) : Int))) := by
  have h1 := Int.tmod_eq_emod (a := a) (b := b)
  have h2 := Int.emod_nonneg a (show b ≠ 0 by omega)
  have h3 := Int.emod_lt_of_pos a hb.1
  have e0 : ((W.pick a b : Nat) : Int) = a % b := by unfold W.pick; omega
  rw [e0]
  by_cases h : a.tmod b < 0
  · have run := pickraw_t a b ha hb h
    have e : IntKind.i64.wrap (a.tmod b + b) = a % b := by
      rw [EI.wrapI (by have := Int.lt_tmod_of_pos a hb.1; omega)]
      split at h1 <;> omega
    rwa [e] at run
  · have run := pickraw_f a b ha hb h
    have e : a.tmod b = a % b := by split at h1 <;> omega
    rwa [e] at run
theorem few_ok (l : List Int) (o n : Nat) (hl : o + n ≤ l.length) (hn : n ≤ 1073741824) :
    Contract0 Tryd.prog 23 [(.c (.sl 1 0 o n 1)), (.c (.int .i64 (n : Int)))] [(1, (.one ⟨false, false, (.ints .u8 l)⟩))] 2 (.c (.sl 2 0 0 n 1)) [] [(2, (.one ⟨true, false, (.ints .u8 (List.take n (List.drop o l)))⟩))] := by
  have h := few_raw l o n n hl hn
  rwa [Nat.min_self] at h
theorem tagOf_box {k nn A t : List Int} (ht : W.bytes t) : List.take 16 (List.drop t.length (W.box k nn A t)) = W.boxTag k nn A (W.apply k 1 nn t) ∧ List.take t.length (W.box k nn A t) = W.apply k 1 nn t := by
  unfold W.box
  have e : (W.apply k 1 nn t).length = t.length := W.apply_len
  constructor
  · rw [← e, List.drop_left, ]
    exact List.take_of_length_le (Nat.le_of_eq W.boxTag_len)
  · rw [← e, List.take_left]
/-- What was sealed is opened. -/
theorem open_box (k nn la t : List Int) (oa na q : Nat) (hk : k.length = 32) (hn : nn.length = 12) (hla : oa + na ≤ la.length) (ha : na ≤ 1073741824) (hq : q = t.length) (hm : q ≤ 1073741808) (hba : W.bytes la) (hbt : W.bytes t) :
    Contract0 Tryd.prog 30 [(.aggi .u8 k), (.aggi .u8 nn), (.c (.sl 1 0 oa na 1)), (.c (.sl 2 0 0 (q + 16) 1))] [(1, (.one ⟨false, false, (.ints .u8 la)⟩)), (2, (.one ⟨false, false, (.ints .u8 (W.box k nn (List.take na (List.drop oa la)) t))⟩))] 3 (.tup [(.c (.sl 3 0 0 q 1)), (.c (.int .i64 0))]) [] [(3, (.one ⟨true, false, (.ints .u8 t)⟩))] := by
  obtain ⟨h1, h2⟩ := tagOf_box (k := k) (nn := nn) (A := List.take na (List.drop oa la)) hbt
  have e : q + 16 - 16 = q := by omega
  have e2 : List.take q (List.drop 0 (W.box k nn (List.take na (List.drop oa la)) t)) = W.apply k 1 nn t := by rw [List.drop_zero, hq]; exact h2
  have run := open_ok_ft k nn la (W.box k nn (List.take na (List.drop oa la)) t) oa na 0 (q + 16) hk hn hla (by rw [W.box_len]; omega) ha (by omega) hba W.box_bytes (by omega) (by
    rw [e, Nat.zero_add, e2, hq, h1]
    exact (List.take_of_length_le (Nat.le_of_eq W.boxTag_len)).symm)
  rw [e, e2, apply_apply hbt] at run
  exact run
end Go.Proofs.YtmfnldkiaodkpaaDoor.Vm

namespace Go.Proofs.YtmfnldkiaodkpaaDoor.Vm
open Go Go.Proofs Go.Proofs.YtmfnldkiaodkpaaDoor
set_option maxRecDepth 100000
theorem known6 :
    PureF Tryd.prog 24 [] (.c (.bool (true))) :=
  Contract0.of_frun (res := (.c (.bool (true)))) (up := []) (kill := []) (n0 := 1) (m := []) (args := []) (fn := Tryd.f24) (c := bodyOf Tryd.f24) (fuel := 300) (k := kOf Tryd.prog Tryd.f24) (outs := []) (hs := [(1, ⟨.call [] (.aggi .u8 [134, 225, 85, 118, 129, 181, 81, 74, 247, 131, 105, 122, 38, 89, 224, 106, 12, 217, 196, 114, 123, 151, 182, 36, 175, 30, 61, 74, 47, 207, 74, 184]) [] [], none⟩), (5, ⟨.call [] (.aggi .u8 (W.nonce 7)) [] [], none⟩), (10, ⟨.call [113, 145] (.c (.sl 161 0 0 20 1)) [] [(161, (.one ⟨true, false, (.ints .u8 (W.box [134, 225, 85, 118, 129, 181, 81, 74, 247, 131, 105, 122, 38, 89, 224, 106, 12, 217, 196, 114, 123, 151, 182, 36, 175, 30, 61, 74, 47, 207, 74, 184] (W.nonce 7) (List.take 2 [97, 100]) (List.take 4 [116, 101, 120, 116])))⟩))], none⟩), (13, ⟨.call [] (.aggi .u8 (W.nonce 7)) [] [], none⟩), (17, ⟨.call [241, 161] (.tup [(.c (.sl 273 0 0 4 1)), (.c (.int .i64 0))]) [] [(273, (.one ⟨true, false, (.ints .u8 [116, 101, 120, 116])⟩))], none⟩), (24, ⟨.call [] (.aggi .u8 (W.nonce 7)) [] [], none⟩), (26, ⟨.call [401] (.tup [(.c .nils), (.c (.int .i64 7))]) [] [], none⟩), (51, ⟨.call [] (.aggi .u8 (W.nonce 258)) [] [], none⟩)])
    (cs := [Contract Tryd.prog 27 [(.c (.int .u64 258))] [] 817 (.aggi .u8 (W.nonce 258)) [] [],
      Contract Tryd.prog 30 [(.aggi .u8 [134, 225, 85, 118, 129, 181, 81, 74, 247, 131, 105, 122, 38, 89, 224, 106, 12, 217, 196, 114, 123, 151, 182, 36, 175, 30, 61, 74, 47, 207, 74, 184]), (.aggi .u8 (W.nonce 7)), (.c .nils), (.c (.sl 401 0 0 15 1))] [(401, (.one ⟨true, true, (.ints .u8 [0, 0, 0, 0, 0, 0, 0, 0, 0, 0, 0, 0, 0, 0, 0])⟩))] 417 (.tup [(.c .nils), (.c (.int .i64 7))]) [] [],
      Contract Tryd.prog 27 [(.c (.int .u64 7))] [] 385 (.aggi .u8 (W.nonce 7)) [] [],
      Contract Tryd.prog 30 [(.aggi .u8 [134, 225, 85, 118, 129, 181, 81, 74, 247, 131, 105, 122, 38, 89, 224, 106, 12, 217, 196, 114, 123, 151, 182, 36, 175, 30, 61, 74, 47, 207, 74, 184]), (.aggi .u8 (W.nonce 7)), (.c (.sl 241 0 0 2 1)), (.c (.sl 161 0 0 20 1))] [(241, (.one ⟨false, true, (.cells [(.int .u8 97), (.int .u8 100)])⟩)), (161, (.one ⟨true, false, (.ints .u8 (W.box [134, 225, 85, 118, 129, 181, 81, 74, 247, 131, 105, 122, 38, 89, 224, 106, 12, 217, 196, 114, 123, 151, 182, 36, 175, 30, 61, 74, 47, 207, 74, 184] (W.nonce 7) (List.take 2 [97, 100]) (List.take 4 [116, 101, 120, 116])))⟩))] 273 (.tup [(.c (.sl 273 0 0 4 1)), (.c (.int .i64 0))]) [] [(273, (.one ⟨true, false, (.ints .u8 [116, 101, 120, 116])⟩))],
      Contract Tryd.prog 27 [(.c (.int .u64 7))] [] 209 (.aggi .u8 (W.nonce 7)) [] [],
      Contract Tryd.prog 25 [(.aggi .u8 [134, 225, 85, 118, 129, 181, 81, 74, 247, 131, 105, 122, 38, 89, 224, 106, 12, 217, 196, 114, 123, 151, 182, 36, 175, 30, 61, 74, 47, 207, 74, 184]), (.aggi .u8 (W.nonce 7)), (.c (.sl 113 0 0 2 1)), (.c (.sl 145 0 0 4 1))] [(113, (.one ⟨false, true, (.cells [(.int .u8 97), (.int .u8 100)])⟩)), (145, (.one ⟨false, true, (.cells [(.int .u8 116), (.int .u8 101), (.int .u8 120), (.int .u8 116)])⟩))] 161 (.c (.sl 161 0 0 20 1)) [] [(161, (.one ⟨true, false, (.ints .u8 (W.box [134, 225, 85, 118, 129, 181, 81, 74, 247, 131, 105, 122, 38, 89, 224, 106, 12, 217, 196, 114, 123, 151, 182, 36, 175, 30, 61, 74, 47, 207, 74, 184] (W.nonce 7) (List.take 2 [97, 100]) (List.take 4 [116, 101, 120, 116])))⟩))],
      Contract Tryd.prog 27 [(.c (.int .u64 7))] [] 81 (.aggi .u8 (W.nonce 7)) [] [],
      Contract Tryd.prog 45 [(.c (.int .i64 1))] [] 17 (.aggi .u8 [134, 225, 85, 118, 129, 181, 81, 74, 247, 131, 105, 122, 38, 89, 224, 106, 12, 217, 196, 114, 123, 151, 182, 36, 175, 30, 61, 74, 47, 207, 74, 184]) [] []])
    mixed Tryd.func24 (by kernel_rfl) (by kernel_rfl) (by kernel_rfl) (by kernel_rfl) (by kernel_rfl) ⟨Contract0.inst (nonce_ok 258 (by omega)) [] [none] [] [] (by kernel_rfl) (by kernel_rfl) (by kernel_rfl) (by kernel_rfl) (by kernel_rfl), Contract0.inst (open_ok_t ([134, 225, 85, 118, 129, 181, 81, 74, 247, 131, 105, 122, 38, 89, 224, 106, 12, 217, 196, 114, 123, 151, 182, 36, 175, 30, 61, 74, 47, 207, 74, 184]) (W.nonce 7) [] ([0, 0, 0, 0, 0, 0, 0, 0, 0, 0, 0, 0, 0, 0, 0]) 0 0 0 15 (by simp only [and_true, List.length_set, List.length_append, List.length_replicate, List.length_take, List.length_drop, List.length_map, List.length_cons, List.length_nil, List.length_zipWith, splice_len1, W.le_len, W.bts_len, Int.toNat_natCast, addO_eq, mulE_eq, mulE_one, W.once_len, W.block_len, W.p8_len, W.apply_len, W.boxTag_len, W.box_len, W.nonce_len, W.hand_len, W.tag_len]) (by simp only [and_true, List.length_set, List.length_append, List.length_replicate, List.length_take, List.length_drop, List.length_map, List.length_cons, List.length_nil, List.length_zipWith, splice_len1, W.le_len, W.bts_len, Int.toNat_natCast, addO_eq, mulE_eq, mulE_one, W.once_len, W.block_len, W.p8_len, W.apply_len, W.boxTag_len, W.box_len, W.nonce_len, W.hand_len, W.tag_len]) (by omega) (by simp only [and_true, List.length_set, List.length_append, List.length_replicate, List.length_take, List.length_drop, List.length_map, List.length_cons, List.length_nil, List.length_zipWith, splice_len1, W.le_len, W.bts_len, Int.toNat_natCast, addO_eq, mulE_eq, mulE_one, W.once_len, W.block_len, W.p8_len, W.apply_len, W.boxTag_len, W.box_len, W.nonce_len, W.hand_len, W.tag_len]; omega) (by omega) (by omega) (by repeat' with_reducible first | assumption | exact W.p8_bytes | exact W.bytes_zero | exact W.apply_bytes | exact W.once_bytes | exact W.tag_bytes | exact W.boxTag_bytes | exact W.box_bytes | exact W.bytes_nil | exact W.bts_bytes | exact W.le_bytes | exact W.hand_bytes | apply W.bytes_app | apply W.bytes_take | apply W.bytes_drop) (by simp only [W.bytes, List.forall_mem_cons]; decide) (by omega)) [.z 1 (.ints .u8 []), .b 401 2 true []] [none, none, some (1, 1), none] [] [] (by kernel_rfl) (by kernel_rfl) (by kernel_rfl) (by kernel_rfl) (by kernel_rfl), Contract0.inst (nonce_ok 7 (by omega)) [] [none] [] [] (by kernel_rfl) (by kernel_rfl) (by kernel_rfl) (by kernel_rfl) (by kernel_rfl), Contract0.inst (open_box ([134, 225, 85, 118, 129, 181, 81, 74, 247, 131, 105, 122, 38, 89, 224, 106, 12, 217, 196, 114, 123, 151, 182, 36, 175, 30, 61, 74, 47, 207, 74, 184]) (W.nonce 7) ([97, 100]) (List.take 4 [116, 101, 120, 116]) 0 2 4 (by simp only [and_true, List.length_set, List.length_append, List.length_replicate, List.length_take, List.length_drop, List.length_map, List.length_cons, List.length_nil, List.length_zipWith, splice_len1, W.le_len, W.bts_len, Int.toNat_natCast, addO_eq, mulE_eq, mulE_one, W.once_len, W.block_len, W.p8_len, W.apply_len, W.boxTag_len, W.box_len, W.nonce_len, W.hand_len, W.tag_len]) (by simp only [and_true, List.length_set, List.length_append, List.length_replicate, List.length_take, List.length_drop, List.length_map, List.length_cons, List.length_nil, List.length_zipWith, splice_len1, W.le_len, W.bts_len, Int.toNat_natCast, addO_eq, mulE_eq, mulE_one, W.once_len, W.block_len, W.p8_len, W.apply_len, W.boxTag_len, W.box_len, W.nonce_len, W.hand_len, W.tag_len]) (by simp only [and_true, List.length_set, List.length_append, List.length_replicate, List.length_take, List.length_drop, List.length_map, List.length_cons, List.length_nil, List.length_zipWith, splice_len1, W.le_len, W.bts_len, Int.toNat_natCast, addO_eq, mulE_eq, mulE_one, W.once_len, W.block_len, W.p8_len, W.apply_len, W.boxTag_len, W.box_len, W.nonce_len, W.hand_len, W.tag_len]; omega) (by omega) (by simp only [and_true, List.length_set, List.length_append, List.length_replicate, List.length_take, List.length_drop, List.length_map, List.length_cons, List.length_nil, List.length_zipWith, splice_len1, W.le_len, W.bts_len, Int.toNat_natCast, addO_eq, mulE_eq, mulE_one, W.once_len, W.block_len, W.p8_len, W.apply_len, W.boxTag_len, W.box_len, W.nonce_len, W.hand_len, W.tag_len]; omega) (by omega) (by simp only [W.bytes, List.forall_mem_cons]; decide) (by simp only [W.bytes, List.forall_mem_cons]; decide)) [.b 241 1 true [], .b 161 2 true []] [none, none, none, none] [(3, 273)] [] (by kernel_rfl) (by kernel_rfl) (by kernel_rfl) (by kernel_rfl) (by kernel_rfl), Contract0.inst (nonce_ok 7 (by omega)) [] [none] [] [] (by kernel_rfl) (by kernel_rfl) (by kernel_rfl) (by kernel_rfl) (by kernel_rfl), Contract0.inst (seal_ok ([134, 225, 85, 118, 129, 181, 81, 74, 247, 131, 105, 122, 38, 89, 224, 106, 12, 217, 196, 114, 123, 151, 182, 36, 175, 30, 61, 74, 47, 207, 74, 184]) (W.nonce 7) ([97, 100]) ([116, 101, 120, 116]) 0 2 0 4 (by simp only [and_true, List.length_set, List.length_append, List.length_replicate, List.length_take, List.length_drop, List.length_map, List.length_cons, List.length_nil, List.length_zipWith, splice_len1, W.le_len, W.bts_len, Int.toNat_natCast, addO_eq, mulE_eq, mulE_one, W.once_len, W.block_len, W.p8_len, W.apply_len, W.boxTag_len, W.box_len, W.nonce_len, W.hand_len, W.tag_len]) (by simp only [and_true, List.length_set, List.length_append, List.length_replicate, List.length_take, List.length_drop, List.length_map, List.length_cons, List.length_nil, List.length_zipWith, splice_len1, W.le_len, W.bts_len, Int.toNat_natCast, addO_eq, mulE_eq, mulE_one, W.once_len, W.block_len, W.p8_len, W.apply_len, W.boxTag_len, W.box_len, W.nonce_len, W.hand_len, W.tag_len]) (by simp only [and_true, List.length_set, List.length_append, List.length_replicate, List.length_take, List.length_drop, List.length_map, List.length_cons, List.length_nil, List.length_zipWith, splice_len1, W.le_len, W.bts_len, Int.toNat_natCast, addO_eq, mulE_eq, mulE_one, W.once_len, W.block_len, W.p8_len, W.apply_len, W.boxTag_len, W.box_len, W.nonce_len, W.hand_len, W.tag_len]; omega) (by simp only [and_true, List.length_set, List.length_append, List.length_replicate, List.length_take, List.length_drop, List.length_map, List.length_cons, List.length_nil, List.length_zipWith, splice_len1, W.le_len, W.bts_len, Int.toNat_natCast, addO_eq, mulE_eq, mulE_one, W.once_len, W.block_len, W.p8_len, W.apply_len, W.boxTag_len, W.box_len, W.nonce_len, W.hand_len, W.tag_len]; omega) (by omega) (by omega) (by simp only [W.bytes, List.forall_mem_cons]; decide) (by simp only [W.bytes, List.forall_mem_cons]; decide)) [.b 113 1 true [], .b 145 2 true []] [none, none, none, none] [(3, 161)] [] (by kernel_rfl) (by kernel_rfl) (by kernel_rfl) (by kernel_rfl) (by kernel_rfl), Contract0.inst (nonce_ok 7 (by omega)) [] [none] [] [] (by kernel_rfl) (by kernel_rfl) (by kernel_rfl) (by kernel_rfl) (by kernel_rfl), Contract0.inst secret1 [] [none] [] [] (by kernel_rfl) (by kernel_rfl) (by kernel_rfl) (by kernel_rfl) (by kernel_rfl), trivial⟩


end Go.Proofs.YtmfnldkiaodkpaaDoor.Vm
