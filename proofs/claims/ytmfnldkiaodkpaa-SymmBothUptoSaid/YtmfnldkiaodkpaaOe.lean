/- What functions of the program come to: parts of the walk (Oe). -/
import Derived.Test.YtmfnldkiaodkpaaOd
import Derived.KernelRfl
import Derived.Test.YtmfnldkiaodkpaaProg
set_option linter.unusedSimpArgs false
set_option linter.unusedVariables false
namespace Go.Proofs.Ytmfnldkiaodkpaa.Vm
open Go Go.Proofs Go.Proofs.Ytmfnldkiaodkpaa
set_option maxRecDepth 100000
theorem pickraw_t (a b : Int)
    (ha : -9223372036854775808 ≤ a ∧ a < 9223372036854775808)
    (hb : 0 < b ∧ b < 4294967296)
    (h0 : (Int.tmod a b < (0 : Int))) :
    PureF Try.prog 15 [(.c (.int .i64 a)), (.c (.int .i64 b))] (.c (.int .i64 (IntKind.wrap IntKind.i64 (Int.tmod a b + b)))) :=
  Contract0.fr 300 [(3, ⟨.ask, none⟩), (6, ⟨.auto, some (.c (.bool (true)))⟩)] [] [EB (decide (Int.tmod a b < 0)) true,
      (b ≠ (0 : Int))] mixed Try.func15 (by kernel_rfl) ⟨.mk (decide_eq_true h0), (by omega), trivial⟩
theorem pickraw_f (a b : Int)
    (ha : -9223372036854775808 ≤ a ∧ a < 9223372036854775808)
    (hb : 0 < b ∧ b < 4294967296)
    (h0 : (¬Int.tmod a b < (0 : Int))) :
    PureF Try.prog 15 [(.c (.int .i64 a)), (.c (.int .i64 b))] (.c (.int .i64 (Int.tmod a b))) :=
  Contract0.fr 300 [(3, ⟨.ask, none⟩), (6, ⟨.auto, some (.c (.bool (false)))⟩)] [] [EB (decide (Int.tmod a b < 0)) false,
      (b ≠ (0 : Int))] mixed Try.func15 (by kernel_rfl) ⟨.mk (decide_eq_false h0), (by omega), trivial⟩
end Go.Proofs.Ytmfnldkiaodkpaa.Vm

namespace Go.Proofs.Ytmfnldkiaodkpaa.W
open Go Go.Proofs.Ytmfnldkiaodkpaa.Vm
def pick (a b : Int) : Nat := (a % b).toNat
def handS (z : Int) : Nat → Int
  | 0 => z
  | i + 1 => (handS z i * 6364136223846793005 % 18446744073709551616 + 1442695040888963407) % 18446744073709551616
def hand (n : Nat) (s : Int) : List Int := (List.range n).map fun i => handS (s % 18446744073709551616) (i + 1) / 1099511627776 % 256
theorem hand_len {n : Nat} {s : Int} : (hand n s).length = n := by simp [hand]
theorem hand_bytes {n : Nat} {s : Int} : bytes (hand n s) := by
  intro x hx
  simp only [hand, List.mem_map] at hx
  obtain ⟨i, _, rfl⟩ := hx
  omega
end Go.Proofs.Ytmfnldkiaodkpaa.W
namespace Go.Proofs.Ytmfnldkiaodkpaa.Vm
open Go Go.Proofs Go.Proofs.Ytmfnldkiaodkpaa
theorem pick_ok (a b : Int) (ha : -9223372036854775808 ≤ a ∧ a < 9223372036854775808) (hb : 0 < b ∧ b < 4294967296) : PureF Try.prog 15 [(.c (.int .i64 a)), (.c (.int .i64 b))] (.c (.int .i64 ((W.pick a b : Nat) : Int))) := by
  have h1 := Int.tmod_eq_emod (a := a) (b := b)
  have h2 := Int.emod_nonneg a (show b ≠ 0 by omega)
  have h3 := Int.emod_lt_of_pos a hb.1
  have e0 : ((W.pick a b : Nat) : Int) = a % b := by unfold W.pick; omega
  rw [e0]
  by_cases h : a.tmod b < 0
  · have run := pickraw_t a b ha hb h
    have e : IntKind.i64.wrap (a.tmod b + b) = a % b := by
      rw [EI.wrapI (by have := Int.lt_tmod_of_pos a hb.1; omega)]
      split at h1 <;> omega
    rwa [e] at run
  · have run := pickraw_f a b ha hb h
    have e : a.tmod b = a % b := by split at h1 <;> omega
    rwa [e] at run
theorem tagOf_box {k nn A t : List Int} (ht : W.bytes t) : List.take 16 (List.drop t.length (W.box k nn A t)) = W.boxTag k nn A (W.apply k 1 nn t) ∧ List.take t.length (W.box k nn A t) = W.apply k 1 nn t := by
  unfold W.box
  have e : (W.apply k 1 nn t).length = t.length := W.apply_len
  constructor
  · rw [← e, List.drop_left, ]
    exact List.take_of_length_le (Nat.le_of_eq W.boxTag_len)
  · rw [← e, List.take_left]
theorem open_box (k nn la t : List Int) (oa na q : Nat) (hk : k.length = 32) (hn : nn.length = 12) (hla : oa + na ≤ la.length) (ha : na ≤ 1073741824) (hq : q = t.length) (hm : q ≤ 1073741808) (hba : W.bytes la) (hbt : W.bytes t) :
    Contract0 Try.prog 76 [(.aggi .u8 k), (.aggi .u8 nn), (.c (.sl 1 0 oa na 1)), (.c (.sl 2 0 0 (q + 16) 1))] [(1, (.one ⟨false, false, (.ints .u8 la)⟩)), (2, (.one ⟨false, false, (.ints .u8 (W.box k nn (List.take na (List.drop oa la)) t))⟩))] 3 (.tup [(.c (.sl 3 0 0 q 1)), (.c (.int .i64 0))]) [] [(3, (.one ⟨true, false, (.ints .u8 t)⟩))] := by
  obtain ⟨h1, h2⟩ := tagOf_box (k := k) (nn := nn) (A := List.take na (List.drop oa la)) hbt
  have e : q + 16 - 16 = q := by omega
  have e2 : List.take q (List.drop 0 (W.box k nn (List.take na (List.drop oa la)) t)) = W.apply k 1 nn t := by rw [List.drop_zero, hq]; exact h2
  have run := open_ok_ft k nn la (W.box k nn (List.take na (List.drop oa la)) t) oa na 0 (q + 16) hk hn hla (by rw [W.box_len]; omega) ha (by omega) hba W.box_bytes (by omega) (by
    rw [e, Nat.zero_add, e2, hq, h1]
    exact (List.take_of_length_le (Nat.le_of_eq W.boxTag_len)).symm)
  rw [e, e2, apply_apply hbt] at run
  exact run
end Go.Proofs.Ytmfnldkiaodkpaa.Vm

namespace Go.Proofs.Ytmfnldkiaodkpaa.Vm
open Go Go.Proofs Go.Proofs.Ytmfnldkiaodkpaa
set_option maxRecDepth 100000
end Go.Proofs.Ytmfnldkiaodkpaa.Vm
