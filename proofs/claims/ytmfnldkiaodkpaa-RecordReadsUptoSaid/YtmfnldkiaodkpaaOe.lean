/- What functions of the program come to: parts of the walk (Oe). -/
import Derived.Test.YtmfnldkiaodkpaaOd
import Derived.KernelRfl
import Derived.Test.YtmfnldkiaodkpaaProg
set_option linter.unusedSimpArgs false
set_option linter.unusedVariables false
namespace Go.Proofs.Ytmfnldkiaodkpaa.Vm
open Go Go.Proofs Go.Proofs.Ytmfnldkiaodkpaa
set_option maxRecDepth 100000
theorem pickraw_t (a b : Int)
    (ha : -9223372036854775808 ≤ a ∧ a < 9223372036854775808)
    (hb : 0 < b ∧ b < 4294967296)
    (h0 : (Int.tmod a b < (0 : Int))) :
    PureF Try.prog 15 [(.c (.int .i64 a)), (.c (.int .i64 b))] (.c (.int .i64 (IntKind.wrap IntKind.i64 (Int.tmod a b + b)))) :=
  Contract0.of_frun (res := (.c (.int .i64 (IntKind.wrap IntKind.i64 (Int.tmod a b + b))))) (up := []) (kill := []) (n0 := 1) (m := []) (args := [(.c (.int .i64 a)), (.c (.int .i64 b))]) (fn := Try.f15) (c := bodyOf Try.f15) (fuel := 300) (k := kOf Try.prog Try.f15) (outs := []) (hs := [(3, ⟨.ask, none⟩), (6, ⟨.auto, some (.c (.bool (true)))⟩)])
    (cs := [EB (decide (Int.tmod a b < 0)) true,
      (b ≠ (0 : Int))])
    mixed Try.func15 (by kernel_rfl) (by kernel_rfl) (by kernel_rfl) (by kernel_rfl) (by kernel_rfl) ⟨.mk (decide_eq_true h0), (by omega), trivial⟩

theorem pickraw_f (a b : Int)
    (ha : -9223372036854775808 ≤ a ∧ a < 9223372036854775808)
    (hb : 0 < b ∧ b < 4294967296)
    (h0 : (¬Int.tmod a b < (0 : Int))) :
    PureF Try.prog 15 [(.c (.int .i64 a)), (.c (.int .i64 b))] (.c (.int .i64 (Int.tmod a b))) :=
  Contract0.of_frun (res := (.c (.int .i64 (Int.tmod a b)))) (up := []) (kill := []) (n0 := 1) (m := []) (args := [(.c (.int .i64 a)), (.c (.int .i64 b))]) (fn := Try.f15) (c := bodyOf Try.f15) (fuel := 300) (k := kOf Try.prog Try.f15) (outs := []) (hs := [(3, ⟨.ask, none⟩), (6, ⟨.auto, some (.c (.bool (false)))⟩)])
    (cs := [EB (decide (Int.tmod a b < 0)) false,
      (b ≠ (0 : Int))])
    mixed Try.func15 (by kernel_rfl) (by kernel_rfl) (by kernel_rfl) (by kernel_rfl) (by kernel_rfl) ⟨.mk (decide_eq_false h0), (by omega), trivial⟩


end Go.Proofs.Ytmfnldkiaodkpaa.Vm

namespace Go.Proofs.Ytmfnldkiaodkpaa.W
open Go Go.Proofs.Ytmfnldkiaodkpaa.Vm
def pick (a b : Int) : Nat := (a % b).toNat
theorem pick_lt {a b : Int} (h : 0 < b) : (pick a b : Int) < b := by
  have h1 := Int.emod_nonneg a (Int.ne_of_gt h)
  have h2 := Int.emod_lt_of_pos a h
  unfold pick; omega
def handS (z : Int) : Nat → Int
  | 0 => z
  | i + 1 => (handS z i * 6364136223846793005 % 18446744073709551616 + 1442695040888963407) % 18446744073709551616
/-- Bytes of a raw number. -/
def hand (n : Nat) (s : Int) : List Int := (List.range n).map fun i => handS (s % 18446744073709551616) (i + 1) / 1099511627776 % 256
theorem hand_len {n : Nat} {s : Int} : (hand n s).length = n := by simp [hand]
theorem hand_bytes {n : Nat} {s : Int} : bytes (hand n s) := by
  intro x hx
  simp only [hand, List.mem_map] at hx
  obtain ⟨i, _, rfl⟩ := hx
  omega
end Go.Proofs.Ytmfnldkiaodkpaa.W
namespace Go.Proofs.Ytmfnldkiaodkpaa.Vm
open Go Go.Proofs Go.Proofs.Ytmfnldkiaodkpaa
theorem pick_ok (a b : Int) (ha : -9223372036854775808 ≤ a ∧ a < 9223372036854775808) (hb : 0 < b ∧ b < 4294967296) : PureF Try.prog 15 [(.c (.int .i64 a)), (.c (.int .i64 b))] (.c (.int .i64 ((W.pick a b : Nat) : Int))) := by
  have h1 := Int.tmod_eq_emod (a := a) (b := b)
  have h2 := Int.emod_nonneg a (show b ≠ 0 by omega)
  have h3 := Int.emod_lt_of_pos a hb.1
  have e0 : ((W.pick a b : Nat) : Int) = a % b := by unfold W.pick; omega
  rw [e0]
  by_cases h : a.tmod b < 0
  · have run := pickraw_t a b ha hb h
    have e : IntKind.i64.wrap (a.tmod b + b) = a % b := by
      rw [EI.wrapI (by have := Int.lt_tmod_of_pos a hb.1; omega)]
      split at h1 <;> omega
    rwa [e] at run
  · have run := pickraw_f a b ha hb h
    have e : a.tmod b = a % b := by split at h1 <;> omega
    rwa [e] at run
end Go.Proofs.Ytmfnldkiaodkpaa.Vm

namespace Go.Proofs.Ytmfnldkiaodkpaa.Vm
open Go Go.Proofs Go.Proofs.Ytmfnldkiaodkpaa
set_option maxRecDepth 100000
end Go.Proofs.Ytmfnldkiaodkpaa.Vm
