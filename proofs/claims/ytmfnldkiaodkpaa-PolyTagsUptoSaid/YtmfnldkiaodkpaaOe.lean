/- What functions of the program come to: parts of the walk (Oe). -/
import Derived.Test.YtmfnldkiaodkpaaOd
import Derived.KernelRfl
import Derived.Test.YtmfnldkiaodkpaaProg
set_option linter.unusedSimpArgs false
set_option linter.unusedVariables false
namespace Go.Proofs.Ytmfnldkiaodkpaa.Vm
open Go Go.Proofs Go.Proofs.Ytmfnldkiaodkpaa
set_option maxRecDepth 100000
theorem pickraw_t (a b : Int)
    (ha : -9223372036854775808 ≤ a ∧ a < 9223372036854775808)
    (hb : 0 < b ∧ b < 4294967296)
    (h0 : (Int.tmod a b < (0 : Int))) :
    PureF Try.prog 15 [(.c (.int .i64 a)), (.c (.int .i64 b))] (.c (.int .i64 (IntKind.wrap IntKind.i64 (Int.tmod a b + b)))) :=
  Contract0.of_frun (res := (.c (.int .i64 (IntKind.wrap IntKind.i64 (Int.tmod a b + b))))) (up := []) (kill := []) (n0 := 1) (m := []) (args := [(.c (.int .i64 a)), (.c (.int .i64 b))]) (fn := Try.f15) (c := bodyOf Try.f15) (fuel := 300) (k := kOf Try.prog Try.f15) (outs := []) (hs := [(3, ⟨.ask, none⟩), (6, ⟨.auto, some (.c (.bool (true)))⟩)])
    (cs := [EB (decide (Int.tmod a b < 0)) true,
      (b ≠ (0 : Int))])
    mixed Try.func15 (by kernel_rfl) (by kernel_rfl) (by kernel_rfl) (by kernel_rfl) (by kernel_rfl) ⟨.mk (decide_eq_true h0), (by omega), trivial⟩

theorem pickraw_f (a b : Int)
    (ha : -9223372036854775808 ≤ a ∧ a < 9223372036854775808)
    (hb : 0 < b ∧ b < 4294967296)
    (h0 : (¬Int.tmod a b < (0 : Int))) :
    PureF Try.prog 15 [(.c (.int .i64 a)), (.c (.int .i64 b))] (.c (.int .i64 (Int.tmod a b))) :=
  Contract0.of_frun (res := (.c (.int .i64 (Int.tmod a b)))) (up := []) (kill := []) (n0 := 1) (m := []) (args := [(.c (.int .i64 a)), (.c (.int .i64 b))]) (fn := Try.f15) (c := bodyOf Try.f15) (fuel := 300) (k := kOf Try.prog Try.f15) (outs := []) (hs := [(3, ⟨.ask, none⟩), (6, ⟨.auto, some (.c (.bool (false)))⟩)])
    (cs := [EB (decide (Int.tmod a b < 0)) false,
      (b ≠ (0 : Int))])
    mixed Try.func15 (by kernel_rfl) (by kernel_rfl) (by kernel_rfl) (by kernel_rfl) (by kernel_rfl) ⟨.mk (decide_eq_false h0), (by omega), trivial⟩


theorem few_raw (l : List Int) (o n m : Nat)
    (hl : o + n ≤ l.length)
    (hn : n ≤ 1073741824) :
    Contract0 Try.prog 16 [(.c (.sl 1 0 o n 1)), (.c (.int .i64 (↑m)))] [(1, (.one ⟨false, false, (.ints .u8 l)⟩))] 2 (.c (.sl 2 0 0 (min n m) 1)) [] [(2, (.one ⟨true, false, (.ints .u8 (List.take (min n m) (List.drop o l)))⟩))] :=
  Contract0.renum (Contract0.of_frun (res := (.c (.sl 130 0 0 (min n m) 1))) (up := [(130, (.one ⟨true, false, (.ints .u8 (List.take (min n m) (List.drop o l)))⟩))]) (kill := []) (n0 := 2) (m := [(1, (.one ⟨false, false, (.ints .u8 l)⟩))]) (args := [(.c (.sl 1 0 o n 1)), (.c (.int .i64 (↑m)))]) (fn := Try.f16) (c := bodyOf Try.f16) (fuel := 300) (k := kOf Try.prog Try.f16) (outs := [130]) (hs := [(6, ⟨.auto, some (.c (.int .i64 (↑(min n m))))⟩), (7, ⟨.ask, some (.c (.sl 1 0 o (min n m) 1))⟩), (8, ⟨.ask, none⟩)])
    (cs := [(o + min n m * (1 : Nat) ≤ List.length l ∧ (2 : Nat) * ((0 : Nat) + min n m) ≤ (4398046511104 : Nat) ∧ (0 : Nat) ≤ (0 : Nat)),
      ((.c (.sl 1 0 (addO o 0) (Int.toNat (↑(min n m) - 0)) 1)) : V) = (.c (.sl 1 0 o (min n m) 1)),
      ((0 : Int) ≤ (0 : Int) ∧ (0 : Int) ≤ (↑(min n m) : Int) ∧ (↑(min n m) : Int) ≤ (↑n : Int)),
      EI .i64 (bif decide ((↑m : Int) < (↑n : Int)) then (↑m : Int) else (↑n : Int)) ((↑(min n m) : Int))])
    mixed Try.func16 (by kernel_rfl) (by kernel_rfl) (by kernel_rfl) (by kernel_rfl) (by kernel_rfl) ⟨(by omega), EV.sl (by simp only [addO_eq, mulE_eq, mulE_one, Int.toNat_natCast, IntKind.wrap_i64, mmin, mmax]; omega) (by rfl), (by omega), .mk (by simp only [addO_eq, mulE_eq, mulE_one, Int.toNat_natCast, IntKind.wrap_i64, mmin, mmax]; omega), trivial⟩) [.b 1 1 true] [] [(130, 2)] [] (by kernel_rfl) (by kernel_rfl) (by kernel_rfl) (by kernel_rfl) (by kernel_rfl)


def LYI (n : Nat) (z0 : Int) (i1 : Nat) (l2 : List Int) : S0 :=
  ⟨[(0, (.c (.int .i64 (↑n)))), (4, (.c .nils)), (5, (.c (.sl 33 0 0 n 1))), (6, (.c (.int .u64 z0))), (7, (.c (.int .i64 ((↑i1 : Int)))))], [(33, (.one ⟨true, true, (.ints .u8 l2)⟩))], 129⟩
theorem LY_by {α : Type} (I : α → S0) (Inv : α → Prop) (μ : α → Nat) {ex : Ex} {s' : S0} (hex : ex ≠ .normal)
    (step : ∀ x, Inv x → (∃ y, Inv y ∧ μ y < μ x ∧ CodeOk Try.prog 27 129 (kAt (kOf Try.prog Try.f14) [true, true, true, false, true, false, false]) (I x) .normal (I y)) ∨ CodeOk Try.prog 27 129 (kAt (kOf Try.prog Try.f14) [true, true, true, false, true, false, false]) (I x) ex s') (x : α) (hx : Inv x) :
    CodeOk Try.prog 27 129 (kAt (kOf Try.prog Try.f14) [true, true, true, false, true, false]) (I x) ex s' := by
  have hk : (kAt (kOf Try.prog Try.f14) [true, true, true, false, true, false]) = .loop (kAt (kOf Try.prog Try.f14) [true, true, true, false, true, false, false]) := by kernel_rfl
  rw [hk]
  exact CodeOk.loop I Inv μ hex step x hx
def LY0 (n : Nat) (s : Int) : S0 :=
  ⟨[(0, (.c (.int .i64 (↑n)))), (4, (.c .nils)), (5, (.c (.sl 33 0 0 n 1))), (6, (.c (.int .u64 (s % 18446744073709551616)))), (7, (.c (.int .i64 0)))], [(33, (.one ⟨true, true, (.ints .u8 (List.replicate n 0))⟩))], 129⟩
theorem LY_rt (n : Nat) (s z0 : Int) (i1 : Nat) (l2 : List Int)
    (hn : n ≤ 1073741824)
    (hs : -9223372036854775808 ≤ s ∧ s < 9223372036854775808)
    (hi : i1 ≤ n)
    (hl : l2.length = n)
    (h2 : ((↑i1 : Int) < (↑n : Int))) :
    CodeOk Try.prog 27 129 (kAt (kOf Try.prog Try.f14) [true, true, true, false, true, false, false]) (LYI n z0 i1 l2) .normal (LYI n ((z0 * 6364136223846793005 % 18446744073709551616 + 1442695040888963407) % 18446744073709551616) (i1 + 1) (splice l2 i1 [(z0 * 6364136223846793005 % 18446744073709551616 + 1442695040888963407) % 18446744073709551616 / 1099511627776 % 256])) :=
  CodeOk.of_runs (fuel := 300) (v := ⟨[0, 4, 5, 6, 7], [33], [], 129⟩) (hs := [(2, ⟨.auto, some (.c (.bool (true)))⟩), (13, ⟨.ask, none⟩), (14, ⟨.ask, none⟩), (16, ⟨.auto, some (.c (.int .i64 (↑(i1 + 1))))⟩)])
    (cs := [EI .i64 (IntKind.wrap IntKind.i64 ((↑i1 : Int) + 1)) ((↑(i1 + 1) : Int)),
      (i1 + (1 : Nat) ≤ List.length l2 ∧ (1 : Nat) = (1 : Nat)),
      ((0 : Int) ≤ (↑i1 : Int) ∧ (↑i1 : Int) < (↑n : Int)),
      EB (decide ((↑i1 : Int) < (↑n : Int))) true])
    mixed (by kernel_rfl) ⟨.mk (by simp only [addO_eq, mulE_eq, mulE_one, Int.toNat_natCast, IntKind.wrap_i64, mmin, mmax]; omega), (by omega), (by omega), .mk (decide_eq_true h2), trivial⟩
theorem LY_xf (n : Nat) (s z0 : Int) (i1 : Nat) (l2 : List Int)
    (hn : n ≤ 1073741824)
    (hs : -9223372036854775808 ≤ s ∧ s < 9223372036854775808)
    (hi : i1 ≤ n)
    (hl : l2.length = n)
    (h2 : (¬(↑i1 : Int) < (↑n : Int))) :
    CodeOk Try.prog 27 129 (kAt (kOf Try.prog Try.f14) [true, true, true, false, true, false, false]) (LYI n z0 i1 l2) (.exit 0) (LYI n z0 i1 l2) :=
  CodeOk.of_runs (fuel := 300) (v := ⟨[0, 4, 5, 6, 7], [33], [], 129⟩) (hs := [(2, ⟨.auto, some (.c (.bool (false)))⟩)])
    (cs := [EB (decide ((↑i1 : Int) < (↑n : Int))) false])
    mixed (by kernel_rfl) ⟨.mk (decide_eq_false h2), trivial⟩

end Go.Proofs.Ytmfnldkiaodkpaa.Vm

namespace Go.Proofs.Ytmfnldkiaodkpaa.W
open Go Go.Proofs.Ytmfnldkiaodkpaa.Vm
def pick (a b : Int) : Nat := (a % b).toNat
theorem pick_lt {a b : Int} (h : 0 < b) : (pick a b : Int) < b := by
  have h1 := Int.emod_nonneg a (Int.ne_of_gt h)
  have h2 := Int.emod_lt_of_pos a h
  unfold pick; omega
def handS (z : Int) : Nat → Int
  | 0 => z
  | i + 1 => (handS z i * 6364136223846793005 % 18446744073709551616 + 1442695040888963407) % 18446744073709551616
/-- Bytes of a raw number. -/
def hand (n : Nat) (s : Int) : List Int := (List.range n).map fun i => handS (s % 18446744073709551616) (i + 1) / 1099511627776 % 256
theorem hand_len {n : Nat} {s : Int} : (hand n s).length = n := by simp [hand]
theorem hand_bytes {n : Nat} {s : Int} : bytes (hand n s) := by
  intro x hx
  simp only [hand, List.mem_map] at hx
  obtain ⟨i, _, rfl⟩ := hx
  omega
theorem hand_getD {n : Nat} {s : Int} {i : Nat} (h : i < n) : (hand n s).getD i 0 = handS (s % 18446744073709551616) (i + 1) / 1099511627776 % 256 := by
  simp [hand, List.getD_eq_getElem?_getD, List.getElem?_map, List.getElem?_range h]
end Go.Proofs.Ytmfnldkiaodkpaa.W
namespace Go.Proofs.Ytmfnldkiaodkpaa.Vm
open Go Go.Proofs Go.Proofs.Ytmfnldkiaodkpaa
theorem pick_ok (a b : Int) (ha : -9223372036854775808 ≤ a ∧ a < 9223372036854775808) (hb : 0 < b ∧ b < 4294967296) : PureF Try.prog 15 [(.c (.int .i64 a)), (.c (.int .i64 b))] (.c (.int .i64 ((W.pick a b : Nat) : Int))) := by
  have h1 := Int.tmod_eq_emod (a := a) (b := b)
  have h2 := Int.emod_nonneg a (show b ≠ 0 by omega)
  have h3 := Int.emod_lt_of_pos a hb.1
  have e0 : ((W.pick a b : Nat) : Int) = a % b := by unfold W.pick; omega
  rw [e0]
  by_cases h : a.tmod b < 0
  · have run := pickraw_t a b ha hb h
    have e : IntKind.i64.wrap (a.tmod b + b) = a % b := by
      rw [EI.wrapI (by have := Int.lt_tmod_of_pos a hb.1; omega)]
      split at h1 <;> omega
    rwa [e] at run
  · have run := pickraw_f a b ha hb h
    have e : a.tmod b = a % b := by split at h1 <;> omega
    rwa [e] at run
theorem hand_loop (n : Nat) (s : Int) (hn : n ≤ 1073741824) (hs : -9223372036854775808 ≤ s ∧ s < 9223372036854775808) :
    CodeOk Try.prog 27 129 (kAt (kOf Try.prog Try.f14) [true, true, true, false, true, false]) (LY0 n s) (.exit 0) (LYI n (W.handS (s % 18446744073709551616) n) n (W.hand n s)) := by
  refine LY_by (fun x : Nat × List Int => LYI n (W.handS (s % 18446744073709551616) x.1) x.1 x.2) (fun x => x.1 ≤ n ∧ x.2 = (W.hand n s).take x.1 ++ List.replicate (n - x.1) 0) (fun x => n - x.1) (by simp) ?_ (0, List.replicate n 0) ⟨Nat.zero_le _, by simp⟩
  rintro ⟨i, l⟩ ⟨hi, hl⟩
  dsimp only at hi hl ⊢
  have hll : l.length = n := by rw [hl]; simp [W.hand_len]; omega
  by_cases h : i < n
  · left
    refine ⟨(i + 1, _), ⟨h, ?_⟩, by dsimp only; omega, LY_rt n s _ i l hn hs hi hll (by omega)⟩
    dsimp only
    rw [hl]
    refine fill_step W.hand_len h ?_
    rw [W.hand_getD h]; rfl
  · right
    have e : i = n := by omega
    have el : l = W.hand n s := by
      rw [hl, e, Nat.sub_self, List.replicate_zero, List.append_nil]
      exact List.take_of_length_le (Nat.le_of_eq W.hand_len)
    have run := LY_xf n s (W.handS (s % 18446744073709551616) i) i l hn hs hi hll (by omega)
    rw [e, el] at run
    rw [e, el]; exact run
theorem few_ok (l : List Int) (o n : Nat) (hl : o + n ≤ l.length) (hn : n ≤ 1073741824) :
    Contract0 Try.prog 16 [(.c (.sl 1 0 o n 1)), (.c (.int .i64 (n : Int)))] [(1, (.one ⟨false, false, (.ints .u8 l)⟩))] 2 (.c (.sl 2 0 0 n 1)) [] [(2, (.one ⟨true, false, (.ints .u8 (List.take n (List.drop o l)))⟩))] := by
  have h := few_raw l o n n hl hn
  rwa [Nat.min_self] at h
end Go.Proofs.Ytmfnldkiaodkpaa.Vm

namespace Go.Proofs.Ytmfnldkiaodkpaa.Vm
open Go Go.Proofs Go.Proofs.Ytmfnldkiaodkpaa
set_option maxRecDepth 100000
theorem hand_ok (n : Nat) (s : Int)
    (hn : n ≤ 1073741824)
    (hs : -9223372036854775808 ≤ s ∧ s < 9223372036854775808) :
    Contract0 Try.prog 14 [(.c (.int .i64 (↑n))), (.c (.int .i64 s))] [] 1 (.c (.sl 1 0 0 n 1)) [] [(1, (.one ⟨true, true, (.ints .u8 (W.hand n s))⟩))] :=
  Contract0.renum (Contract0.of_frun (res := (.c (.sl 33 0 0 n 1))) (up := [(33, (.one ⟨true, true, (.ints .u8 (W.hand n s))⟩))]) (kill := []) (n0 := 1) (m := []) (args := [(.c (.int .i64 (↑n))), (.c (.int .i64 s))]) (fn := Try.f14) (c := bodyOf Try.f14) (fuel := 300) (k := kOf Try.prog Try.f14) (outs := [33]) (hs := [(2, ⟨.ask, none⟩), (8, ⟨.sum ⟨[0, 4, 5, 6, 7], [33], [], 129⟩ (.exit 0) (LYI n (W.handS (s % 18446744073709551616) n) n (W.hand n s)), none⟩)])
    (cs := [CodeOk Try.prog 27 129 (kAt (kOf Try.prog Try.f14) [true, true, true, false, true, false]) (LY0 n s) (.exit 0) (LYI n (W.handS (s % 18446744073709551616) n) n (W.hand n s)),
      ((0 : Int) ≤ (↑n : Int) ∧ (↑n : Int) ≤ (↑n : Int) ∧ (↑n : Int) ≤ (4294967296 : Int) ∧ (1 : Nat) * n ≤ (4398046511104 : Nat))])
    mixed Try.func14 (by kernel_rfl) (by kernel_rfl) (by kernel_rfl) (by kernel_rfl) (by kernel_rfl) ⟨(hand_loop n s (by omega) (by omega)), (by omega), trivial⟩) [] [] [(33, 1)] [] (by kernel_rfl) (by kernel_rfl) (by kernel_rfl) (by kernel_rfl) (by kernel_rfl)


end Go.Proofs.Ytmfnldkiaodkpaa.Vm
