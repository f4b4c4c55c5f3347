/- What functions of the program come to: parts of the walk (Oe). -/
import Derived.Test.YtokhfkjkeebfpaaOd
import Derived.KernelRfl
import Derived.Test.YtokhfkjkeebfpaaProg
import Derived.Test.YtokhfkjkeebfpaaVmc
set_option linter.unusedSimpArgs false
set_option linter.unusedVariables false
namespace Go.Proofs.Ytokhfkjkeebfpaa.Vm
open Go Go.Proofs Go.Proofs.Ytokhfkjkeebfpaa
set_option maxRecDepth 100000
theorem pickraw_t (a b : Int)
    (ha : -9223372036854775808 ≤ a ∧ a < 9223372036854775808)
    (hb : 0 < b ∧ b < 4294967296)
    (h0 : (Int.tmod a b < (0 : Int))) :
    PureF Try.prog 21 [(.c (.int .i64 a)), (.c (.int .i64 b))] (.c (.int .i64 (IntKind.wrap IntKind.i64 (Int.tmod a b + b)))) :=
  Contract0.of_frun (res := (.c (.int .i64 (IntKind.wrap IntKind.i64 (Int.tmod a b + b))))) (up := []) (kill := []) (n0 := 1) (m := []) (args := [(.c (.int .i64 a)), (.c (.int .i64 b))]) (fn := Try.f21) (c := bodyOf Try.f21) (fuel := 300) (k := kOf Try.prog Try.f21) (outs := []) (hs := [(3, ⟨.ask, none⟩), (6, ⟨.auto, some (.c (.bool (true)))⟩)])
    (cs := [EB (decide (Int.tmod a b < 0)) true,
      (b ≠ (0 : Int))])
    mixed Try.func21 (by kernel_rfl) (by kernel_rfl) (by kernel_rfl) (by kernel_rfl) (by kernel_rfl) ⟨.mk (decide_eq_true h0), (by omega), trivial⟩

theorem pickraw_f (a b : Int)
    (ha : -9223372036854775808 ≤ a ∧ a < 9223372036854775808)
    (hb : 0 < b ∧ b < 4294967296)
    (h0 : (¬Int.tmod a b < (0 : Int))) :
    PureF Try.prog 21 [(.c (.int .i64 a)), (.c (.int .i64 b))] (.c (.int .i64 (Int.tmod a b))) :=
  Contract0.of_frun (res := (.c (.int .i64 (Int.tmod a b)))) (up := []) (kill := []) (n0 := 1) (m := []) (args := [(.c (.int .i64 a)), (.c (.int .i64 b))]) (fn := Try.f21) (c := bodyOf Try.f21) (fuel := 300) (k := kOf Try.prog Try.f21) (outs := []) (hs := [(3, ⟨.ask, none⟩), (6, ⟨.auto, some (.c (.bool (false)))⟩)])
    (cs := [EB (decide (Int.tmod a b < 0)) false,
      (b ≠ (0 : Int))])
    mixed Try.func21 (by kernel_rfl) (by kernel_rfl) (by kernel_rfl) (by kernel_rfl) (by kernel_rfl) ⟨.mk (decide_eq_false h0), (by omega), trivial⟩


-- pickraw: 126 ms
theorem secret1 :
    PureF Try.prog 54 [(.c (.int .i64 1))] (.aggi .u8 [134, 225, 85, 118, 129, 181, 81, 74, 247, 131, 105, 122, 38, 89, 224, 106, 12, 217, 196, 114, 123, 151, 182, 36, 175, 30, 61, 74, 47, 207, 74, 184]) :=
  Contract0.of_frun (res := (.aggi .u8 [134, 225, 85, 118, 129, 181, 81, 74, 247, 131, 105, 122, 38, 89, 224, 106, 12, 217, 196, 114, 123, 151, 182, 36, 175, 30, 61, 74, 47, 207, 74, 184])) (up := []) (kill := []) (n0 := 1) (m := []) (args := [(.c (.int .i64 1))]) (fn := Try.f54) (c := bodyOf Try.f54) (fuel := 300) (k := kOf Try.prog Try.f54) (outs := []) (hs := [])
    (cs := [])
    mixed Try.func54 (by kernel_rfl) (by kernel_rfl) (by kernel_rfl) (by kernel_rfl) (by kernel_rfl) trivial


-- secret1: 1775 ms
theorem secret3 :
    PureF Try.prog 54 [(.c (.int .i64 3))] (.aggi .u8 [183, 180, 203, 202, 135, 248, 6, 39, 19, 70, 162, 28, 81, 103, 59, 233, 188, 134, 232, 235, 164, 211, 254, 151, 245, 193, 231, 189, 81, 90, 125, 29]) :=
  Contract0.of_frun (res := (.aggi .u8 [183, 180, 203, 202, 135, 248, 6, 39, 19, 70, 162, 28, 81, 103, 59, 233, 188, 134, 232, 235, 164, 211, 254, 151, 245, 193, 231, 189, 81, 90, 125, 29])) (up := []) (kill := []) (n0 := 1) (m := []) (args := [(.c (.int .i64 3))]) (fn := Try.f54) (c := bodyOf Try.f54) (fuel := 300) (k := kOf Try.prog Try.f54) (outs := []) (hs := [])
    (cs := [])
    mixed Try.func54 (by kernel_rfl) (by kernel_rfl) (by kernel_rfl) (by kernel_rfl) (by kernel_rfl) trivial


-- secret3: 1864 ms
theorem few_raw (l : List Int) (o n m : Nat)
    (hl : o + n ≤ l.length)
    (hn : n ≤ 1073741824) :
    Contract0 Try.prog 22 [(.c (.sl 1 0 o n 1)), (.c (.int .i64 (↑m)))] [(1, (.one ⟨false, false, (.ints .u8 l)⟩))] 2 (.c (.sl 2 0 0 (min n m) 1)) [] [(2, (.one ⟨true, false, (.ints .u8 (List.take (min n m) (List.drop o l)))⟩))] :=
  Contract0.renum (Contract0.of_frun (res := (.c (.sl 130 0 0 (min n m) 1))) (up := [(130, (.one ⟨true, false, (.ints .u8 (List.take (min n m) (List.drop o l)))⟩))]) (kill := []) (n0 := 2) (m := [(1, (.one ⟨false, false, (.ints .u8 l)⟩))]) (args := [(.c (.sl 1 0 o n 1)), (.c (.int .i64 (↑m)))]) (fn := Try.f22) (c := bodyOf Try.f22) (fuel := 300) (k := kOf Try.prog Try.f22) (outs := [130]) (hs := [(6, ⟨.auto, some (.c (.int .i64 (↑(min n m))))⟩), (7, ⟨.ask, some (.c (.sl 1 0 o (min n m) 1))⟩), (8, ⟨.ask, none⟩)])
    (cs := [(o + min n m * (1 : Nat) ≤ List.length l ∧ (2 : Nat) * ((0 : Nat) + min n m) ≤ (4398046511104 : Nat) ∧ (0 : Nat) ≤ (0 : Nat)),
      ((.c (.sl 1 0 (addO o 0) (Int.toNat (↑(min n m) - 0)) 1)) : V) = (.c (.sl 1 0 o (min n m) 1)),
      ((0 : Int) ≤ (0 : Int) ∧ (0 : Int) ≤ (↑(min n m) : Int) ∧ (↑(min n m) : Int) ≤ (↑n : Int)),
      EI .i64 (bif decide ((↑m : Int) < (↑n : Int)) then (↑m : Int) else (↑n : Int)) ((↑(min n m) : Int))])
    mixed Try.func22 (by kernel_rfl) (by kernel_rfl) (by kernel_rfl) (by kernel_rfl) (by kernel_rfl) ⟨(by omega), EV.sl (by simp only [addO_eq, mulE_eq, mulE_one, Int.toNat_natCast, IntKind.wrap_i64, mmin, mmax]; omega) (by rfl), (by omega), .mk (by simp only [addO_eq, mulE_eq, mulE_one, Int.toNat_natCast, IntKind.wrap_i64, mmin, mmax]; omega), trivial⟩) [.b 1 1 true] [] [(130, 2)] [] (by kernel_rfl) (by kernel_rfl) (by kernel_rfl) (by kernel_rfl) (by kernel_rfl)


-- few_raw: 126 ms
def LYI (n : Nat) (z0 : Int) (i1 : Nat) (l2 : List Int) : S0 :=
  ⟨[(0, (.c (.int .i64 (↑n)))), (4, (.c .nils)), (5, (.c (.sl 33 0 0 n 1))), (6, (.c (.int .u64 z0))), (7, (.c (.int .i64 ((↑i1 : Int)))))], [(33, (.one ⟨true, true, (.ints .u8 l2)⟩))], 129⟩
theorem LY_by {α : Type} (I : α → S0) (Inv : α → Prop) (μ : α → Nat) {ex : Ex} {s' : S0} (hex : ex ≠ .normal)
    (step : ∀ x, Inv x → (∃ y, Inv y ∧ μ y < μ x ∧ CodeOk Try.prog 27 129 (kAt (kOf Try.prog Try.f20) [true, true, true, false, true, false, false]) (I x) .normal (I y)) ∨ CodeOk Try.prog 27 129 (kAt (kOf Try.prog Try.f20) [true, true, true, false, true, false, false]) (I x) ex s') (x : α) (hx : Inv x) :
    CodeOk Try.prog 27 129 (kAt (kOf Try.prog Try.f20) [true, true, true, false, true, false]) (I x) ex s' := by
  have hk : (kAt (kOf Try.prog Try.f20) [true, true, true, false, true, false]) = .loop (kAt (kOf Try.prog Try.f20) [true, true, true, false, true, false, false]) := by kernel_rfl
  rw [hk]
  exact CodeOk.loop I Inv μ hex step x hx
-- init: LYI n (s % 18446744073709551616) 0 (List.replicate n 0)
def LY0 (n : Nat) (s : Int) : S0 :=
  ⟨[(0, (.c (.int .i64 (↑n)))), (4, (.c .nils)), (5, (.c (.sl 33 0 0 n 1))), (6, (.c (.int .u64 (s % 18446744073709551616)))), (7, (.c (.int .i64 0)))], [(33, (.one ⟨true, true, (.ints .u8 (List.replicate n 0))⟩))], 129⟩
theorem LY_rt (n : Nat) (s z0 : Int) (i1 : Nat) (l2 : List Int)
    (hn : n ≤ 1073741824)
    (hs : -9223372036854775808 ≤ s ∧ s < 9223372036854775808)
    (hi : i1 ≤ n)
    (hl : l2.length = n)
    (h2 : ((↑i1 : Int) < (↑n : Int))) :
    CodeOk Try.prog 27 129 (kAt (kOf Try.prog Try.f20) [true, true, true, false, true, false, false]) (LYI n z0 i1 l2) .normal (LYI n ((z0 * 6364136223846793005 % 18446744073709551616 + 1442695040888963407) % 18446744073709551616) (i1 + 1) (splice l2 i1 [(z0 * 6364136223846793005 % 18446744073709551616 + 1442695040888963407) % 18446744073709551616 / 1099511627776 % 256])) :=
  CodeOk.of_runs (fuel := 300) (v := ⟨[0, 4, 5, 6, 7], [33], [], 129⟩) (hs := [(2, ⟨.auto, some (.c (.bool (true)))⟩), (13, ⟨.ask, none⟩), (14, ⟨.ask, none⟩), (16, ⟨.auto, some (.c (.int .i64 (↑(i1 + 1))))⟩)])
    (cs := [EI .i64 (IntKind.wrap IntKind.i64 ((↑i1 : Int) + 1)) ((↑(i1 + 1) : Int)),
      (i1 + (1 : Nat) ≤ List.length l2 ∧ (1 : Nat) = (1 : Nat)),
      ((0 : Int) ≤ (↑i1 : Int) ∧ (↑i1 : Int) < (↑n : Int)),
      EB (decide ((↑i1 : Int) < (↑n : Int))) true])
    mixed (by kernel_rfl) ⟨.mk (by simp only [addO_eq, mulE_eq, mulE_one, Int.toNat_natCast, IntKind.wrap_i64, mmin, mmax]; omega), (by omega), (by omega), .mk (decide_eq_true h2), trivial⟩
theorem LY_xf (n : Nat) (s z0 : Int) (i1 : Nat) (l2 : List Int)
    (hn : n ≤ 1073741824)
    (hs : -9223372036854775808 ≤ s ∧ s < 9223372036854775808)
    (hi : i1 ≤ n)
    (hl : l2.length = n)
    (h2 : (¬(↑i1 : Int) < (↑n : Int))) :
    CodeOk Try.prog 27 129 (kAt (kOf Try.prog Try.f20) [true, true, true, false, true, false, false]) (LYI n z0 i1 l2) (.exit 0) (LYI n z0 i1 l2) :=
  CodeOk.of_runs (fuel := 300) (v := ⟨[0, 4, 5, 6, 7], [33], [], 129⟩) (hs := [(2, ⟨.auto, some (.c (.bool (false)))⟩)])
    (cs := [EB (decide ((↑i1 : Int) < (↑n : Int))) false])
    mixed (by kernel_rfl) ⟨.mk (decide_eq_false h2), trivial⟩

-- bytes 0: 734 ms
end Go.Proofs.Ytokhfkjkeebfpaa.Vm

namespace Go.Proofs.Ytokhfkjkeebfpaa.W
open Go Go.Proofs.Ytokhfkjkeebfpaa.Vm
def pick (a b : Int) : Nat := (a % b).toNat
theorem pick_lt {a b : Int} (h : 0 < b) : (pick a b : Int) < b := by
  have h1 := Int.emod_nonneg a (Int.ne_of_gt h)
  have h2 := Int.emod_lt_of_pos a h
  unfold pick; omega
def handS (z : Int) : Nat → Int
  | 0 => z
  | i + 1 => (handS z i * 6364136223846793005 % 18446744073709551616 + 1442695040888963407) % 18446744073709551616
/-- Bytes of a raw number. -/
def hand (n : Nat) (s : Int) : List Int := (List.range n).map fun i => handS (s % 18446744073709551616) (i + 1) / 1099511627776 % 256
theorem hand_len {n : Nat} {s : Int} : (hand n s).length = n := by simp [hand]
theorem hand_bytes {n : Nat} {s : Int} : bytes (hand n s) := by
  intro x hx
  simp only [hand, List.mem_map] at hx
  obtain ⟨i, _, rfl⟩ := hx
  omega
theorem hand_getD {n : Nat} {s : Int} {i : Nat} (h : i < n) : (hand n s).getD i 0 = handS (s % 18446744073709551616) (i + 1) / 1099511627776 % 256 := by
  simp [hand, List.getD_eq_getElem?_getD, List.getElem?_map, List.getElem?_range h]
end Go.Proofs.Ytokhfkjkeebfpaa.W
namespace Go.Proofs.Ytokhfkjkeebfpaa.Vm
open Go Go.Proofs Go.Proofs.Ytokhfkjkeebfpaa
theorem pick_ok (a b : Int) (ha : -9223372036854775808 ≤ a ∧ a < 9223372036854775808) (hb : 0 < b ∧ b < 4294967296) : PureF Try.prog 21 [(.c (.int .i64 a)), (.c (.int .i64 b))] (.c (.int .i64 ((W.pick a b : Nat) : Int))) := by
  have h1 := Int.tmod_eq_emod (a := a) (b := b)
  have h2 := Int.emod_nonneg a (show b ≠ 0 by omega)
  have h3 := Int.emod_lt_of_pos a hb.1
  have e0 : ((W.pick a b : Nat) : Int) = a % b := by unfold W.pick; omega
  rw [e0]
  by_cases h : a.tmod b < 0
  · have run := pickraw_t a b ha hb h
    have e : IntKind.i64.wrap (a.tmod b + b) = a % b := by
      rw [EI.wrapI (by have := Int.lt_tmod_of_pos a hb.1; omega)]
      split at h1 <;> omega
    rwa [e] at run
  · have run := pickraw_f a b ha hb h
    have e : a.tmod b = a % b := by split at h1 <;> omega
    rwa [e] at run
theorem hand_loop (n : Nat) (s : Int) (hn : n ≤ 1073741824) (hs : -9223372036854775808 ≤ s ∧ s < 9223372036854775808) :
    CodeOk Try.prog 27 129 (kAt (kOf Try.prog Try.f20) [true, true, true, false, true, false]) (LY0 n s) (.exit 0) (LYI n (W.handS (s % 18446744073709551616) n) n (W.hand n s)) := by
  refine LY_by (fun x : Nat × List Int => LYI n (W.handS (s % 18446744073709551616) x.1) x.1 x.2) (fun x => x.1 ≤ n ∧ x.2 = (W.hand n s).take x.1 ++ List.replicate (n - x.1) 0) (fun x => n - x.1) (by simp) ?_ (0, List.replicate n 0) ⟨Nat.zero_le _, by simp⟩
  rintro ⟨i, l⟩ ⟨hi, hl⟩
  dsimp only at hi hl ⊢
  have hll : l.length = n := by rw [hl]; simp [W.hand_len]; omega
  by_cases h : i < n
  · left
    refine ⟨(i + 1, _), ⟨h, ?_⟩, by dsimp only; omega, LY_rt n s _ i l hn hs hi hll (by omega)⟩
    dsimp only
    rw [hl]
    refine fill_step W.hand_len h ?_
    rw [W.hand_getD h]; rfl
  · right
    have e : i = n := by omega
    have el : l = W.hand n s := by
      rw [hl, e, Nat.sub_self, List.replicate_zero, List.append_nil]
      exact List.take_of_length_le (Nat.le_of_eq W.hand_len)
    have run := LY_xf n s (W.handS (s % 18446744073709551616) i) i l hn hs hi hll (by omega)
    rw [e, el] at run
    rw [e, el]; exact run
theorem few_ok (l : List Int) (o n : Nat) (hl : o + n ≤ l.length) (hn : n ≤ 1073741824) :
    Contract0 Try.prog 22 [(.c (.sl 1 0 o n 1)), (.c (.int .i64 (n : Int)))] [(1, (.one ⟨false, false, (.ints .u8 l)⟩))] 2 (.c (.sl 2 0 0 n 1)) [] [(2, (.one ⟨true, false, (.ints .u8 (List.take n (List.drop o l)))⟩))] := by
  have h := few_raw l o n n hl hn
  rwa [Nat.min_self] at h
theorem tagOf_box {k nn A t : List Int} (ht : W.bytes t) : List.take 16 (List.drop t.length (W.box k nn A t)) = W.boxTag k nn A (W.apply k 1 nn t) ∧ List.take t.length (W.box k nn A t) = W.apply k 1 nn t := by
  unfold W.box
  have e : (W.apply k 1 nn t).length = t.length := W.apply_len
  constructor
  · rw [← e, List.drop_left, ]
    exact List.take_of_length_le (Nat.le_of_eq W.boxTag_len)
  · rw [← e, List.take_left]
/-- What was sealed is opened. -/
theorem open_box (k nn la t : List Int) (oa na q : Nat) (hk : k.length = 32) (hn : nn.length = 12) (hla : oa + na ≤ la.length) (ha : na ≤ 1073741824) (hq : q = t.length) (hm : q ≤ 1073741808) (hba : W.bytes la) (hbt : W.bytes t) :
    Contract0 Try.prog 33 [(.aggi .u8 k), (.aggi .u8 nn), (.c (.sl 1 0 oa na 1)), (.c (.sl 2 0 0 (q + 16) 1))] [(1, (.one ⟨false, false, (.ints .u8 la)⟩)), (2, (.one ⟨false, false, (.ints .u8 (W.box k nn (List.take na (List.drop oa la)) t))⟩))] 3 (.tup [(.c (.sl 3 0 0 q 1)), (.c (.int .i64 0))]) [] [(3, (.one ⟨true, false, (.ints .u8 t)⟩))] := by
  obtain ⟨h1, h2⟩ := tagOf_box (k := k) (nn := nn) (A := List.take na (List.drop oa la)) hbt
  have e : q + 16 - 16 = q := by omega
  have e2 : List.take q (List.drop 0 (W.box k nn (List.take na (List.drop oa la)) t)) = W.apply k 1 nn t := by rw [List.drop_zero, hq]; exact h2
  have run := open_ok_ft k nn la (W.box k nn (List.take na (List.drop oa la)) t) oa na 0 (q + 16) hk hn hla (by rw [W.box_len]; omega) ha (by omega) hba W.box_bytes (by omega) (by
    rw [e, Nat.zero_add, e2, hq, h1]
    exact (List.take_of_length_le (Nat.le_of_eq W.boxTag_len)).symm)
  rw [e, e2, apply_apply hbt] at run
  exact run
theorem str_self {l : List Int} {n : Nat} : ((⟨((List.take n (List.take n l)).map fun n => UInt8.ofNat n.toNat).toArray⟩ : ByteArray).toList == (⟨((List.take n l).map fun n => UInt8.ofNat n.toNat).toArray⟩ : ByteArray).toList) = true := by
  rw [tk1]; exact beq_self_eq_true _
end Go.Proofs.Ytokhfkjkeebfpaa.Vm

namespace Go.Proofs.Ytokhfkjkeebfpaa.Vm
open Go Go.Proofs Go.Proofs.Ytokhfkjkeebfpaa
set_option maxRecDepth 100000
theorem hand_ok (n : Nat) (s : Int)
    (hn : n ≤ 1073741824)
    (hs : -9223372036854775808 ≤ s ∧ s < 9223372036854775808) :
    Contract0 Try.prog 20 [(.c (.int .i64 (↑n))), (.c (.int .i64 s))] [] 1 (.c (.sl 1 0 0 n 1)) [] [(1, (.one ⟨true, true, (.ints .u8 (W.hand n s))⟩))] :=
  Contract0.renum (Contract0.of_frun (res := (.c (.sl 33 0 0 n 1))) (up := [(33, (.one ⟨true, true, (.ints .u8 (W.hand n s))⟩))]) (kill := []) (n0 := 1) (m := []) (args := [(.c (.int .i64 (↑n))), (.c (.int .i64 s))]) (fn := Try.f20) (c := bodyOf Try.f20) (fuel := 300) (k := kOf Try.prog Try.f20) (outs := [33]) (hs := [(2, ⟨.ask, none⟩), (8, ⟨.sum ⟨[0, 4, 5, 6, 7], [33], [], 129⟩ (.exit 0) (LYI n (W.handS (s % 18446744073709551616) n) n (W.hand n s)), none⟩)])
    (cs := [CodeOk Try.prog 27 129 (kAt (kOf Try.prog Try.f20) [true, true, true, false, true, false]) (LY0 n s) (.exit 0) (LYI n (W.handS (s % 18446744073709551616) n) n (W.hand n s)),
      ((0 : Int) ≤ (↑n : Int) ∧ (↑n : Int) ≤ (↑n : Int) ∧ (↑n : Int) ≤ (4294967296 : Int) ∧ (1 : Nat) * n ≤ (4398046511104 : Nat))])
    mixed Try.func20 (by kernel_rfl) (by kernel_rfl) (by kernel_rfl) (by kernel_rfl) (by kernel_rfl) ⟨(hand_loop n s (by omega) (by omega)), (by omega), trivial⟩) [] [] [(33, 1)] [] (by kernel_rfl) (by kernel_rfl) (by kernel_rfl) (by kernel_rfl) (by kernel_rfl)


-- hand_ok: 99 ms
theorem known6 :
    PureF Try.prog 32 [] (.c (.bool (true))) :=
  Contract0.of_frun (res := (.c (.bool (true)))) (up := []) (kill := []) (n0 := 1) (m := []) (args := []) (fn := Try.f32) (c := bodyOf Try.f32) (fuel := 300) (k := kOf Try.prog Try.f32) (outs := []) (hs := [(1, ⟨.call [] (.aggi .u8 [134, 225, 85, 118, 129, 181, 81, 74, 247, 131, 105, 122, 38, 89, 224, 106, 12, 217, 196, 114, 123, 151, 182, 36, 175, 30, 61, 74, 47, 207, 74, 184]) [] [], none⟩), (5, ⟨.call [] (.aggi .u8 (W.nonce 7)) [] [], none⟩), (10, ⟨.call [113, 145] (.c (.sl 161 0 0 20 1)) [] [(161, (.one ⟨true, false, (.ints .u8 (W.box [134, 225, 85, 118, 129, 181, 81, 74, 247, 131, 105, 122, 38, 89, 224, 106, 12, 217, 196, 114, 123, 151, 182, 36, 175, 30, 61, 74, 47, 207, 74, 184] (W.nonce 7) (List.take 2 [97, 100]) (List.take 4 [116, 101, 120, 116])))⟩))], none⟩), (13, ⟨.call [] (.aggi .u8 (W.nonce 7)) [] [], none⟩), (17, ⟨.call [241, 161] (.tup [(.c (.sl 273 0 0 4 1)), (.c (.int .i64 0))]) [] [(273, (.one ⟨true, false, (.ints .u8 [116, 101, 120, 116])⟩))], none⟩), (24, ⟨.call [] (.aggi .u8 (W.nonce 7)) [] [], none⟩), (26, ⟨.call [401] (.tup [(.c .nils), (.c (.int .i64 7))]) [] [], none⟩), (51, ⟨.call [] (.aggi .u8 (W.nonce 258)) [] [], none⟩)])
    (cs := [Contract Try.prog 31 [(.c (.int .u64 258))] [] 817 (.aggi .u8 (W.nonce 258)) [] [],
      Contract Try.prog 33 [(.aggi .u8 [134, 225, 85, 118, 129, 181, 81, 74, 247, 131, 105, 122, 38, 89, 224, 106, 12, 217, 196, 114, 123, 151, 182, 36, 175, 30, 61, 74, 47, 207, 74, 184]), (.aggi .u8 (W.nonce 7)), (.c .nils), (.c (.sl 401 0 0 15 1))] [(401, (.one ⟨true, true, (.ints .u8 [0, 0, 0, 0, 0, 0, 0, 0, 0, 0, 0, 0, 0, 0, 0])⟩))] 417 (.tup [(.c .nils), (.c (.int .i64 7))]) [] [],
      Contract Try.prog 31 [(.c (.int .u64 7))] [] 385 (.aggi .u8 (W.nonce 7)) [] [],
      Contract Try.prog 33 [(.aggi .u8 [134, 225, 85, 118, 129, 181, 81, 74, 247, 131, 105, 122, 38, 89, 224, 106, 12, 217, 196, 114, 123, 151, 182, 36, 175, 30, 61, 74, 47, 207, 74, 184]), (.aggi .u8 (W.nonce 7)), (.c (.sl 241 0 0 2 1)), (.c (.sl 161 0 0 20 1))] [(241, (.one ⟨false, true, (.cells [(.int .u8 97), (.int .u8 100)])⟩)), (161, (.one ⟨true, false, (.ints .u8 (W.box [134, 225, 85, 118, 129, 181, 81, 74, 247, 131, 105, 122, 38, 89, 224, 106, 12, 217, 196, 114, 123, 151, 182, 36, 175, 30, 61, 74, 47, 207, 74, 184] (W.nonce 7) (List.take 2 [97, 100]) (List.take 4 [116, 101, 120, 116])))⟩))] 273 (.tup [(.c (.sl 273 0 0 4 1)), (.c (.int .i64 0))]) [] [(273, (.one ⟨true, false, (.ints .u8 [116, 101, 120, 116])⟩))],
      Contract Try.prog 31 [(.c (.int .u64 7))] [] 209 (.aggi .u8 (W.nonce 7)) [] [],
      Contract Try.prog 30 [(.aggi .u8 [134, 225, 85, 118, 129, 181, 81, 74, 247, 131, 105, 122, 38, 89, 224, 106, 12, 217, 196, 114, 123, 151, 182, 36, 175, 30, 61, 74, 47, 207, 74, 184]), (.aggi .u8 (W.nonce 7)), (.c (.sl 113 0 0 2 1)), (.c (.sl 145 0 0 4 1))] [(113, (.one ⟨false, true, (.cells [(.int .u8 97), (.int .u8 100)])⟩)), (145, (.one ⟨false, true, (.cells [(.int .u8 116), (.int .u8 101), (.int .u8 120), (.int .u8 116)])⟩))] 161 (.c (.sl 161 0 0 20 1)) [] [(161, (.one ⟨true, false, (.ints .u8 (W.box [134, 225, 85, 118, 129, 181, 81, 74, 247, 131, 105, 122, 38, 89, 224, 106, 12, 217, 196, 114, 123, 151, 182, 36, 175, 30, 61, 74, 47, 207, 74, 184] (W.nonce 7) (List.take 2 [97, 100]) (List.take 4 [116, 101, 120, 116])))⟩))],
      Contract Try.prog 31 [(.c (.int .u64 7))] [] 81 (.aggi .u8 (W.nonce 7)) [] [],
      Contract Try.prog 54 [(.c (.int .i64 1))] [] 17 (.aggi .u8 [134, 225, 85, 118, 129, 181, 81, 74, 247, 131, 105, 122, 38, 89, 224, 106, 12, 217, 196, 114, 123, 151, 182, 36, 175, 30, 61, 74, 47, 207, 74, 184]) [] []])
    mixed Try.func32 (by kernel_rfl) (by kernel_rfl) (by kernel_rfl) (by kernel_rfl) (by kernel_rfl) ⟨Contract0.inst (nonce_ok 258 (by omega)) [] [none] [] [] (by kernel_rfl) (by kernel_rfl) (by kernel_rfl) (by kernel_rfl) (by kernel_rfl), Contract0.inst (open_ok_t ([134, 225, 85, 118, 129, 181, 81, 74, 247, 131, 105, 122, 38, 89, 224, 106, 12, 217, 196, 114, 123, 151, 182, 36, 175, 30, 61, 74, 47, 207, 74, 184]) (W.nonce 7) [] ([0, 0, 0, 0, 0, 0, 0, 0, 0, 0, 0, 0, 0, 0, 0]) 0 0 0 15 (by simp only [and_true, List.length_set, List.length_append, List.length_replicate, List.length_take, List.length_drop, List.length_map, List.length_cons, List.length_nil, List.length_zipWith, splice_len1, W.le_len, W.bts_len, Int.toNat_natCast, addO_eq, mulE_eq, mulE_one, W.once_len, W.block_len, W.p8_len, W.apply_len, W.boxTag_len, W.box_len, W.nonce_len, W.hand_len, W.tag_len]) (by simp only [and_true, List.length_set, List.length_append, List.length_replicate, List.length_take, List.length_drop, List.length_map, List.length_cons, List.length_nil, List.length_zipWith, splice_len1, W.le_len, W.bts_len, Int.toNat_natCast, addO_eq, mulE_eq, mulE_one, W.once_len, W.block_len, W.p8_len, W.apply_len, W.boxTag_len, W.box_len, W.nonce_len, W.hand_len, W.tag_len]) (by omega) (by simp only [and_true, List.length_set, List.length_append, List.length_replicate, List.length_take, List.length_drop, List.length_map, List.length_cons, List.length_nil, List.length_zipWith, splice_len1, W.le_len, W.bts_len, Int.toNat_natCast, addO_eq, mulE_eq, mulE_one, W.once_len, W.block_len, W.p8_len, W.apply_len, W.boxTag_len, W.box_len, W.nonce_len, W.hand_len, W.tag_len]; omega) (by omega) (by omega) (by repeat' with_reducible first | assumption | exact W.p8_bytes | exact W.bytes_zero | exact W.apply_bytes | exact W.once_bytes | exact W.tag_bytes | exact W.boxTag_bytes | exact W.box_bytes | exact W.bytes_nil | exact W.bts_bytes | exact W.le_bytes | exact W.hand_bytes | apply W.bytes_app | apply W.bytes_take | apply W.bytes_drop) (by simp only [W.bytes, List.forall_mem_cons]; decide) (by omega)) [.z 1 (.ints .u8 []), .b 401 2 true []] [none, none, some (1, 1), none] [] [] (by kernel_rfl) (by kernel_rfl) (by kernel_rfl) (by kernel_rfl) (by kernel_rfl), Contract0.inst (nonce_ok 7 (by omega)) [] [none] [] [] (by kernel_rfl) (by kernel_rfl) (by kernel_rfl) (by kernel_rfl) (by kernel_rfl), Contract0.inst (open_box ([134, 225, 85, 118, 129, 181, 81, 74, 247, 131, 105, 122, 38, 89, 224, 106, 12, 217, 196, 114, 123, 151, 182, 36, 175, 30, 61, 74, 47, 207, 74, 184]) (W.nonce 7) ([97, 100]) (List.take 4 [116, 101, 120, 116]) 0 2 4 (by simp only [and_true, List.length_set, List.length_append, List.length_replicate, List.length_take, List.length_drop, List.length_map, List.length_cons, List.length_nil, List.length_zipWith, splice_len1, W.le_len, W.bts_len, Int.toNat_natCast, addO_eq, mulE_eq, mulE_one, W.once_len, W.block_len, W.p8_len, W.apply_len, W.boxTag_len, W.box_len, W.nonce_len, W.hand_len, W.tag_len]) (by simp only [and_true, List.length_set, List.length_append, List.length_replicate, List.length_take, List.length_drop, List.length_map, List.length_cons, List.length_nil, List.length_zipWith, splice_len1, W.le_len, W.bts_len, Int.toNat_natCast, addO_eq, mulE_eq, mulE_one, W.once_len, W.block_len, W.p8_len, W.apply_len, W.boxTag_len, W.box_len, W.nonce_len, W.hand_len, W.tag_len]) (by simp only [and_true, List.length_set, List.length_append, List.length_replicate, List.length_take, List.length_drop, List.length_map, List.length_cons, List.length_nil, List.length_zipWith, splice_len1, W.le_len, W.bts_len, Int.toNat_natCast, addO_eq, mulE_eq, mulE_one, W.once_len, W.block_len, W.p8_len, W.apply_len, W.boxTag_len, W.box_len, W.nonce_len, W.hand_len, W.tag_len]; omega) (by omega) (by simp only [and_true, List.length_set, List.length_append, List.length_replicate, List.length_take, List.length_drop, List.length_map, List.length_cons, List.length_nil, List.length_zipWith, splice_len1, W.le_len, W.bts_len, Int.toNat_natCast, addO_eq, mulE_eq, mulE_one, W.once_len, W.block_len, W.p8_len, W.apply_len, W.boxTag_len, W.box_len, W.nonce_len, W.hand_len, W.tag_len]; omega) (by omega) (by simp only [W.bytes, List.forall_mem_cons]; decide) (by simp only [W.bytes, List.forall_mem_cons]; decide)) [.b 241 1 true [], .b 161 2 true []] [none, none, none, none] [(3, 273)] [] (by kernel_rfl) (by kernel_rfl) (by kernel_rfl) (by kernel_rfl) (by kernel_rfl), Contract0.inst (nonce_ok 7 (by omega)) [] [none] [] [] (by kernel_rfl) (by kernel_rfl) (by kernel_rfl) (by kernel_rfl) (by kernel_rfl), Contract0.inst (seal_ok ([134, 225, 85, 118, 129, 181, 81, 74, 247, 131, 105, 122, 38, 89, 224, 106, 12, 217, 196, 114, 123, 151, 182, 36, 175, 30, 61, 74, 47, 207, 74, 184]) (W.nonce 7) ([97, 100]) ([116, 101, 120, 116]) 0 2 0 4 (by simp only [and_true, List.length_set, List.length_append, List.length_replicate, List.length_take, List.length_drop, List.length_map, List.length_cons, List.length_nil, List.length_zipWith, splice_len1, W.le_len, W.bts_len, Int.toNat_natCast, addO_eq, mulE_eq, mulE_one, W.once_len, W.block_len, W.p8_len, W.apply_len, W.boxTag_len, W.box_len, W.nonce_len, W.hand_len, W.tag_len]) (by simp only [and_true, List.length_set, List.length_append, List.length_replicate, List.length_take, List.length_drop, List.length_map, List.length_cons, List.length_nil, List.length_zipWith, splice_len1, W.le_len, W.bts_len, Int.toNat_natCast, addO_eq, mulE_eq, mulE_one, W.once_len, W.block_len, W.p8_len, W.apply_len, W.boxTag_len, W.box_len, W.nonce_len, W.hand_len, W.tag_len]) (by simp only [and_true, List.length_set, List.length_append, List.length_replicate, List.length_take, List.length_drop, List.length_map, List.length_cons, List.length_nil, List.length_zipWith, splice_len1, W.le_len, W.bts_len, Int.toNat_natCast, addO_eq, mulE_eq, mulE_one, W.once_len, W.block_len, W.p8_len, W.apply_len, W.boxTag_len, W.box_len, W.nonce_len, W.hand_len, W.tag_len]; omega) (by simp only [and_true, List.length_set, List.length_append, List.length_replicate, List.length_take, List.length_drop, List.length_map, List.length_cons, List.length_nil, List.length_zipWith, splice_len1, W.le_len, W.bts_len, Int.toNat_natCast, addO_eq, mulE_eq, mulE_one, W.once_len, W.block_len, W.p8_len, W.apply_len, W.boxTag_len, W.box_len, W.nonce_len, W.hand_len, W.tag_len]; omega) (by omega) (by omega) (by simp only [W.bytes, List.forall_mem_cons]; decide) (by simp only [W.bytes, List.forall_mem_cons]; decide)) [.b 113 1 true [], .b 145 2 true []] [none, none, none, none] [(3, 161)] [] (by kernel_rfl) (by kernel_rfl) (by kernel_rfl) (by kernel_rfl) (by kernel_rfl), Contract0.inst (nonce_ok 7 (by omega)) [] [none] [] [] (by kernel_rfl) (by kernel_rfl) (by kernel_rfl) (by kernel_rfl) (by kernel_rfl), Contract0.inst secret1 [] [none] [] [] (by kernel_rfl) (by kernel_rfl) (by kernel_rfl) (by kernel_rfl) (by kernel_rfl), trivial⟩


-- known6: 1008 ms
theorem aeadBack_t (k nn la lt : List Int) (oa na ot nt : Nat) (L : Int)
    (hk : k.length = 32)
    (hn : nn.length = 12)
    (hla : oa + na ≤ la.length)
    (hlt : ot + nt ≤ lt.length)
    (ha : na ≤ 1048576)
    (ht : nt ≤ 1048576)
    (hba : W.bytes la)
    (hbt : W.bytes lt)
    (hL : -9223372036854775808 ≤ L ∧ L < 9223372036854775808)
    (hp : (W.pick L 500 : Int) < 500)
    (h0 : (Int.tmod L (4 : Int) = (0 : Int))) :
    Contract0 Try.prog 10 [(.aggi .u8 k), (.aggi .u8 nn), (.c (.sl 1 0 oa na 1)), (.c (.sl 2 0 ot nt 1)), (.c (.int .i64 L))] [(1, (.one ⟨false, false, (.ints .u8 la)⟩)), (2, (.one ⟨false, false, (.ints .u8 lt)⟩))] 3 (.c (.bool (true))) [] [] :=
  Contract0.of_frun (res := (.c (.bool (true)))) (up := []) (kill := []) (n0 := 3) (m := [(1, (.one ⟨false, false, (.ints .u8 la)⟩)), (2, (.one ⟨false, false, (.ints .u8 lt)⟩))]) (args := [(.aggi .u8 k), (.aggi .u8 nn), (.c (.sl 1 0 oa na 1)), (.c (.sl 2 0 ot nt 1)), (.c (.int .i64 L))]) (fn := Try.f10) (c := bodyOf Try.f10) (fuel := 300) (k := kOf Try.prog Try.f10) (outs := []) (hs := [(5, ⟨.auto, some (.c (.bool (true)))⟩), (8, ⟨.call [] (.c (.int .i64 (↑(W.pick L 500)))) [] [], none⟩), (10, ⟨.call [] (.c (.sl 147 0 0 (W.pick L 500) 1)) [] [(147, (.one ⟨true, true, (.ints .u8 (W.hand (W.pick L 500) L))⟩))], none⟩), (12, ⟨.ask, some (.aggi .u8 k)⟩), (13, ⟨.ask, some (.aggi .u8 nn)⟩), (16, ⟨.call [1, 147] (.c (.sl 243 0 0 (W.pick L 500 + 16) 1)) [] [(243, (.one ⟨true, false, (.ints .u8 (W.box k nn (List.take na (List.drop oa la)) (List.take (W.pick L 500) (W.hand (W.pick L 500) L))))⟩))], none⟩), (18, ⟨.ask, some (.aggi .u8 k)⟩), (19, ⟨.ask, some (.aggi .u8 nn)⟩), (22, ⟨.call [1, 243] (.tup [(.c (.sl 339 0 0 (W.pick L 500) 1)), (.c (.int .i64 0))]) [] [(339, (.one ⟨true, false, (.ints .u8 (List.take (W.pick L 500) (W.hand (W.pick L 500) L)))⟩))], none⟩), (28, ⟨.call [] (.c (.bool (true))) [] [], none⟩), (35, ⟨.ask, none⟩), (37, ⟨.ask, none⟩), (38, ⟨.auto, some (.c (.bool (true)))⟩), (45, ⟨.auto, some (.c (.int .i64 (↑(W.pick L 500 + 16))))⟩), (46, ⟨.auto, some (.c (.bool (true)))⟩)])
    (cs := [EB ((↑(W.pick L 500 + 16) : Int) == (↑(W.pick L 500 + 16) : Int)) true,
      EI .i64 (IntKind.wrap IntKind.i64 ((↑(W.pick L 500) : Int) + 16)) ((↑(W.pick L 500 + 16) : Int)),
      EB (ByteArray.toList { data := List.toArray (List.map (fun n => UInt8.ofNat (Int.toNat n)) (List.take (W.pick L 500) (List.drop 0 (List.take (W.pick L 500) (W.hand (W.pick L 500) L))))) } == ByteArray.toList { data := List.toArray (List.map (fun n => UInt8.ofNat (Int.toNat n)) (List.take (W.pick L 500) (List.drop 0 (W.hand (W.pick L 500) L)))) }) true,
      ((0 : Nat) + W.pick L (500 : Int) ≤ List.length (W.hand (W.pick L (500 : Int)) L)),
      ((0 : Nat) + W.pick L (500 : Int) ≤ List.length (List.take (W.pick L (500 : Int)) (W.hand (W.pick L (500 : Int)) L))),
      Contract Try.prog 32 [] [] 435 (.c (.bool (true))) [] [],
      Contract Try.prog 33 [(.aggi .u8 k), (.aggi .u8 nn), (.c (.sl 1 0 oa na 1)), (.c (.sl 243 0 0 (W.pick L 500 + 16) 1))] [(1, (.one ⟨false, false, (.ints .u8 la)⟩)), (243, (.one ⟨true, false, (.ints .u8 (W.box k nn (List.take na (List.drop oa la)) (List.take (W.pick L 500) (W.hand (W.pick L 500) L))))⟩))] 339 (.tup [(.c (.sl 339 0 0 (W.pick L 500) 1)), (.c (.int .i64 0))]) [] [(339, (.one ⟨true, false, (.ints .u8 (List.take (W.pick L 500) (W.hand (W.pick L 500) L)))⟩))],
      ((.aggi .u8 (List.take 12 nn)) : V) = (.aggi .u8 nn),
      ((12 : Nat) ≤ List.length nn),
      ((.aggi .u8 (List.take 32 k)) : V) = (.aggi .u8 k),
      ((32 : Nat) ≤ List.length k),
      Contract Try.prog 30 [(.aggi .u8 k), (.aggi .u8 nn), (.c (.sl 1 0 oa na 1)), (.c (.sl 147 0 0 (W.pick L 500) 1))] [(1, (.one ⟨false, false, (.ints .u8 la)⟩)), (147, (.one ⟨true, true, (.ints .u8 (W.hand (W.pick L 500) L))⟩))] 243 (.c (.sl 243 0 0 (W.pick L 500 + 16) 1)) [] [(243, (.one ⟨true, false, (.ints .u8 (W.box k nn (List.take na (List.drop oa la)) (List.take (W.pick L 500) (W.hand (W.pick L 500) L))))⟩))],
      ((.aggi .u8 (List.take 12 nn)) : V) = (.aggi .u8 nn),
      ((12 : Nat) ≤ List.length nn),
      ((.aggi .u8 (List.take 32 k)) : V) = (.aggi .u8 k),
      ((32 : Nat) ≤ List.length k),
      Contract Try.prog 20 [(.c (.int .i64 (↑(W.pick L 500)))), (.c (.int .i64 L))] [] 147 (.c (.sl 147 0 0 (W.pick L 500) 1)) [] [(147, (.one ⟨true, true, (.ints .u8 (W.hand (W.pick L 500) L))⟩))],
      Contract Try.prog 21 [(.c (.int .i64 L)), (.c (.int .i64 500))] [] 115 (.c (.int .i64 (↑(W.pick L 500)))) [] [],
      EB (Int.tmod L 4 == 0) true])
    mixed Try.func10 (by kernel_rfl) (by kernel_rfl) (by kernel_rfl) (by kernel_rfl) (by kernel_rfl) ⟨.mk (beq_t (by omega)), .mk (by simp only [addO_eq, mulE_eq, mulE_one, Int.toNat_natCast, IntKind.wrap_i64, mmin, mmax]; omega), .mk (strEq_t (by simp only [List.take_take, Nat.min_self, List.drop_zero])), (by simp only [and_true, List.length_set, List.length_append, List.length_replicate, List.length_take, List.length_drop, List.length_map, List.length_cons, List.length_nil, List.length_zipWith, splice_len1, W.le_len, W.bts_len, Int.toNat_natCast, addO_eq, mulE_eq, mulE_one, W.once_len, W.block_len, W.p8_len, W.apply_len, W.boxTag_len, W.box_len, W.nonce_len, W.hand_len, W.tag_len]; omega), (by simp only [and_true, List.length_set, List.length_append, List.length_replicate, List.length_take, List.length_drop, List.length_map, List.length_cons, List.length_nil, List.length_zipWith, splice_len1, W.le_len, W.bts_len, Int.toNat_natCast, addO_eq, mulE_eq, mulE_one, W.once_len, W.block_len, W.p8_len, W.apply_len, W.boxTag_len, W.box_len, W.nonce_len, W.hand_len, W.tag_len]; omega), Contract0.inst known6 [] [] [] [] (by kernel_rfl) (by kernel_rfl) (by kernel_rfl) (by kernel_rfl) (by kernel_rfl), Contract0.inst (open_box k nn la (List.take (W.pick L 500) (W.hand (W.pick L 500) L)) oa na (W.pick L 500) (by omega) (by omega) (by omega) (by omega) (by simp only [and_true, List.length_set, List.length_append, List.length_replicate, List.length_take, List.length_drop, List.length_map, List.length_cons, List.length_nil, List.length_zipWith, splice_len1, W.le_len, W.bts_len, Int.toNat_natCast, addO_eq, mulE_eq, mulE_one, W.once_len, W.block_len, W.p8_len, W.apply_len, W.boxTag_len, W.box_len, W.nonce_len, W.hand_len, W.tag_len]; omega) (by omega) (by omega) (by repeat' with_reducible first | assumption | exact W.p8_bytes | exact W.bytes_zero | exact W.apply_bytes | exact W.once_bytes | exact W.tag_bytes | exact W.boxTag_bytes | exact W.box_bytes | exact W.bytes_nil | exact W.bts_bytes | exact W.le_bytes | exact W.hand_bytes | apply W.bytes_app | apply W.bytes_take | apply W.bytes_drop)) [.b 1 1 true [], .b 243 2 true []] [none, none, none, none] [(3, 339)] [] (by kernel_rfl) (by kernel_rfl) (by kernel_rfl) (by kernel_rfl) (by kernel_rfl), EV.aggi (List.take_of_length_le (by omega)), (by omega), EV.aggi (List.take_of_length_le (by omega)), (by omega), Contract0.inst (seal_ok k nn la (W.hand (W.pick L 500) L) oa na 0 (W.pick L 500) (by omega) (by omega) (by omega) (by simp only [and_true, List.length_set, List.length_append, List.length_replicate, List.length_take, List.length_drop, List.length_map, List.length_cons, List.length_nil, List.length_zipWith, splice_len1, W.le_len, W.bts_len, Int.toNat_natCast, addO_eq, mulE_eq, mulE_one, W.once_len, W.block_len, W.p8_len, W.apply_len, W.boxTag_len, W.box_len, W.nonce_len, W.hand_len, W.tag_len]; omega) (by omega) (by omega) (by omega) (by repeat' with_reducible first | assumption | exact W.p8_bytes | exact W.bytes_zero | exact W.apply_bytes | exact W.once_bytes | exact W.tag_bytes | exact W.boxTag_bytes | exact W.box_bytes | exact W.bytes_nil | exact W.bts_bytes | exact W.le_bytes | exact W.hand_bytes | apply W.bytes_app | apply W.bytes_take | apply W.bytes_drop)) [.b 1 1 true [], .b 147 2 true []] [none, none, none, none] [(3, 243)] [] (by kernel_rfl) (by kernel_rfl) (by kernel_rfl) (by kernel_rfl) (by kernel_rfl), EV.aggi (List.take_of_length_le (by omega)), (by omega), EV.aggi (List.take_of_length_le (by omega)), (by omega), Contract0.inst (hand_ok (W.pick L 500) L (by omega) (by omega)) [] [none, none] [(1, 147)] [] (by kernel_rfl) (by kernel_rfl) (by kernel_rfl) (by kernel_rfl) (by kernel_rfl), Contract0.inst (pick_ok L 500 (by omega) (by omega)) [] [none, none] [] [] (by kernel_rfl) (by kernel_rfl) (by kernel_rfl) (by kernel_rfl) (by kernel_rfl), .mk (beq_t h0), trivial⟩

theorem aeadBack_f (k nn la lt : List Int) (oa na ot nt : Nat) (L : Int)
    (hk : k.length = 32)
    (hn : nn.length = 12)
    (hla : oa + na ≤ la.length)
    (hlt : ot + nt ≤ lt.length)
    (ha : na ≤ 1048576)
    (ht : nt ≤ 1048576)
    (hba : W.bytes la)
    (hbt : W.bytes lt)
    (hL : -9223372036854775808 ≤ L ∧ L < 9223372036854775808)
    (hp : (W.pick L 500 : Int) < 500)
    (h0 : (¬Int.tmod L (4 : Int) = (0 : Int))) :
    Contract0 Try.prog 10 [(.aggi .u8 k), (.aggi .u8 nn), (.c (.sl 1 0 oa na 1)), (.c (.sl 2 0 ot nt 1)), (.c (.int .i64 L))] [(1, (.one ⟨false, false, (.ints .u8 la)⟩)), (2, (.one ⟨false, false, (.ints .u8 lt)⟩))] 3 (.c (.bool (true))) [] [] :=
  Contract0.of_frun (res := (.c (.bool (true)))) (up := []) (kill := []) (n0 := 3) (m := [(1, (.one ⟨false, false, (.ints .u8 la)⟩)), (2, (.one ⟨false, false, (.ints .u8 lt)⟩))]) (args := [(.aggi .u8 k), (.aggi .u8 nn), (.c (.sl 1 0 oa na 1)), (.c (.sl 2 0 ot nt 1)), (.c (.int .i64 L))]) (fn := Try.f10) (c := bodyOf Try.f10) (fuel := 300) (k := kOf Try.prog Try.f10) (outs := []) (hs := [(5, ⟨.auto, some (.c (.bool (false)))⟩), (7, ⟨.ask, some (.aggi .u8 k)⟩), (8, ⟨.ask, some (.aggi .u8 nn)⟩), (11, ⟨.call [1, 2] (.c (.sl 163 0 0 (nt + 16) 1)) [] [(163, (.one ⟨true, false, (.ints .u8 (W.box k nn (List.take na (List.drop oa la)) (List.take nt (List.drop ot lt))))⟩))], none⟩), (13, ⟨.ask, some (.aggi .u8 k)⟩), (14, ⟨.ask, some (.aggi .u8 nn)⟩), (17, ⟨.call [1, 163] (.tup [(.c (.sl 259 0 0 nt 1)), (.c (.int .i64 0))]) [] [(259, (.one ⟨true, false, (.ints .u8 (List.take nt (List.drop ot lt)))⟩))], none⟩), (23, ⟨.call [] (.c (.bool (true))) [] [], none⟩), (30, ⟨.ask, none⟩), (32, ⟨.ask, none⟩), (33, ⟨.auto, some (.c (.bool (true)))⟩), (40, ⟨.auto, some (.c (.int .i64 (↑(nt + 16))))⟩), (41, ⟨.auto, some (.c (.bool (true)))⟩)])
    (cs := [EB ((↑(nt + 16) : Int) == (↑(nt + 16) : Int)) true,
      EI .i64 (IntKind.wrap IntKind.i64 ((↑nt : Int) + 16)) ((↑(nt + 16) : Int)),
      EB (ByteArray.toList { data := List.toArray (List.map (fun n => UInt8.ofNat (Int.toNat n)) (List.take nt (List.drop 0 (List.take nt (List.drop ot lt))))) } == ByteArray.toList { data := List.toArray (List.map (fun n => UInt8.ofNat (Int.toNat n)) (List.take nt (List.drop ot lt))) }) true,
      (ot + nt ≤ List.length lt),
      ((0 : Nat) + nt ≤ List.length (List.take nt (List.drop ot lt))),
      Contract Try.prog 32 [] [] 355 (.c (.bool (true))) [] [],
      Contract Try.prog 33 [(.aggi .u8 k), (.aggi .u8 nn), (.c (.sl 1 0 oa na 1)), (.c (.sl 163 0 0 (nt + 16) 1))] [(1, (.one ⟨false, false, (.ints .u8 la)⟩)), (163, (.one ⟨true, false, (.ints .u8 (W.box k nn (List.take na (List.drop oa la)) (List.take nt (List.drop ot lt))))⟩))] 259 (.tup [(.c (.sl 259 0 0 nt 1)), (.c (.int .i64 0))]) [] [(259, (.one ⟨true, false, (.ints .u8 (List.take nt (List.drop ot lt)))⟩))],
      ((.aggi .u8 (List.take 12 nn)) : V) = (.aggi .u8 nn),
      ((12 : Nat) ≤ List.length nn),
      ((.aggi .u8 (List.take 32 k)) : V) = (.aggi .u8 k),
      ((32 : Nat) ≤ List.length k),
      Contract Try.prog 30 [(.aggi .u8 k), (.aggi .u8 nn), (.c (.sl 1 0 oa na 1)), (.c (.sl 2 0 ot nt 1))] [(1, (.one ⟨false, false, (.ints .u8 la)⟩)), (2, (.one ⟨false, false, (.ints .u8 lt)⟩))] 163 (.c (.sl 163 0 0 (nt + 16) 1)) [] [(163, (.one ⟨true, false, (.ints .u8 (W.box k nn (List.take na (List.drop oa la)) (List.take nt (List.drop ot lt))))⟩))],
      ((.aggi .u8 (List.take 12 nn)) : V) = (.aggi .u8 nn),
      ((12 : Nat) ≤ List.length nn),
      ((.aggi .u8 (List.take 32 k)) : V) = (.aggi .u8 k),
      ((32 : Nat) ≤ List.length k),
      EB (Int.tmod L 4 == 0) false])
    mixed Try.func10 (by kernel_rfl) (by kernel_rfl) (by kernel_rfl) (by kernel_rfl) (by kernel_rfl) ⟨.mk (beq_t (by omega)), .mk (by simp only [addO_eq, mulE_eq, mulE_one, Int.toNat_natCast, IntKind.wrap_i64, mmin, mmax]; omega), .mk (strEq_t (by simp only [List.take_take, Nat.min_self, List.drop_zero])), (by omega), (by simp only [and_true, List.length_set, List.length_append, List.length_replicate, List.length_take, List.length_drop, List.length_map, List.length_cons, List.length_nil, List.length_zipWith, splice_len1, W.le_len, W.bts_len, Int.toNat_natCast, addO_eq, mulE_eq, mulE_one, W.once_len, W.block_len, W.p8_len, W.apply_len, W.boxTag_len, W.box_len, W.nonce_len, W.hand_len, W.tag_len]; omega), Contract0.inst known6 [] [] [] [] (by kernel_rfl) (by kernel_rfl) (by kernel_rfl) (by kernel_rfl) (by kernel_rfl), Contract0.inst (open_box k nn la (List.take nt (List.drop ot lt)) oa na nt (by omega) (by omega) (by omega) (by omega) (by simp only [and_true, List.length_set, List.length_append, List.length_replicate, List.length_take, List.length_drop, List.length_map, List.length_cons, List.length_nil, List.length_zipWith, splice_len1, W.le_len, W.bts_len, Int.toNat_natCast, addO_eq, mulE_eq, mulE_one, W.once_len, W.block_len, W.p8_len, W.apply_len, W.boxTag_len, W.box_len, W.nonce_len, W.hand_len, W.tag_len]; omega) (by omega) (by omega) (by repeat' with_reducible first | assumption | exact W.p8_bytes | exact W.bytes_zero | exact W.apply_bytes | exact W.once_bytes | exact W.tag_bytes | exact W.boxTag_bytes | exact W.box_bytes | exact W.bytes_nil | exact W.bts_bytes | exact W.le_bytes | exact W.hand_bytes | apply W.bytes_app | apply W.bytes_take | apply W.bytes_drop)) [.b 1 1 true [], .b 163 2 true []] [none, none, none, none] [(3, 259)] [] (by kernel_rfl) (by kernel_rfl) (by kernel_rfl) (by kernel_rfl) (by kernel_rfl), EV.aggi (List.take_of_length_le (by omega)), (by omega), EV.aggi (List.take_of_length_le (by omega)), (by omega), Contract0.inst (seal_ok k nn la lt oa na ot nt (by omega) (by omega) (by omega) (by omega) (by omega) (by omega) (by omega) (by omega)) [.b 1 1 true [], .b 2 2 true []] [none, none, none, none] [(3, 163)] [] (by kernel_rfl) (by kernel_rfl) (by kernel_rfl) (by kernel_rfl) (by kernel_rfl), EV.aggi (List.take_of_length_le (by omega)), (by omega), EV.aggi (List.take_of_length_le (by omega)), (by omega), .mk (beq_f h0), trivial⟩


-- aeadBack: 1440 ms
end Go.Proofs.Ytokhfkjkeebfpaa.Vm

namespace Go.Proofs.Ytokhfkjkeebfpaa.Vm
open Go Go.Proofs Go.Proofs.Ytokhfkjkeebfpaa
theorem aeadBack_law (k : List Int) (hk : k.length = 32) (_hkb : W.bytes k) (nn : List Int) (hn : nn.length = 12) (_hnb : W.bytes nn) (la : List Int) (na : Nat) (hla : 0 + na ≤ la.length) (hba : W.bytes la) (hsa : la.length ≤ 1048576)
    (lt : List Int) (nt : Nat) (hlt : 0 + nt ≤ lt.length) (hbt : W.bytes lt) (hst : lt.length ≤ 1048576) (L : Int) (hL : -9223372036854775808 ≤ L ∧ L < 9223372036854775808) :
    Contract0 Try.prog 10 [(.aggi .u8 k), (.aggi .u8 nn), (.c (.sl 1 0 0 na 1)), (.c (.sl 2 0 0 nt 1)), (.c (.int .i64 L))] (memL [(.u8, la), (.u8, lt)] 1) 3 (.c (.bool true)) [] [] := by
  by_cases h : Int.tmod L 4 = 0
  · exact aeadBack_t k nn la lt 0 na 0 nt L hk hn hla hlt (by omega) (by omega) hba hbt hL (W.pick_lt (by decide)) h
  · exact aeadBack_f k nn la lt 0 na 0 nt L hk hn hla hlt (by omega) (by omega) hba hbt hL (W.pick_lt (by decide)) h
end Go.Proofs.Ytokhfkjkeebfpaa.Vm
