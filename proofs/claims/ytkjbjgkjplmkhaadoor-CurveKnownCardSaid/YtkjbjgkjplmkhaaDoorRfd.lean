/- What functions of the program come to: parts of the walk (Rfd). -/
import Derived.Test.YtkjbjgkjplmkhaaDoorRfc
import Derived.Test.YtkjbjgkjplmkhaaDoorCb
import Derived.KernelRfl
import Derived.Test.YtkjbjgkjplmkhaaDoorProg
set_option linter.unusedSimpArgs false
set_option linter.unusedVariables false
namespace Go.Proofs.YtkjbjgkjplmkhaaDoor.Vm
open Go Go.Proofs Go.Proofs.YtkjbjgkjplmkhaaDoor
set_option maxRecDepth 100000
noncomputable def LRI (x : Fp) (i : Int) (o : Fp) : S0 :=
  ⟨[(1, (.c (.ptr 2 0 0))), (2, (.c (.ptr 18 0 0))), (3, (.c (.ptr 50 0 0))), (4, (.c (.int .i64 i)))], [(0, (.one ⟨false, false, (.ints .u64 (W.pr))⟩)), (2, (.one ⟨true, true, (.ints .u64 (W.fd x))⟩)), (18, (.one ⟨true, true, (.ints .u64 [0, 0, 0, 0, 0, 0, 0, 0, 0, 0, 0, 0, 0, 0, 0, 0])⟩)), (50, (.one ⟨true, true, (.ints .u64 (W.fd o))⟩))], 98⟩
theorem LR_by {α : Type} (I : α → S0) (Inv : α → Prop) (μ : α → Nat) {ex : Ex} {s' : S0} (hex : ex ≠ .normal)
    (step : ∀ x, Inv x → (∃ y, Inv y ∧ μ y < μ x ∧ CodeOk Tryd.prog 23 98 (kAt (kOf Tryd.prog Tryd.f16) [true, true, false, true, false, false]) (I x) .normal (I y)) ∨ CodeOk Tryd.prog 23 98 (kAt (kOf Tryd.prog Tryd.f16) [true, true, false, true, false, false]) (I x) ex s') (x : α) (hx : Inv x) :
    CodeOk Tryd.prog 23 98 (kAt (kOf Tryd.prog Tryd.f16) [true, true, false, true, false]) (I x) ex s' := by
  have hk : (kAt (kOf Tryd.prog Tryd.f16) [true, true, false, true, false]) = .loop (kAt (kOf Tryd.prog Tryd.f16) [true, true, false, true, false, false]) := by kernel_rfl
  rw [hk]
  exact CodeOk.loop I Inv μ hex step x hx
noncomputable def LR0 (x : Fp) : S0 :=
  ⟨[(1, (.c (.ptr 2 0 0))), (2, (.c (.ptr 18 0 0))), (3, (.c (.ptr 50 0 0))), (4, (.c (.int .i64 254)))], [(0, (.one ⟨false, false, (.ints .u64 (W.pr))⟩)), (2, (.one ⟨true, true, (.ints .u64 (W.fd x))⟩)), (18, (.one ⟨true, true, (.ints .u64 [0, 0, 0, 0, 0, 0, 0, 0, 0, 0, 0, 0, 0, 0, 0, 0])⟩)), (50, (.one ⟨true, true, (.ints .u64 [1, 0, 0, 0, 0, 0, 0, 0, 0, 0, 0, 0, 0, 0, 0, 0])⟩))], 98⟩
theorem LR_rttt (x : Fp) (i : Int) (o : Fp)
    (hi : -1 ≤ i ∧ i ≤ 254)
    (h1 : (i ≥ (0 : Int)))
    (h2 : (¬i = (2 : Int)))
    (h3 : (¬i = (4 : Int))) :
    CodeOk Tryd.prog 23 98 (kAt (kOf Tryd.prog Tryd.f16) [true, true, false, true, false, false]) (LRI x i o) .normal (LRI x (i - 1) (o * o * x)) :=
  CodeOk.of_runs (fuel := 300) (v := ⟨[1, 2, 3, 4], [0, 2, 18, 50], [], 98⟩) (hs := [(1, ⟨.auto, some (.c (.bool (true)))⟩), (5, ⟨.call [0] (.aggi .u64 (W.fd (o * o))) [] [], none⟩), (9, ⟨.auto, some (.c (.bool (true)))⟩), (12, ⟨.auto, some (.c (.bool (true)))⟩), (16, ⟨.call [0] (.aggi .u64 (W.fd (o * o * x))) [] [], none⟩), (19, ⟨.auto, some (.c (.int .i64 (i - 1)))⟩)])
    (cs := [EI .i64 (IntKind.wrap IntKind.i64 (i - 1)) (i - 1),
      Contract Tryd.prog 14 [(.aggi .u64 (W.fd (o * o))), (.aggi .u64 (W.fd x))] [(0, (.one ⟨false, false, (.ints .u64 (W.pr))⟩))] 322 (.aggi .u64 (W.fd (o * o * x))) [] [],
      EB (i != 4) true,
      EB (i != 2) true,
      Contract Tryd.prog 14 [(.aggi .u64 (W.fd o)), (.aggi .u64 (W.fd o))] [(0, (.one ⟨false, false, (.ints .u64 (W.pr))⟩))] 162 (.aggi .u64 (W.fd (o * o))) [] [],
      EB (decide (i ≥ 0)) true])
    mixed (by kernel_rfl) ⟨.mk (by simp only [addO_eq, mulE_eq, mulE_one, Int.toNat_natCast, IntKind.wrap_i64, mmin, mmax]; omega), Contract0.glob (rmul (o * o) x) pr_glob (by kernel_rfl) (by kernel_rfl) (by kernel_rfl) (by kernel_rfl) 322, .mk (bne_t h3), .mk (bne_t h2), Contract0.glob (rmul o o) pr_glob (by kernel_rfl) (by kernel_rfl) (by kernel_rfl) (by kernel_rfl) 162, .mk (decide_eq_true h1), trivial⟩
theorem LR_rttf (x : Fp) (i : Int) (o : Fp)
    (hi : -1 ≤ i ∧ i ≤ 254)
    (h1 : (i ≥ (0 : Int)))
    (h2 : (¬i = (2 : Int)))
    (h3 : (¬¬i = (4 : Int))) :
    CodeOk Tryd.prog 23 98 (kAt (kOf Tryd.prog Tryd.f16) [true, true, false, true, false, false]) (LRI x i o) .normal (LRI x (i - 1) (o * o)) :=
  CodeOk.of_runs (fuel := 300) (v := ⟨[1, 2, 3, 4], [0, 2, 18, 50], [], 98⟩) (hs := [(1, ⟨.auto, some (.c (.bool (true)))⟩), (5, ⟨.call [0] (.aggi .u64 (W.fd (o * o))) [] [], none⟩), (9, ⟨.auto, some (.c (.bool (true)))⟩), (12, ⟨.auto, some (.c (.bool (false)))⟩), (15, ⟨.auto, some (.c (.int .i64 (i - 1)))⟩)])
    (cs := [EI .i64 (IntKind.wrap IntKind.i64 (i - 1)) (i - 1),
      EB (i != 4) false,
      EB (i != 2) true,
      Contract Tryd.prog 14 [(.aggi .u64 (W.fd o)), (.aggi .u64 (W.fd o))] [(0, (.one ⟨false, false, (.ints .u64 (W.pr))⟩))] 162 (.aggi .u64 (W.fd (o * o))) [] [],
      EB (decide (i ≥ 0)) true])
    mixed (by kernel_rfl) ⟨.mk (by simp only [addO_eq, mulE_eq, mulE_one, Int.toNat_natCast, IntKind.wrap_i64, mmin, mmax]; omega), .mk (bne_f (Decidable.of_not_not h3)), .mk (bne_t h2), Contract0.glob (rmul o o) pr_glob (by kernel_rfl) (by kernel_rfl) (by kernel_rfl) (by kernel_rfl) 162, .mk (decide_eq_true h1), trivial⟩
theorem LR_rtf (x : Fp) (i : Int) (o : Fp)
    (hi : -1 ≤ i ∧ i ≤ 254)
    (h1 : (i ≥ (0 : Int)))
    (h2 : (¬¬i = (2 : Int))) :
    CodeOk Tryd.prog 23 98 (kAt (kOf Tryd.prog Tryd.f16) [true, true, false, true, false, false]) (LRI x i o) .normal (LRI x (i - 1) (o * o)) :=
  CodeOk.of_runs (fuel := 300) (v := ⟨[1, 2, 3, 4], [0, 2, 18, 50], [], 98⟩) (hs := [(1, ⟨.auto, some (.c (.bool (true)))⟩), (5, ⟨.call [0] (.aggi .u64 (W.fd (o * o))) [] [], none⟩), (9, ⟨.auto, some (.c (.bool (false)))⟩), (15, ⟨.auto, some (.c (.int .i64 (i - 1)))⟩)])
    (cs := [EI .i64 (IntKind.wrap IntKind.i64 (i - 1)) (i - 1),
      EB (i != 2) false,
      Contract Tryd.prog 14 [(.aggi .u64 (W.fd o)), (.aggi .u64 (W.fd o))] [(0, (.one ⟨false, false, (.ints .u64 (W.pr))⟩))] 162 (.aggi .u64 (W.fd (o * o))) [] [],
      EB (decide (i ≥ 0)) true])
    mixed (by kernel_rfl) ⟨.mk (by simp only [addO_eq, mulE_eq, mulE_one, Int.toNat_natCast, IntKind.wrap_i64, mmin, mmax]; omega), .mk (bne_f (Decidable.of_not_not h2)), Contract0.glob (rmul o o) pr_glob (by kernel_rfl) (by kernel_rfl) (by kernel_rfl) (by kernel_rfl) 162, .mk (decide_eq_true h1), trivial⟩
theorem LR_xf (x : Fp) (i : Int) (o : Fp)
    (hi : -1 ≤ i ∧ i ≤ 254)
    (h1 : (¬i ≥ (0 : Int))) :
    CodeOk Tryd.prog 23 98 (kAt (kOf Tryd.prog Tryd.f16) [true, true, false, true, false, false]) (LRI x i o) (.exit 0) (LRI x i o) :=
  CodeOk.of_runs (fuel := 300) (v := ⟨[1, 2, 3, 4], [0, 2, 18, 50], [], 98⟩) (hs := [(1, ⟨.auto, some (.c (.bool (false)))⟩)])
    (cs := [EB (decide (i ≥ 0)) false])
    mixed (by kernel_rfl) ⟨.mk (decide_eq_false h1), trivial⟩

noncomputable def LXI (i : Int) (b : List Int) (x p q r s : Fp) : S0 :=
  ⟨[(2, (.c (.ptr 2 0 0))), (4, (.c (.ptr 34 0 0))), (5, (.c (.ptr 130 0 0))), (6, (.c (.ptr 178 0 0))), (7, (.c (.ptr 226 0 0))), (8, (.c (.ptr 274 0 0))), (9, (.c (.ptr 322 0 0))), (10, (.c (.int .i64 i)))], [(0, (.one ⟨false, false, (.ints .u64 (W.pr))⟩)), (2, (.one ⟨true, true, (.ints .u8 b)⟩)), (34, (.one ⟨true, true, (.ints .u8 [0, 0, 0, 0, 0, 0, 0, 0, 0, 0, 0, 0, 0, 0, 0, 0, 0, 0, 0, 0, 0, 0, 0, 0, 0, 0, 0, 0, 0, 0, 0, 0])⟩)), (130, (.one ⟨true, true, (.ints .u64 (W.fd x))⟩)), (178, (.one ⟨true, true, (.ints .u64 (W.fd p))⟩)), (226, (.one ⟨true, true, (.ints .u64 (W.fd q))⟩)), (274, (.one ⟨true, true, (.ints .u64 (W.fd r))⟩)), (322, (.one ⟨true, true, (.ints .u64 (W.fd s))⟩))], 370⟩
theorem LX_by {α : Type} (I : α → S0) (Inv : α → Prop) (μ : α → Nat) {ex : Ex} {s' : S0} (hex : ex ≠ .normal)
    (step : ∀ x, Inv x → (∃ y, Inv y ∧ μ y < μ x ∧ CodeOk Tryd.prog 108 370 (kAt (kOf Tryd.prog Tryd.f27) [true, true, true, true, true, true, true, false, true, false, false]) (I x) .normal (I y)) ∨ CodeOk Tryd.prog 108 370 (kAt (kOf Tryd.prog Tryd.f27) [true, true, true, true, true, true, true, false, true, false, false]) (I x) ex s') (x : α) (hx : Inv x) :
    CodeOk Tryd.prog 108 370 (kAt (kOf Tryd.prog Tryd.f27) [true, true, true, true, true, true, true, false, true, false]) (I x) ex s' := by
  have hk : (kAt (kOf Tryd.prog Tryd.f27) [true, true, true, true, true, true, true, false, true, false]) = .loop (kAt (kOf Tryd.prog Tryd.f27) [true, true, true, true, true, true, true, false, true, false, false]) := by kernel_rfl
  rw [hk]
  exact CodeOk.loop I Inv μ hex step x hx
noncomputable def LX0 (k u : Int) : S0 :=
  ⟨[(2, (.c (.ptr 2 0 0))), (4, (.c (.ptr 34 0 0))), (5, (.c (.ptr 130 0 0))), (6, (.c (.ptr 178 0 0))), (7, (.c (.ptr 226 0 0))), (8, (.c (.ptr 274 0 0))), (9, (.c (.ptr 322 0 0))), (10, (.c (.int .i64 254)))], [(0, (.one ⟨false, false, (.ints .u64 (W.pr))⟩)), (2, (.one ⟨true, true, (.ints .u8 (W.bts (k % 28948022309329048855892746252171976963317496166410141009864396001978282409984 - k % 8 + 28948022309329048855892746252171976963317496166410141009864396001978282409984)))⟩)), (34, (.one ⟨true, true, (.ints .u8 [0, 0, 0, 0, 0, 0, 0, 0, 0, 0, 0, 0, 0, 0, 0, 0, 0, 0, 0, 0, 0, 0, 0, 0, 0, 0, 0, 0, 0, 0, 0, 0])⟩)), (130, (.one ⟨true, true, (.ints .u64 (W.fd (toF (u % 57896044618658097711785492504343953926634992332820282019728792003956564819968))))⟩)), (178, (.one ⟨true, true, (.ints .u64 [1, 0, 0, 0, 0, 0, 0, 0, 0, 0, 0, 0, 0, 0, 0, 0])⟩)), (226, (.one ⟨true, true, (.ints .u64 [0, 0, 0, 0, 0, 0, 0, 0, 0, 0, 0, 0, 0, 0, 0, 0])⟩)), (274, (.one ⟨true, true, (.ints .u64 (W.fd (toF (u % 57896044618658097711785492504343953926634992332820282019728792003956564819968))))⟩)), (322, (.one ⟨true, true, (.ints .u64 [1, 0, 0, 0, 0, 0, 0, 0, 0, 0, 0, 0, 0, 0, 0, 0])⟩))], 370⟩
theorem LX_rtt (i : Int) (b : List Int) (x p q r s : Fp)
    (hi : -1 ≤ i ∧ i ≤ 254)
    (hb : b.length = 32)
    (hx : 0 ≤ (List.getD b (Int.toNat (Int.tdiv i 8)) 0) ∧ (List.getD b (Int.toNat (Int.tdiv i 8)) 0) < 256)
    (h1 : (i ≥ (0 : Int)))
    (c2 : ((0 : Int) ≤ IntKind.wrap IntKind.i64 (Int.tdiv i (8 : Int)) ∧ IntKind.wrap IntKind.i64 (Int.tdiv i (8 : Int)) < (32 : Int)))
    (h3 : (bAnd IntKind.u8 (List.getD b (addO (0 : Nat) (Int.toNat (IntKind.wrap IntKind.i64 (Int.tdiv i (8 : Int))))) (0 : Int) / (2 : Int) ^ min (Int.toNat (Int.tmod i (8 : Int) % (18446744073709551616 : Int))) (8 : Nat)) (1 : Int) = (1 : Int))) :
    CodeOk Tryd.prog 108 370 (kAt (kOf Tryd.prog Tryd.f27) [true, true, true, true, true, true, true, false, true, false, false]) (LXI i b x p q r s) .normal (LXI (i - 1) b x (((p - q) * (r + s) + (p + q) * (r - s)) * ((p - q) * (r + s) + (p + q) * (r - s))) (x * (((p - q) * (r + s) - (p + q) * (r - s)) * ((p - q) * (r + s) - (p + q) * (r - s)))) ((r + s) * (r + s) * ((r - s) * (r - s))) (((r + s) * (r + s) - (r - s) * (r - s)) * ((r + s) * (r + s) + ((r + s) * (r + s) - (r - s) * (r - s)) * toF 121665))) :=
  CodeOk.of_runs (fuel := 300) (v := ⟨[2, 4, 5, 6, 7, 8, 9, 10], [0, 2, 34, 130, 178, 226, 274, 322], [], 370⟩) (hs := [(1, ⟨.auto, some (.c (.bool (true)))⟩), (5, ⟨.ask, none⟩), (6, ⟨.ask, none⟩), (10, ⟨.ask, none⟩), (14, ⟨.auto, some (.c (.bool (true)))⟩), (26, ⟨.call [0] (.aggi .u64 (W.fd (r + s))) [] [], none⟩), (31, ⟨.call [0] (.aggi .u64 (W.fd (r - s))) [] [], none⟩), (36, ⟨.call [0] (.aggi .u64 (W.fd ((r + s) * (r + s)))) [] [], none⟩), (41, ⟨.call [0] (.aggi .u64 (W.fd ((r - s) * (r - s)))) [] [], none⟩), (46, ⟨.call [0] (.aggi .u64 (W.fd ((r + s) * (r + s) - (r - s) * (r - s)))) [] [], none⟩), (51, ⟨.call [0] (.aggi .u64 (W.fd (p - q))) [] [], none⟩), (53, ⟨.call [0] (.aggi .u64 (W.fd ((p - q) * (r + s)))) [] [], none⟩), (58, ⟨.call [0] (.aggi .u64 (W.fd (p + q))) [] [], none⟩), (60, ⟨.call [0] (.aggi .u64 (W.fd ((p + q) * (r - s)))) [] [], none⟩), (65, ⟨.call [0] (.aggi .u64 (W.fd ((p - q) * (r + s) + (p + q) * (r - s)))) [] [], none⟩), (68, ⟨.call [0] (.aggi .u64 (W.fd ((p - q) * (r + s) + (p + q) * (r - s)))) [] [], none⟩), (69, ⟨.call [0] (.aggi .u64 (W.fd (((p - q) * (r + s) + (p + q) * (r - s)) * ((p - q) * (r + s) + (p + q) * (r - s))))) [] [], none⟩), (74, ⟨.call [0] (.aggi .u64 (W.fd ((p - q) * (r + s) - (p + q) * (r - s)))) [] [], none⟩), (77, ⟨.call [0] (.aggi .u64 (W.fd ((p - q) * (r + s) - (p + q) * (r - s)))) [] [], none⟩), (78, ⟨.call [0] (.aggi .u64 (W.fd (((p - q) * (r + s) - (p + q) * (r - s)) * ((p - q) * (r + s) - (p + q) * (r - s))))) [] [], none⟩), (79, ⟨.call [0] (.aggi .u64 (W.fd (x * (((p - q) * (r + s) - (p + q) * (r - s)) * ((p - q) * (r + s) - (p + q) * (r - s)))))) [] [], none⟩), (83, ⟨.call [0] (.aggi .u64 (W.fd ((r + s) * (r + s) * ((r - s) * (r - s))))) [] [], none⟩), (89, ⟨.call [0] (.aggi .u64 (W.fd (((r + s) * (r + s) - (r - s) * (r - s)) * toF 121665))) [] [], none⟩), (90, ⟨.call [0] (.aggi .u64 (W.fd ((r + s) * (r + s) + ((r + s) * (r + s) - (r - s) * (r - s)) * toF 121665))) [] [], none⟩), (91, ⟨.call [0] (.aggi .u64 (W.fd (((r + s) * (r + s) - (r - s) * (r - s)) * ((r + s) * (r + s) + ((r + s) * (r + s) - (r - s) * (r - s)) * toF 121665)))) [] [], none⟩), (93, ⟨.auto, some (.c (.int .u8 1))⟩), (105, ⟨.auto, some (.c (.int .i64 (i - 1)))⟩)])
    (cs := [EI .i64 (IntKind.wrap IntKind.i64 (i - 1)) (i - 1),
      EI .u8 (bAnd IntKind.u8 (List.getD b (addO 0 (Int.toNat (IntKind.wrap IntKind.i64 (Int.tdiv i 8)))) 0 / 2 ^ min (Int.toNat (Int.tmod i 8 % 18446744073709551616)) 8) 1) 1,
      Contract Tryd.prog 14 [(.aggi .u64 (W.fd ((r + s) * (r + s) - (r - s) * (r - s)))), (.aggi .u64 (W.fd ((r + s) * (r + s) + ((r + s) * (r + s) - (r - s) * (r - s)) * toF 121665)))] [(0, (.one ⟨false, false, (.ints .u64 (W.pr))⟩))] 1794 (.aggi .u64 (W.fd (((r + s) * (r + s) - (r - s) * (r - s)) * ((r + s) * (r + s) + ((r + s) * (r + s) - (r - s) * (r - s)) * toF 121665)))) [] [],
      Contract Tryd.prog 18 [(.aggi .u64 (W.fd ((r + s) * (r + s)))), (.aggi .u64 (W.fd (((r + s) * (r + s) - (r - s) * (r - s)) * toF 121665)))] [(0, (.one ⟨false, false, (.ints .u64 (W.pr))⟩))] 1778 (.aggi .u64 (W.fd ((r + s) * (r + s) + ((r + s) * (r + s) - (r - s) * (r - s)) * toF 121665))) [] [],
      Contract Tryd.prog 14 [(.agg [(.int .u64 56129), (.int .u64 1), (.int .u64 0), (.int .u64 0), (.int .u64 0), (.int .u64 0), (.int .u64 0), (.int .u64 0), (.int .u64 0), (.int .u64 0), (.int .u64 0), (.int .u64 0), (.int .u64 0), (.int .u64 0), (.int .u64 0), (.int .u64 0)]), (.aggi .u64 (W.fd ((r + s) * (r + s) - (r - s) * (r - s))))] [(0, (.one ⟨false, false, (.ints .u64 (W.pr))⟩))] 1762 (.aggi .u64 (W.fd (((r + s) * (r + s) - (r - s) * (r - s)) * toF 121665))) [] [],
      Contract Tryd.prog 14 [(.aggi .u64 (W.fd ((r + s) * (r + s)))), (.aggi .u64 (W.fd ((r - s) * (r - s))))] [(0, (.one ⟨false, false, (.ints .u64 (W.pr))⟩))] 1666 (.aggi .u64 (W.fd ((r + s) * (r + s) * ((r - s) * (r - s))))) [] [],
      Contract Tryd.prog 14 [(.aggi .u64 (W.fd x)), (.aggi .u64 (W.fd (((p - q) * (r + s) - (p + q) * (r - s)) * ((p - q) * (r + s) - (p + q) * (r - s)))))] [(0, (.one ⟨false, false, (.ints .u64 (W.pr))⟩))] 1602 (.aggi .u64 (W.fd (x * (((p - q) * (r + s) - (p + q) * (r - s)) * ((p - q) * (r + s) - (p + q) * (r - s)))))) [] [],
      Contract Tryd.prog 14 [(.aggi .u64 (W.fd ((p - q) * (r + s) - (p + q) * (r - s)))), (.aggi .u64 (W.fd ((p - q) * (r + s) - (p + q) * (r - s))))] [(0, (.one ⟨false, false, (.ints .u64 (W.pr))⟩))] 1586 (.aggi .u64 (W.fd (((p - q) * (r + s) - (p + q) * (r - s)) * ((p - q) * (r + s) - (p + q) * (r - s))))) [] [],
      Contract Tryd.prog 20 [(.aggi .u64 (W.fd ((p - q) * (r + s)))), (.aggi .u64 (W.fd ((p + q) * (r - s))))] [(0, (.one ⟨false, false, (.ints .u64 (W.pr))⟩))] 1570 (.aggi .u64 (W.fd ((p - q) * (r + s) - (p + q) * (r - s)))) [] [],
      Contract Tryd.prog 20 [(.aggi .u64 (W.fd ((p - q) * (r + s)))), (.aggi .u64 (W.fd ((p + q) * (r - s))))] [(0, (.one ⟨false, false, (.ints .u64 (W.pr))⟩))] 1522 (.aggi .u64 (W.fd ((p - q) * (r + s) - (p + q) * (r - s)))) [] [],
      Contract Tryd.prog 14 [(.aggi .u64 (W.fd ((p - q) * (r + s) + (p + q) * (r - s)))), (.aggi .u64 (W.fd ((p - q) * (r + s) + (p + q) * (r - s))))] [(0, (.one ⟨false, false, (.ints .u64 (W.pr))⟩))] 1442 (.aggi .u64 (W.fd (((p - q) * (r + s) + (p + q) * (r - s)) * ((p - q) * (r + s) + (p + q) * (r - s))))) [] [],
      Contract Tryd.prog 18 [(.aggi .u64 (W.fd ((p - q) * (r + s)))), (.aggi .u64 (W.fd ((p + q) * (r - s))))] [(0, (.one ⟨false, false, (.ints .u64 (W.pr))⟩))] 1426 (.aggi .u64 (W.fd ((p - q) * (r + s) + (p + q) * (r - s)))) [] [],
      Contract Tryd.prog 18 [(.aggi .u64 (W.fd ((p - q) * (r + s)))), (.aggi .u64 (W.fd ((p + q) * (r - s))))] [(0, (.one ⟨false, false, (.ints .u64 (W.pr))⟩))] 1378 (.aggi .u64 (W.fd ((p - q) * (r + s) + (p + q) * (r - s)))) [] [],
      Contract Tryd.prog 14 [(.aggi .u64 (W.fd (p + q))), (.aggi .u64 (W.fd (r - s)))] [(0, (.one ⟨false, false, (.ints .u64 (W.pr))⟩))] 1298 (.aggi .u64 (W.fd ((p + q) * (r - s)))) [] [],
      Contract Tryd.prog 18 [(.aggi .u64 (W.fd p)), (.aggi .u64 (W.fd q))] [(0, (.one ⟨false, false, (.ints .u64 (W.pr))⟩))] 1266 (.aggi .u64 (W.fd (p + q))) [] [],
      Contract Tryd.prog 14 [(.aggi .u64 (W.fd (p - q))), (.aggi .u64 (W.fd (r + s)))] [(0, (.one ⟨false, false, (.ints .u64 (W.pr))⟩))] 1186 (.aggi .u64 (W.fd ((p - q) * (r + s)))) [] [],
      Contract Tryd.prog 20 [(.aggi .u64 (W.fd p)), (.aggi .u64 (W.fd q))] [(0, (.one ⟨false, false, (.ints .u64 (W.pr))⟩))] 1154 (.aggi .u64 (W.fd (p - q))) [] [],
      Contract Tryd.prog 20 [(.aggi .u64 (W.fd ((r + s) * (r + s)))), (.aggi .u64 (W.fd ((r - s) * (r - s))))] [(0, (.one ⟨false, false, (.ints .u64 (W.pr))⟩))] 1074 (.aggi .u64 (W.fd ((r + s) * (r + s) - (r - s) * (r - s)))) [] [],
      Contract Tryd.prog 14 [(.aggi .u64 (W.fd (r - s))), (.aggi .u64 (W.fd (r - s)))] [(0, (.one ⟨false, false, (.ints .u64 (W.pr))⟩))] 994 (.aggi .u64 (W.fd ((r - s) * (r - s)))) [] [],
      Contract Tryd.prog 14 [(.aggi .u64 (W.fd (r + s))), (.aggi .u64 (W.fd (r + s)))] [(0, (.one ⟨false, false, (.ints .u64 (W.pr))⟩))] 914 (.aggi .u64 (W.fd ((r + s) * (r + s)))) [] [],
      Contract Tryd.prog 20 [(.aggi .u64 (W.fd r)), (.aggi .u64 (W.fd s))] [(0, (.one ⟨false, false, (.ints .u64 (W.pr))⟩))] 834 (.aggi .u64 (W.fd (r - s))) [] [],
      Contract Tryd.prog 18 [(.aggi .u64 (W.fd r)), (.aggi .u64 (W.fd s))] [(0, (.one ⟨false, false, (.ints .u64 (W.pr))⟩))] 754 (.aggi .u64 (W.fd (r + s))) [] [],
      EB (bAnd IntKind.u8 (List.getD b (addO 0 (Int.toNat (IntKind.wrap IntKind.i64 (Int.tdiv i 8)))) 0 / 2 ^ min (Int.toNat (Int.tmod i 8 % 18446744073709551616)) 8) 1 == 1) true,
      ((0 : Int) ≤ Int.tmod i (8 : Int) % (18446744073709551616 : Int)),
      (addO (0 : Nat) (Int.toNat (IntKind.wrap IntKind.i64 (Int.tdiv i (8 : Int)))) + (1 : Nat) ≤ List.length b),
      ((0 : Int) ≤ IntKind.wrap IntKind.i64 (Int.tdiv i (8 : Int)) ∧ IntKind.wrap IntKind.i64 (Int.tdiv i (8 : Int)) < (32 : Int)),
      EB (decide (i ≥ 0)) true])
    mixed (by kernel_rfl) ⟨.mk (by simp only [addO_eq, mulE_eq, mulE_one, Int.toNat_natCast, IntKind.wrap_i64, mmin, mmax]; omega), .mk (by omega), Contract0.glob (rmul ((r + s) * (r + s) - (r - s) * (r - s)) ((r + s) * (r + s) + ((r + s) * (r + s) - (r - s) * (r - s)) * toF 121665)) pr_glob (by kernel_rfl) (by kernel_rfl) (by kernel_rfl) (by kernel_rfl) 1794, Contract0.glob (radd ((r + s) * (r + s)) (((r + s) * (r + s) - (r - s) * (r - s)) * toF 121665)) pr_glob (by kernel_rfl) (by kernel_rfl) (by kernel_rfl) (by kernel_rfl) 1778, Contract0.glob (rmulc ((r + s) * (r + s) - (r - s) * (r - s))) pr_glob (by kernel_rfl) (by kernel_rfl) (by kernel_rfl) (by kernel_rfl) 1762, Contract0.glob (rmul ((r + s) * (r + s)) ((r - s) * (r - s))) pr_glob (by kernel_rfl) (by kernel_rfl) (by kernel_rfl) (by kernel_rfl) 1666, Contract0.glob (rmul x (((p - q) * (r + s) - (p + q) * (r - s)) * ((p - q) * (r + s) - (p + q) * (r - s)))) pr_glob (by kernel_rfl) (by kernel_rfl) (by kernel_rfl) (by kernel_rfl) 1602, Contract0.glob (rmul ((p - q) * (r + s) - (p + q) * (r - s)) ((p - q) * (r + s) - (p + q) * (r - s))) pr_glob (by kernel_rfl) (by kernel_rfl) (by kernel_rfl) (by kernel_rfl) 1586, Contract0.glob (rsub ((p - q) * (r + s)) ((p + q) * (r - s))) pr_glob (by kernel_rfl) (by kernel_rfl) (by kernel_rfl) (by kernel_rfl) 1570, Contract0.glob (rsub ((p - q) * (r + s)) ((p + q) * (r - s))) pr_glob (by kernel_rfl) (by kernel_rfl) (by kernel_rfl) (by kernel_rfl) 1522, Contract0.glob (rmul ((p - q) * (r + s) + (p + q) * (r - s)) ((p - q) * (r + s) + (p + q) * (r - s))) pr_glob (by kernel_rfl) (by kernel_rfl) (by kernel_rfl) (by kernel_rfl) 1442, Contract0.glob (radd ((p - q) * (r + s)) ((p + q) * (r - s))) pr_glob (by kernel_rfl) (by kernel_rfl) (by kernel_rfl) (by kernel_rfl) 1426, Contract0.glob (radd ((p - q) * (r + s)) ((p + q) * (r - s))) pr_glob (by kernel_rfl) (by kernel_rfl) (by kernel_rfl) (by kernel_rfl) 1378, Contract0.glob (rmul (p + q) (r - s)) pr_glob (by kernel_rfl) (by kernel_rfl) (by kernel_rfl) (by kernel_rfl) 1298, Contract0.glob (radd p q) pr_glob (by kernel_rfl) (by kernel_rfl) (by kernel_rfl) (by kernel_rfl) 1266, Contract0.glob (rmul (p - q) (r + s)) pr_glob (by kernel_rfl) (by kernel_rfl) (by kernel_rfl) (by kernel_rfl) 1186, Contract0.glob (rsub p q) pr_glob (by kernel_rfl) (by kernel_rfl) (by kernel_rfl) (by kernel_rfl) 1154, Contract0.glob (rsub ((r + s) * (r + s)) ((r - s) * (r - s))) pr_glob (by kernel_rfl) (by kernel_rfl) (by kernel_rfl) (by kernel_rfl) 1074, Contract0.glob (rmul (r - s) (r - s)) pr_glob (by kernel_rfl) (by kernel_rfl) (by kernel_rfl) (by kernel_rfl) 994, Contract0.glob (rmul (r + s) (r + s)) pr_glob (by kernel_rfl) (by kernel_rfl) (by kernel_rfl) (by kernel_rfl) 914, Contract0.glob (rsub r s) pr_glob (by kernel_rfl) (by kernel_rfl) (by kernel_rfl) (by kernel_rfl) 834, Contract0.glob (radd r s) pr_glob (by kernel_rfl) (by kernel_rfl) (by kernel_rfl) (by kernel_rfl) 754, .mk (beq_t h3), (by omega), (by simp only [and_true, List.length_set, List.length_append, List.length_replicate, List.length_take, List.length_drop, List.length_map, List.length_cons, List.length_nil, List.length_zipWith, splice_len1, W.le_len, W.bts_len, Int.toNat_natCast, addO_eq, mulE_eq, mulE_one]; omega), c2, .mk (decide_eq_true h1), trivial⟩
theorem LX_rtf (i : Int) (b : List Int) (x p q r s : Fp)
    (hi : -1 ≤ i ∧ i ≤ 254)
    (hb : b.length = 32)
    (hx : 0 ≤ (List.getD b (Int.toNat (Int.tdiv i 8)) 0) ∧ (List.getD b (Int.toNat (Int.tdiv i 8)) 0) < 256)
    (h1 : (i ≥ (0 : Int)))
    (c2 : ((0 : Int) ≤ IntKind.wrap IntKind.i64 (Int.tdiv i (8 : Int)) ∧ IntKind.wrap IntKind.i64 (Int.tdiv i (8 : Int)) < (32 : Int)))
    (h3 : (¬bAnd IntKind.u8 (List.getD b (addO (0 : Nat) (Int.toNat (IntKind.wrap IntKind.i64 (Int.tdiv i (8 : Int))))) (0 : Int) / (2 : Int) ^ min (Int.toNat (Int.tmod i (8 : Int) % (18446744073709551616 : Int))) (8 : Nat)) (1 : Int) = (1 : Int))) :
    CodeOk Tryd.prog 108 370 (kAt (kOf Tryd.prog Tryd.f27) [true, true, true, true, true, true, true, false, true, false, false]) (LXI i b x p q r s) .normal (LXI (i - 1) b x ((p + q) * (p + q) * ((p - q) * (p - q))) (((p + q) * (p + q) - (p - q) * (p - q)) * ((p + q) * (p + q) + ((p + q) * (p + q) - (p - q) * (p - q)) * toF 121665)) (((r - s) * (p + q) + (r + s) * (p - q)) * ((r - s) * (p + q) + (r + s) * (p - q))) (x * (((r - s) * (p + q) - (r + s) * (p - q)) * ((r - s) * (p + q) - (r + s) * (p - q))))) :=
  CodeOk.of_runs (fuel := 300) (v := ⟨[2, 4, 5, 6, 7, 8, 9, 10], [0, 2, 34, 130, 178, 226, 274, 322], [], 370⟩) (hs := [(1, ⟨.auto, some (.c (.bool (true)))⟩), (5, ⟨.ask, none⟩), (6, ⟨.ask, none⟩), (10, ⟨.ask, none⟩), (14, ⟨.auto, some (.c (.bool (false)))⟩), (18, ⟨.call [0] (.aggi .u64 (W.fd (p + q))) [] [], none⟩), (23, ⟨.call [0] (.aggi .u64 (W.fd (p - q))) [] [], none⟩), (28, ⟨.call [0] (.aggi .u64 (W.fd ((p + q) * (p + q)))) [] [], none⟩), (33, ⟨.call [0] (.aggi .u64 (W.fd ((p - q) * (p - q)))) [] [], none⟩), (38, ⟨.call [0] (.aggi .u64 (W.fd ((p + q) * (p + q) - (p - q) * (p - q)))) [] [], none⟩), (43, ⟨.call [0] (.aggi .u64 (W.fd (r - s))) [] [], none⟩), (45, ⟨.call [0] (.aggi .u64 (W.fd ((r - s) * (p + q)))) [] [], none⟩), (50, ⟨.call [0] (.aggi .u64 (W.fd (r + s))) [] [], none⟩), (52, ⟨.call [0] (.aggi .u64 (W.fd ((r + s) * (p - q)))) [] [], none⟩), (57, ⟨.call [0] (.aggi .u64 (W.fd ((r - s) * (p + q) + (r + s) * (p - q)))) [] [], none⟩), (60, ⟨.call [0] (.aggi .u64 (W.fd ((r - s) * (p + q) + (r + s) * (p - q)))) [] [], none⟩), (61, ⟨.call [0] (.aggi .u64 (W.fd (((r - s) * (p + q) + (r + s) * (p - q)) * ((r - s) * (p + q) + (r + s) * (p - q))))) [] [], none⟩), (66, ⟨.call [0] (.aggi .u64 (W.fd ((r - s) * (p + q) - (r + s) * (p - q)))) [] [], none⟩), (69, ⟨.call [0] (.aggi .u64 (W.fd ((r - s) * (p + q) - (r + s) * (p - q)))) [] [], none⟩), (70, ⟨.call [0] (.aggi .u64 (W.fd (((r - s) * (p + q) - (r + s) * (p - q)) * ((r - s) * (p + q) - (r + s) * (p - q))))) [] [], none⟩), (71, ⟨.call [0] (.aggi .u64 (W.fd (x * (((r - s) * (p + q) - (r + s) * (p - q)) * ((r - s) * (p + q) - (r + s) * (p - q)))))) [] [], none⟩), (75, ⟨.call [0] (.aggi .u64 (W.fd ((p + q) * (p + q) * ((p - q) * (p - q))))) [] [], none⟩), (81, ⟨.call [0] (.aggi .u64 (W.fd (((p + q) * (p + q) - (p - q) * (p - q)) * toF 121665))) [] [], none⟩), (82, ⟨.call [0] (.aggi .u64 (W.fd ((p + q) * (p + q) + ((p + q) * (p + q) - (p - q) * (p - q)) * toF 121665))) [] [], none⟩), (83, ⟨.call [0] (.aggi .u64 (W.fd (((p + q) * (p + q) - (p - q) * (p - q)) * ((p + q) * (p + q) + ((p + q) * (p + q) - (p - q) * (p - q)) * toF 121665)))) [] [], none⟩), (86, ⟨.auto, some (.c (.bool (false)))⟩), (89, ⟨.auto, some (.c (.int .i64 (i - 1)))⟩)])
    (cs := [EI .i64 (IntKind.wrap IntKind.i64 (i - 1)) (i - 1),
      EB (bAnd IntKind.u8 (List.getD b (addO 0 (Int.toNat (IntKind.wrap IntKind.i64 (Int.tdiv i 8)))) 0 / 2 ^ min (Int.toNat (Int.tmod i 8 % 18446744073709551616)) 8) 1 == 1) false,
      Contract Tryd.prog 14 [(.aggi .u64 (W.fd ((p + q) * (p + q) - (p - q) * (p - q)))), (.aggi .u64 (W.fd ((p + q) * (p + q) + ((p + q) * (p + q) - (p - q) * (p - q)) * toF 121665)))] [(0, (.one ⟨false, false, (.ints .u64 (W.pr))⟩))] 1666 (.aggi .u64 (W.fd (((p + q) * (p + q) - (p - q) * (p - q)) * ((p + q) * (p + q) + ((p + q) * (p + q) - (p - q) * (p - q)) * toF 121665)))) [] [],
      Contract Tryd.prog 18 [(.aggi .u64 (W.fd ((p + q) * (p + q)))), (.aggi .u64 (W.fd (((p + q) * (p + q) - (p - q) * (p - q)) * toF 121665)))] [(0, (.one ⟨false, false, (.ints .u64 (W.pr))⟩))] 1650 (.aggi .u64 (W.fd ((p + q) * (p + q) + ((p + q) * (p + q) - (p - q) * (p - q)) * toF 121665))) [] [],
      Contract Tryd.prog 14 [(.agg [(.int .u64 56129), (.int .u64 1), (.int .u64 0), (.int .u64 0), (.int .u64 0), (.int .u64 0), (.int .u64 0), (.int .u64 0), (.int .u64 0), (.int .u64 0), (.int .u64 0), (.int .u64 0), (.int .u64 0), (.int .u64 0), (.int .u64 0), (.int .u64 0)]), (.aggi .u64 (W.fd ((p + q) * (p + q) - (p - q) * (p - q))))] [(0, (.one ⟨false, false, (.ints .u64 (W.pr))⟩))] 1634 (.aggi .u64 (W.fd (((p + q) * (p + q) - (p - q) * (p - q)) * toF 121665))) [] [],
      Contract Tryd.prog 14 [(.aggi .u64 (W.fd ((p + q) * (p + q)))), (.aggi .u64 (W.fd ((p - q) * (p - q))))] [(0, (.one ⟨false, false, (.ints .u64 (W.pr))⟩))] 1538 (.aggi .u64 (W.fd ((p + q) * (p + q) * ((p - q) * (p - q))))) [] [],
      Contract Tryd.prog 14 [(.aggi .u64 (W.fd x)), (.aggi .u64 (W.fd (((r - s) * (p + q) - (r + s) * (p - q)) * ((r - s) * (p + q) - (r + s) * (p - q)))))] [(0, (.one ⟨false, false, (.ints .u64 (W.pr))⟩))] 1474 (.aggi .u64 (W.fd (x * (((r - s) * (p + q) - (r + s) * (p - q)) * ((r - s) * (p + q) - (r + s) * (p - q)))))) [] [],
      Contract Tryd.prog 14 [(.aggi .u64 (W.fd ((r - s) * (p + q) - (r + s) * (p - q)))), (.aggi .u64 (W.fd ((r - s) * (p + q) - (r + s) * (p - q))))] [(0, (.one ⟨false, false, (.ints .u64 (W.pr))⟩))] 1458 (.aggi .u64 (W.fd (((r - s) * (p + q) - (r + s) * (p - q)) * ((r - s) * (p + q) - (r + s) * (p - q))))) [] [],
      Contract Tryd.prog 20 [(.aggi .u64 (W.fd ((r - s) * (p + q)))), (.aggi .u64 (W.fd ((r + s) * (p - q))))] [(0, (.one ⟨false, false, (.ints .u64 (W.pr))⟩))] 1442 (.aggi .u64 (W.fd ((r - s) * (p + q) - (r + s) * (p - q)))) [] [],
      Contract Tryd.prog 20 [(.aggi .u64 (W.fd ((r - s) * (p + q)))), (.aggi .u64 (W.fd ((r + s) * (p - q))))] [(0, (.one ⟨false, false, (.ints .u64 (W.pr))⟩))] 1394 (.aggi .u64 (W.fd ((r - s) * (p + q) - (r + s) * (p - q)))) [] [],
      Contract Tryd.prog 14 [(.aggi .u64 (W.fd ((r - s) * (p + q) + (r + s) * (p - q)))), (.aggi .u64 (W.fd ((r - s) * (p + q) + (r + s) * (p - q))))] [(0, (.one ⟨false, false, (.ints .u64 (W.pr))⟩))] 1314 (.aggi .u64 (W.fd (((r - s) * (p + q) + (r + s) * (p - q)) * ((r - s) * (p + q) + (r + s) * (p - q))))) [] [],
      Contract Tryd.prog 18 [(.aggi .u64 (W.fd ((r - s) * (p + q)))), (.aggi .u64 (W.fd ((r + s) * (p - q))))] [(0, (.one ⟨false, false, (.ints .u64 (W.pr))⟩))] 1298 (.aggi .u64 (W.fd ((r - s) * (p + q) + (r + s) * (p - q)))) [] [],
      Contract Tryd.prog 18 [(.aggi .u64 (W.fd ((r - s) * (p + q)))), (.aggi .u64 (W.fd ((r + s) * (p - q))))] [(0, (.one ⟨false, false, (.ints .u64 (W.pr))⟩))] 1250 (.aggi .u64 (W.fd ((r - s) * (p + q) + (r + s) * (p - q)))) [] [],
      Contract Tryd.prog 14 [(.aggi .u64 (W.fd (r + s))), (.aggi .u64 (W.fd (p - q)))] [(0, (.one ⟨false, false, (.ints .u64 (W.pr))⟩))] 1170 (.aggi .u64 (W.fd ((r + s) * (p - q)))) [] [],
      Contract Tryd.prog 18 [(.aggi .u64 (W.fd r)), (.aggi .u64 (W.fd s))] [(0, (.one ⟨false, false, (.ints .u64 (W.pr))⟩))] 1138 (.aggi .u64 (W.fd (r + s))) [] [],
      Contract Tryd.prog 14 [(.aggi .u64 (W.fd (r - s))), (.aggi .u64 (W.fd (p + q)))] [(0, (.one ⟨false, false, (.ints .u64 (W.pr))⟩))] 1058 (.aggi .u64 (W.fd ((r - s) * (p + q)))) [] [],
      Contract Tryd.prog 20 [(.aggi .u64 (W.fd r)), (.aggi .u64 (W.fd s))] [(0, (.one ⟨false, false, (.ints .u64 (W.pr))⟩))] 1026 (.aggi .u64 (W.fd (r - s))) [] [],
      Contract Tryd.prog 20 [(.aggi .u64 (W.fd ((p + q) * (p + q)))), (.aggi .u64 (W.fd ((p - q) * (p - q))))] [(0, (.one ⟨false, false, (.ints .u64 (W.pr))⟩))] 946 (.aggi .u64 (W.fd ((p + q) * (p + q) - (p - q) * (p - q)))) [] [],
      Contract Tryd.prog 14 [(.aggi .u64 (W.fd (p - q))), (.aggi .u64 (W.fd (p - q)))] [(0, (.one ⟨false, false, (.ints .u64 (W.pr))⟩))] 866 (.aggi .u64 (W.fd ((p - q) * (p - q)))) [] [],
      Contract Tryd.prog 14 [(.aggi .u64 (W.fd (p + q))), (.aggi .u64 (W.fd (p + q)))] [(0, (.one ⟨false, false, (.ints .u64 (W.pr))⟩))] 786 (.aggi .u64 (W.fd ((p + q) * (p + q)))) [] [],
      Contract Tryd.prog 20 [(.aggi .u64 (W.fd p)), (.aggi .u64 (W.fd q))] [(0, (.one ⟨false, false, (.ints .u64 (W.pr))⟩))] 706 (.aggi .u64 (W.fd (p - q))) [] [],
      Contract Tryd.prog 18 [(.aggi .u64 (W.fd p)), (.aggi .u64 (W.fd q))] [(0, (.one ⟨false, false, (.ints .u64 (W.pr))⟩))] 626 (.aggi .u64 (W.fd (p + q))) [] [],
      EB (bAnd IntKind.u8 (List.getD b (addO 0 (Int.toNat (IntKind.wrap IntKind.i64 (Int.tdiv i 8)))) 0 / 2 ^ min (Int.toNat (Int.tmod i 8 % 18446744073709551616)) 8) 1 == 1) false,
      ((0 : Int) ≤ Int.tmod i (8 : Int) % (18446744073709551616 : Int)),
      (addO (0 : Nat) (Int.toNat (IntKind.wrap IntKind.i64 (Int.tdiv i (8 : Int)))) + (1 : Nat) ≤ List.length b),
      ((0 : Int) ≤ IntKind.wrap IntKind.i64 (Int.tdiv i (8 : Int)) ∧ IntKind.wrap IntKind.i64 (Int.tdiv i (8 : Int)) < (32 : Int)),
      EB (decide (i ≥ 0)) true])
    mixed (by kernel_rfl) ⟨.mk (by simp only [addO_eq, mulE_eq, mulE_one, Int.toNat_natCast, IntKind.wrap_i64, mmin, mmax]; omega), .mk (beq_f (by omega)), Contract0.glob (rmul ((p + q) * (p + q) - (p - q) * (p - q)) ((p + q) * (p + q) + ((p + q) * (p + q) - (p - q) * (p - q)) * toF 121665)) pr_glob (by kernel_rfl) (by kernel_rfl) (by kernel_rfl) (by kernel_rfl) 1666, Contract0.glob (radd ((p + q) * (p + q)) (((p + q) * (p + q) - (p - q) * (p - q)) * toF 121665)) pr_glob (by kernel_rfl) (by kernel_rfl) (by kernel_rfl) (by kernel_rfl) 1650, Contract0.glob (rmulc ((p + q) * (p + q) - (p - q) * (p - q))) pr_glob (by kernel_rfl) (by kernel_rfl) (by kernel_rfl) (by kernel_rfl) 1634, Contract0.glob (rmul ((p + q) * (p + q)) ((p - q) * (p - q))) pr_glob (by kernel_rfl) (by kernel_rfl) (by kernel_rfl) (by kernel_rfl) 1538, Contract0.glob (rmul x (((r - s) * (p + q) - (r + s) * (p - q)) * ((r - s) * (p + q) - (r + s) * (p - q)))) pr_glob (by kernel_rfl) (by kernel_rfl) (by kernel_rfl) (by kernel_rfl) 1474, Contract0.glob (rmul ((r - s) * (p + q) - (r + s) * (p - q)) ((r - s) * (p + q) - (r + s) * (p - q))) pr_glob (by kernel_rfl) (by kernel_rfl) (by kernel_rfl) (by kernel_rfl) 1458, Contract0.glob (rsub ((r - s) * (p + q)) ((r + s) * (p - q))) pr_glob (by kernel_rfl) (by kernel_rfl) (by kernel_rfl) (by kernel_rfl) 1442, Contract0.glob (rsub ((r - s) * (p + q)) ((r + s) * (p - q))) pr_glob (by kernel_rfl) (by kernel_rfl) (by kernel_rfl) (by kernel_rfl) 1394, Contract0.glob (rmul ((r - s) * (p + q) + (r + s) * (p - q)) ((r - s) * (p + q) + (r + s) * (p - q))) pr_glob (by kernel_rfl) (by kernel_rfl) (by kernel_rfl) (by kernel_rfl) 1314, Contract0.glob (radd ((r - s) * (p + q)) ((r + s) * (p - q))) pr_glob (by kernel_rfl) (by kernel_rfl) (by kernel_rfl) (by kernel_rfl) 1298, Contract0.glob (radd ((r - s) * (p + q)) ((r + s) * (p - q))) pr_glob (by kernel_rfl) (by kernel_rfl) (by kernel_rfl) (by kernel_rfl) 1250, Contract0.glob (rmul (r + s) (p - q)) pr_glob (by kernel_rfl) (by kernel_rfl) (by kernel_rfl) (by kernel_rfl) 1170, Contract0.glob (radd r s) pr_glob (by kernel_rfl) (by kernel_rfl) (by kernel_rfl) (by kernel_rfl) 1138, Contract0.glob (rmul (r - s) (p + q)) pr_glob (by kernel_rfl) (by kernel_rfl) (by kernel_rfl) (by kernel_rfl) 1058, Contract0.glob (rsub r s) pr_glob (by kernel_rfl) (by kernel_rfl) (by kernel_rfl) (by kernel_rfl) 1026, Contract0.glob (rsub ((p + q) * (p + q)) ((p - q) * (p - q))) pr_glob (by kernel_rfl) (by kernel_rfl) (by kernel_rfl) (by kernel_rfl) 946, Contract0.glob (rmul (p - q) (p - q)) pr_glob (by kernel_rfl) (by kernel_rfl) (by kernel_rfl) (by kernel_rfl) 866, Contract0.glob (rmul (p + q) (p + q)) pr_glob (by kernel_rfl) (by kernel_rfl) (by kernel_rfl) (by kernel_rfl) 786, Contract0.glob (rsub p q) pr_glob (by kernel_rfl) (by kernel_rfl) (by kernel_rfl) (by kernel_rfl) 706, Contract0.glob (radd p q) pr_glob (by kernel_rfl) (by kernel_rfl) (by kernel_rfl) (by kernel_rfl) 626, .mk (beq_f h3), (by omega), (by simp only [and_true, List.length_set, List.length_append, List.length_replicate, List.length_take, List.length_drop, List.length_map, List.length_cons, List.length_nil, List.length_zipWith, splice_len1, W.le_len, W.bts_len, Int.toNat_natCast, addO_eq, mulE_eq, mulE_one]; omega), c2, .mk (decide_eq_true h1), trivial⟩
theorem LX_xf (i : Int) (b : List Int) (x p q r s : Fp)
    (hi : -1 ≤ i ∧ i ≤ 254)
    (hb : b.length = 32)
    (hx : 0 ≤ (List.getD b (Int.toNat (Int.tdiv i 8)) 0) ∧ (List.getD b (Int.toNat (Int.tdiv i 8)) 0) < 256)
    (h1 : (¬i ≥ (0 : Int))) :
    CodeOk Tryd.prog 108 370 (kAt (kOf Tryd.prog Tryd.f27) [true, true, true, true, true, true, true, false, true, false, false]) (LXI i b x p q r s) (.exit 0) (LXI i b x p q r s) :=
  CodeOk.of_runs (fuel := 300) (v := ⟨[2, 4, 5, 6, 7, 8, 9, 10], [0, 2, 34, 130, 178, 226, 274, 322], [], 370⟩) (hs := [(1, ⟨.auto, some (.c (.bool (false)))⟩)])
    (cs := [EB (decide (i ≥ 0)) false])
    mixed (by kernel_rfl) ⟨.mk (decide_eq_false h1), trivial⟩

end Go.Proofs.YtkjbjgkjplmkhaaDoor.Vm

namespace Go.Proofs.YtkjbjgkjplmkhaaDoor.Vm
open Go Go.Proofs Go.Proofs.YtkjbjgkjplmkhaaDoor
def stepR (x : Fp) (i : Nat) (o : Fp) : Fp := bif i == 2 || i == 4 then o * o else o * o * x
def invR (x : Fp) : Nat → Fp → Fp
  | 0, o => o
  | k + 1, o => invR x k (stepR x k o)
theorem stepR_exp (x : Fp) (i e : Nat) : stepR x i (fexp x e) = fexp x (stepN i e) := by
  unfold stepR stepN
  cases (i == 2 || i == 4) with
  | true => rw [cond_true, cond_true, fexp_two]
  | false =>
    rw [cond_false, cond_false]
    show _ = fexp x (2 * e) * x
    rw [fexp_two]
theorem invR_exp (x : Fp) : ∀ (k e : Nat), invR x k (fexp x e) = fexp x (expN k e)
  | 0, _ => rfl
  | k + 1, e => by rw [invR, stepR_exp, invR_exp x k]; rfl
theorem invR_from (x : Fp) (k : Nat) : invR x (k + 1) (fexp x 0) = fexp x (expN k (stepN k 0)) := by
  rw [invR, stepR_exp, invR_exp]
theorem invR_ok (x : Fp) : invR x 255 1 = finv x := by
  have h := invR_from x 254
  have e : stepN 254 0 = 1 := by decide
  rw [e] at h
  exact h
theorem rinvl (x : Fp) : CodeOk Tryd.prog 23 98 (kAt (kOf Tryd.prog Tryd.f16) [true, true, false, true, false]) (LR0 x) (.exit 0) (LRI x (-1) (finv x)) := by
  have ini : LR0 x = LRI x (((255 : Nat) : Int) - 1) 1 := by
    unfold LR0 LRI
    rw [← fd_one]
    rfl
  rw [ini]
  refine LR_by (fun y : Nat × Fp => LRI x ((y.1 : Int) - 1) y.2) (fun y => y.1 ≤ 255 ∧ invR x y.1 y.2 = finv x) (fun y => y.1) (by simp) ?_ (255, 1) ⟨Nat.le_refl _, invR_ok x⟩
  rintro ⟨k, o⟩ ⟨hk, hI⟩
  dsimp only at hk hI
  cases k with
  | zero =>
    right
    have r := LR_xf x (((0 : Nat) : Int) - 1) o (by omega) (by omega)
    rw [← hI]
    exact r
  | succ k =>
    left
    have e1 : (((k + 1 : Nat) : Int) - 1) = (k : Int) := by omega
    refine ⟨(k, stepR x k o), ⟨by dsimp only; omega, hI⟩, by dsimp only; omega, ?_⟩
    dsimp only
    rw [e1]
    by_cases q2 : k = 2
    · subst q2
      exact LR_rtf x 2 o (by omega) (by omega) (by omega)
    · by_cases q4 : k = 4
      · subst q4
        exact LR_rttf x 4 o (by omega) (by omega) (by omega) (by omega)
      · have hs : stepR x k o = o * o * x := by
          have hb : (k == 2 || k == 4) = false := by rw [Bool.or_eq_false_iff]; exact ⟨beq_false_of_ne q2, beq_false_of_ne q4⟩
          unfold stepR
          rw [hb]; rfl
        rw [hs]
        exact LR_rttt x k o (by omega) (by omega) (by omega) (by omega)
/-- The scalar's bit. -/
theorem rbit (K : Int) (n : Nat) (h : n ≤ 254) : bAnd IntKind.u8 (List.getD (W.bts K) (addO (0 : Nat) (Int.toNat (IntKind.wrap IntKind.i64 (Int.tdiv (n : Int) (8 : Int))))) (0 : Int) / (2 : Int) ^ min (Int.toNat (Int.tmod (n : Int) (8 : Int) % (18446744073709551616 : Int))) (8 : Nat)) (1 : Int) = K / 2 ^ n % 2 := by
  have e1 : IntKind.wrap IntKind.i64 (Int.tdiv (n : Int) (8 : Int)) = ((n / 8 : Nat) : Int) := by
    rw [Int.tdiv_eq_ediv_of_nonneg (by omega)]
    rw [wrapI (by unfold I64; omega)]
    omega
  have e2 : min (Int.toNat (Int.tmod (n : Int) (8 : Int) % (18446744073709551616 : Int))) 8 = n % 8 := by
    rw [Int.tmod_eq_emod_of_nonneg (by omega)]
    omega
  rw [e1, e2, Int.toNat_natCast, addO_eq, Nat.zero_add, bts_at K (show n / 8 < 32 by omega)]
  have b1 : 0 ≤ (K / 256 ^ (n / 8) % 256) / 2 ^ (n % 8) := Int.ediv_nonneg (by omega) (Int.le_of_lt (Int.pow_pos (by decide)))
  have b2 : (K / 256 ^ (n / 8) % 256) / 2 ^ (n % 8) < 256 := by
    have := Int.ediv_le_self (2 ^ (n % 8)) (show 0 ≤ K / 256 ^ (n / 8) % 256 by omega)
    omega
  rw [← bit_at K n]
  generalize (K / 256 ^ (n / 8) % 256) / 2 ^ (n % 8) = y at *
  have key : ∀ m : Nat, m < 256 → bAnd IntKind.u8 (m : Int) 1 = (m : Int) % 2 := by decide +kernel
  have := key y.toNat (by omega)
  rwa [Int.toNat_of_nonneg b1] at this
end Go.Proofs.YtkjbjgkjplmkhaaDoor.Vm
namespace Go.Proofs.YtkjbjgkjplmkhaaDoor.W
open Go.Proofs.YtkjbjgkjplmkhaaDoor.Vm
theorem la_ex (k u : Int) : ∃ y : Fp, y = (ladF (clampN k) (toF (u % 57896044618658097711785492504343953926634992332820282019728792003956564819968)) 255 ⟨1, 0, (toF (u % 57896044618658097711785492504343953926634992332820282019728792003956564819968)), 1⟩).a := ⟨_, rfl⟩
noncomputable def la (k u : Int) : Fp := Classical.choose (la_ex k u)
theorem la_eq (k u : Int) : la k u = (ladF (clampN k) (toF (u % 57896044618658097711785492504343953926634992332820282019728792003956564819968)) 255 ⟨1, 0, (toF (u % 57896044618658097711785492504343953926634992332820282019728792003956564819968)), 1⟩).a := Classical.choose_spec (la_ex k u)
theorem lb_ex (k u : Int) : ∃ y : Fp, y = (ladF (clampN k) (toF (u % 57896044618658097711785492504343953926634992332820282019728792003956564819968)) 255 ⟨1, 0, (toF (u % 57896044618658097711785492504343953926634992332820282019728792003956564819968)), 1⟩).b := ⟨_, rfl⟩
noncomputable def lb (k u : Int) : Fp := Classical.choose (lb_ex k u)
theorem lb_eq (k u : Int) : lb k u = (ladF (clampN k) (toF (u % 57896044618658097711785492504343953926634992332820282019728792003956564819968)) 255 ⟨1, 0, (toF (u % 57896044618658097711785492504343953926634992332820282019728792003956564819968)), 1⟩).b := Classical.choose_spec (lb_ex k u)
theorem lc_ex (k u : Int) : ∃ y : Fp, y = (ladF (clampN k) (toF (u % 57896044618658097711785492504343953926634992332820282019728792003956564819968)) 255 ⟨1, 0, (toF (u % 57896044618658097711785492504343953926634992332820282019728792003956564819968)), 1⟩).c := ⟨_, rfl⟩
noncomputable def lc (k u : Int) : Fp := Classical.choose (lc_ex k u)
theorem lc_eq (k u : Int) : lc k u = (ladF (clampN k) (toF (u % 57896044618658097711785492504343953926634992332820282019728792003956564819968)) 255 ⟨1, 0, (toF (u % 57896044618658097711785492504343953926634992332820282019728792003956564819968)), 1⟩).c := Classical.choose_spec (lc_ex k u)
theorem ld_ex (k u : Int) : ∃ y : Fp, y = (ladF (clampN k) (toF (u % 57896044618658097711785492504343953926634992332820282019728792003956564819968)) 255 ⟨1, 0, (toF (u % 57896044618658097711785492504343953926634992332820282019728792003956564819968)), 1⟩).d := ⟨_, rfl⟩
noncomputable def ld (k u : Int) : Fp := Classical.choose (ld_ex k u)
theorem ld_eq (k u : Int) : ld k u = (ladF (clampN k) (toF (u % 57896044618658097711785492504343953926634992332820282019728792003956564819968)) 255 ⟨1, 0, (toF (u % 57896044618658097711785492504343953926634992332820282019728792003956564819968)), 1⟩).d := Classical.choose_spec (ld_ex k u)
end Go.Proofs.YtkjbjgkjplmkhaaDoor.W
namespace Go.Proofs.YtkjbjgkjplmkhaaDoor.Vm
open Go Go.Proofs Go.Proofs.YtkjbjgkjplmkhaaDoor
theorem rxl (k u : Int) : CodeOk Tryd.prog 108 370 (kAt (kOf Tryd.prog Tryd.f27) [true, true, true, true, true, true, true, false, true, false]) (LX0 k u) (.exit 0)
    (LXI (-1) (W.bts (clampN k)) (toF (u % 57896044618658097711785492504343953926634992332820282019728792003956564819968)) (W.la k u) (W.lb k u) (W.lc k u) (W.ld k u)) := by
  rw [W.la_eq, W.lb_eq, W.lc_eq, W.ld_eq]
  have ini : LX0 k u = LXI (((255 : Nat) : Int) - 1) (W.bts (clampN k)) (toF (u % 57896044618658097711785492504343953926634992332820282019728792003956564819968)) 1 0 (toF (u % 57896044618658097711785492504343953926634992332820282019728792003956564819968)) 1 := by
    unfold LX0 LXI
    rw [← fd_one, ← fd_zero]
    rfl
  rw [ini]
  generalize toF (u % 57896044618658097711785492504343953926634992332820282019728792003956564819968) = x
  generalize clampN k = K
  refine LX_by (fun y : Nat × Q4 => LXI ((y.1 : Int) - 1) (W.bts K) x y.2.a y.2.b y.2.c y.2.d) (fun y => y.1 ≤ 255 ∧ ladF K x y.1 y.2 = ladF K x 255 ⟨1, 0, x, 1⟩) (fun y => y.1) (by simp) ?_ (255, ⟨1, 0, x, 1⟩) ⟨Nat.le_refl _, rfl⟩
  rintro ⟨n, q⟩ ⟨hn, hI⟩
  dsimp only at hn hI
  cases n with
  | zero =>
    right
    have r := LX_xf (((0 : Nat) : Int) - 1) (W.bts K) x q.a q.b q.c q.d (by omega) rfl (bts_dg K _) (by omega)
    rw [← hI]
    exact r
  | succ n =>
    left
    have e1 : (((n + 1 : Nat) : Int) - 1) = (n : Int) := by omega
    refine ⟨(n, bitF x (K / 2 ^ n % 2 == 1) q), ⟨by dsimp only; omega, hI⟩, by dsimp only; omega, ?_⟩
    dsimp only
    rw [e1]
    have c2 : ((0 : Int) ≤ IntKind.wrap IntKind.i64 (Int.tdiv (n : Int) (8 : Int)) ∧ IntKind.wrap IntKind.i64 (Int.tdiv (n : Int) (8 : Int)) < (32 : Int)) := by
      rw [Int.tdiv_eq_ediv_of_nonneg (by omega), wrapI (by unfold I64; omega)]
      omega
    have hb := rbit K n (by omega)
    by_cases h : K / 2 ^ n % 2 = 1
    · rw [h] at hb ⊢
      exact LX_rtt n (W.bts K) x q.a q.b q.c q.d (by omega) rfl (bts_dg K _) (by omega) c2 hb
    · have hf : (K / 2 ^ n % 2 == 1) = false := beq_f h
      rw [hf]
      exact LX_rtf n (W.bts K) x q.a q.b q.c q.d (by omega) rfl (bts_dg K _) (by omega) c2 (by rw [hb]; exact h)
end Go.Proofs.YtkjbjgkjplmkhaaDoor.Vm
