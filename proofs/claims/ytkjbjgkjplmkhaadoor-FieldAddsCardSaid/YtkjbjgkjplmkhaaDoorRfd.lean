/- What functions of the program come to: parts of the walk (Rfd). -/
import Derived.Test.YtkjbjgkjplmkhaaDoorRfc
import Derived.Test.YtkjbjgkjplmkhaaDoorCb
import Derived.KernelRfl
import Derived.Test.YtkjbjgkjplmkhaaDoorProg
set_option linter.unusedSimpArgs false
set_option linter.unusedVariables false
namespace Go.Proofs.YtkjbjgkjplmkhaaDoor.Vm
open Go Go.Proofs Go.Proofs.YtkjbjgkjplmkhaaDoor
set_option maxRecDepth 100000
noncomputable def LRI (x : Fp) (i : Int) (o : Fp) : S0 :=
  ⟨[(1, (.c (.ptr 2 0 0))), (2, (.c (.ptr 18 0 0))), (3, (.c (.ptr 50 0 0))), (4, (.c (.int .i64 i)))], [(0, (.one ⟨false, false, (.ints .u64 (W.pr))⟩)), (2, (.one ⟨true, true, (.ints .u64 (W.fd x))⟩)), (18, (.one ⟨true, true, (.ints .u64 [0, 0, 0, 0, 0, 0, 0, 0, 0, 0, 0, 0, 0, 0, 0, 0])⟩)), (50, (.one ⟨true, true, (.ints .u64 (W.fd o))⟩))], 98⟩
theorem LR_by {α : Type} (I : α → S0) (Inv : α → Prop) (μ : α → Nat) {ex : Ex} {s' : S0} (hex : ex ≠ .normal)
    (step : ∀ x, Inv x → (∃ y, Inv y ∧ μ y < μ x ∧ CodeOk Tryd.prog 23 98 (kAt (kOf Tryd.prog Tryd.f16) [true, true, false, true, false, false]) (I x) .normal (I y)) ∨ CodeOk Tryd.prog 23 98 (kAt (kOf Tryd.prog Tryd.f16) [true, true, false, true, false, false]) (I x) ex s') (x : α) (hx : Inv x) :
    CodeOk Tryd.prog 23 98 (kAt (kOf Tryd.prog Tryd.f16) [true, true, false, true, false]) (I x) ex s' := by
  have hk : (kAt (kOf Tryd.prog Tryd.f16) [true, true, false, true, false]) = .loop (kAt (kOf Tryd.prog Tryd.f16) [true, true, false, true, false, false]) := by kernel_rfl
  rw [hk]
  exact CodeOk.loop I Inv μ hex step x hx
noncomputable def LR0 (x : Fp) : S0 :=
  ⟨[(1, (.c (.ptr 2 0 0))), (2, (.c (.ptr 18 0 0))), (3, (.c (.ptr 50 0 0))), (4, (.c (.int .i64 254)))], [(0, (.one ⟨false, false, (.ints .u64 (W.pr))⟩)), (2, (.one ⟨true, true, (.ints .u64 (W.fd x))⟩)), (18, (.one ⟨true, true, (.ints .u64 [0, 0, 0, 0, 0, 0, 0, 0, 0, 0, 0, 0, 0, 0, 0, 0])⟩)), (50, (.one ⟨true, true, (.ints .u64 [1, 0, 0, 0, 0, 0, 0, 0, 0, 0, 0, 0, 0, 0, 0, 0])⟩))], 98⟩
theorem LR_rttt (x : Fp) (i : Int) (o : Fp)
    (hi : -1 ≤ i ∧ i ≤ 254)
    (h1 : (i ≥ (0 : Int)))
    (h2 : (¬i = (2 : Int)))
    (h3 : (¬i = (4 : Int))) :
    CodeOk Tryd.prog 23 98 (kAt (kOf Tryd.prog Tryd.f16) [true, true, false, true, false, false]) (LRI x i o) .normal (LRI x (i - 1) (o * o * x)) :=
  CodeOk.of_runs (fuel := 300) (v := ⟨[1, 2, 3, 4], [0, 2, 18, 50], [], 98⟩) (hs := [(1, ⟨.auto, some (.c (.bool (true)))⟩), (5, ⟨.call [0] (.aggi .u64 (W.fd (o * o))) [] [], none⟩), (9, ⟨.auto, some (.c (.bool (true)))⟩), (12, ⟨.auto, some (.c (.bool (true)))⟩), (16, ⟨.call [0] (.aggi .u64 (W.fd (o * o * x))) [] [], none⟩), (19, ⟨.auto, some (.c (.int .i64 (i - 1)))⟩)])
    (cs := [EI .i64 (IntKind.wrap IntKind.i64 (i - 1)) (i - 1),
      Contract Tryd.prog 14 [(.aggi .u64 (W.fd (o * o))), (.aggi .u64 (W.fd x))] [(0, (.one ⟨false, false, (.ints .u64 (W.pr))⟩))] 322 (.aggi .u64 (W.fd (o * o * x))) [] [],
      EB (i != 4) true,
      EB (i != 2) true,
      Contract Tryd.prog 14 [(.aggi .u64 (W.fd o)), (.aggi .u64 (W.fd o))] [(0, (.one ⟨false, false, (.ints .u64 (W.pr))⟩))] 162 (.aggi .u64 (W.fd (o * o))) [] [],
      EB (decide (i ≥ 0)) true])
    mixed (by kernel_rfl) ⟨.mk (by simp only [addO_eq, mulE_eq, mulE_one, Int.toNat_natCast, IntKind.wrap_i64, mmin, mmax]; omega), Contract0.glob (rmul (o * o) x) pr_glob (by kernel_rfl) (by kernel_rfl) (by kernel_rfl) (by kernel_rfl) 322, .mk (bne_t h3), .mk (bne_t h2), Contract0.glob (rmul o o) pr_glob (by kernel_rfl) (by kernel_rfl) (by kernel_rfl) (by kernel_rfl) 162, .mk (decide_eq_true h1), trivial⟩
theorem LR_rttf (x : Fp) (i : Int) (o : Fp)
    (hi : -1 ≤ i ∧ i ≤ 254)
    (h1 : (i ≥ (0 : Int)))
    (h2 : (¬i = (2 : Int)))
    (h3 : (¬¬i = (4 : Int))) :
    CodeOk Tryd.prog 23 98 (kAt (kOf Tryd.prog Tryd.f16) [true, true, false, true, false, false]) (LRI x i o) .normal (LRI x (i - 1) (o * o)) :=
  CodeOk.of_runs (fuel := 300) (v := ⟨[1, 2, 3, 4], [0, 2, 18, 50], [], 98⟩) (hs := [(1, ⟨.auto, some (.c (.bool (true)))⟩), (5, ⟨.call [0] (.aggi .u64 (W.fd (o * o))) [] [], none⟩), (9, ⟨.auto, some (.c (.bool (true)))⟩), (12, ⟨.auto, some (.c (.bool (false)))⟩), (15, ⟨.auto, some (.c (.int .i64 (i - 1)))⟩)])
    (cs := [EI .i64 (IntKind.wrap IntKind.i64 (i - 1)) (i - 1),
      EB (i != 4) false,
      EB (i != 2) true,
      Contract Tryd.prog 14 [(.aggi .u64 (W.fd o)), (.aggi .u64 (W.fd o))] [(0, (.one ⟨false, false, (.ints .u64 (W.pr))⟩))] 162 (.aggi .u64 (W.fd (o * o))) [] [],
      EB (decide (i ≥ 0)) true])
    mixed (by kernel_rfl) ⟨.mk (by simp only [addO_eq, mulE_eq, mulE_one, Int.toNat_natCast, IntKind.wrap_i64, mmin, mmax]; omega), .mk (bne_f (Decidable.of_not_not h3)), .mk (bne_t h2), Contract0.glob (rmul o o) pr_glob (by kernel_rfl) (by kernel_rfl) (by kernel_rfl) (by kernel_rfl) 162, .mk (decide_eq_true h1), trivial⟩
theorem LR_rtf (x : Fp) (i : Int) (o : Fp)
    (hi : -1 ≤ i ∧ i ≤ 254)
    (h1 : (i ≥ (0 : Int)))
    (h2 : (¬¬i = (2 : Int))) :
    CodeOk Tryd.prog 23 98 (kAt (kOf Tryd.prog Tryd.f16) [true, true, false, true, false, false]) (LRI x i o) .normal (LRI x (i - 1) (o * o)) :=
  CodeOk.of_runs (fuel := 300) (v := ⟨[1, 2, 3, 4], [0, 2, 18, 50], [], 98⟩) (hs := [(1, ⟨.auto, some (.c (.bool (true)))⟩), (5, ⟨.call [0] (.aggi .u64 (W.fd (o * o))) [] [], none⟩), (9, ⟨.auto, some (.c (.bool (false)))⟩), (15, ⟨.auto, some (.c (.int .i64 (i - 1)))⟩)])
    (cs := [EI .i64 (IntKind.wrap IntKind.i64 (i - 1)) (i - 1),
      EB (i != 2) false,
      Contract Tryd.prog 14 [(.aggi .u64 (W.fd o)), (.aggi .u64 (W.fd o))] [(0, (.one ⟨false, false, (.ints .u64 (W.pr))⟩))] 162 (.aggi .u64 (W.fd (o * o))) [] [],
      EB (decide (i ≥ 0)) true])
    mixed (by kernel_rfl) ⟨.mk (by simp only [addO_eq, mulE_eq, mulE_one, Int.toNat_natCast, IntKind.wrap_i64, mmin, mmax]; omega), .mk (bne_f (Decidable.of_not_not h2)), Contract0.glob (rmul o o) pr_glob (by kernel_rfl) (by kernel_rfl) (by kernel_rfl) (by kernel_rfl) 162, .mk (decide_eq_true h1), trivial⟩
theorem LR_xf (x : Fp) (i : Int) (o : Fp)
    (hi : -1 ≤ i ∧ i ≤ 254)
    (h1 : (¬i ≥ (0 : Int))) :
    CodeOk Tryd.prog 23 98 (kAt (kOf Tryd.prog Tryd.f16) [true, true, false, true, false, false]) (LRI x i o) (.exit 0) (LRI x i o) :=
  CodeOk.of_runs (fuel := 300) (v := ⟨[1, 2, 3, 4], [0, 2, 18, 50], [], 98⟩) (hs := [(1, ⟨.auto, some (.c (.bool (false)))⟩)])
    (cs := [EB (decide (i ≥ 0)) false])
    mixed (by kernel_rfl) ⟨.mk (decide_eq_false h1), trivial⟩

end Go.Proofs.YtkjbjgkjplmkhaaDoor.Vm

namespace Go.Proofs.YtkjbjgkjplmkhaaDoor.Vm
open Go Go.Proofs Go.Proofs.YtkjbjgkjplmkhaaDoor
def stepR (x : Fp) (i : Nat) (o : Fp) : Fp := bif i == 2 || i == 4 then o * o else o * o * x
def invR (x : Fp) : Nat → Fp → Fp
  | 0, o => o
  | k + 1, o => invR x k (stepR x k o)
theorem stepR_exp (x : Fp) (i e : Nat) : stepR x i (fexp x e) = fexp x (stepN i e) := by
  unfold stepR stepN
  cases (i == 2 || i == 4) with
  | true => rw [cond_true, cond_true, fexp_two]
  | false =>
    rw [cond_false, cond_false]
    show _ = fexp x (2 * e) * x
    rw [fexp_two]
theorem invR_exp (x : Fp) : ∀ (k e : Nat), invR x k (fexp x e) = fexp x (expN k e)
  | 0, _ => rfl
  | k + 1, e => by rw [invR, stepR_exp, invR_exp x k]; rfl
theorem invR_from (x : Fp) (k : Nat) : invR x (k + 1) (fexp x 0) = fexp x (expN k (stepN k 0)) := by
  rw [invR, stepR_exp, invR_exp]
theorem invR_ok (x : Fp) : invR x 255 1 = finv x := by
  have h := invR_from x 254
  have e : stepN 254 0 = 1 := by decide
  rw [e] at h
  exact h
theorem rinvl (x : Fp) : CodeOk Tryd.prog 23 98 (kAt (kOf Tryd.prog Tryd.f16) [true, true, false, true, false]) (LR0 x) (.exit 0) (LRI x (-1) (finv x)) := by
  have ini : LR0 x = LRI x (((255 : Nat) : Int) - 1) 1 := by
    unfold LR0 LRI
    rw [← fd_one]
    rfl
  rw [ini]
  refine LR_by (fun y : Nat × Fp => LRI x ((y.1 : Int) - 1) y.2) (fun y => y.1 ≤ 255 ∧ invR x y.1 y.2 = finv x) (fun y => y.1) (by simp) ?_ (255, 1) ⟨Nat.le_refl _, invR_ok x⟩
  rintro ⟨k, o⟩ ⟨hk, hI⟩
  dsimp only at hk hI
  cases k with
  | zero =>
    right
    have r := LR_xf x (((0 : Nat) : Int) - 1) o (by omega) (by omega)
    rw [← hI]
    exact r
  | succ k =>
    left
    have e1 : (((k + 1 : Nat) : Int) - 1) = (k : Int) := by omega
    refine ⟨(k, stepR x k o), ⟨by dsimp only; omega, hI⟩, by dsimp only; omega, ?_⟩
    dsimp only
    rw [e1]
    by_cases q2 : k = 2
    · subst q2
      exact LR_rtf x 2 o (by omega) (by omega) (by omega)
    · by_cases q4 : k = 4
      · subst q4
        exact LR_rttf x 4 o (by omega) (by omega) (by omega) (by omega)
      · have hs : stepR x k o = o * o * x := by
          have hb : (k == 2 || k == 4) = false := by rw [Bool.or_eq_false_iff]; exact ⟨beq_false_of_ne q2, beq_false_of_ne q4⟩
          unfold stepR
          rw [hb]; rfl
        rw [hs]
        exact LR_rttt x k o (by omega) (by omega) (by omega) (by omega)
end Go.Proofs.YtkjbjgkjplmkhaaDoor.Vm
namespace Go.Proofs.YtkjbjgkjplmkhaaDoor.W
open Go.Proofs.YtkjbjgkjplmkhaaDoor.Vm
theorem lc_ex (k u : Int) : ∃ y : Fp, y = (ladF (clampN k) (toF (u % 57896044618658097711785492504343953926634992332820282019728792003956564819968)) 255 ⟨1, 0, (toF (u % 57896044618658097711785492504343953926634992332820282019728792003956564819968)), 1⟩).c := ⟨_, rfl⟩
noncomputable def lc (k u : Int) : Fp := Classical.choose (lc_ex k u)
end Go.Proofs.YtkjbjgkjplmkhaaDoor.W
namespace Go.Proofs.YtkjbjgkjplmkhaaDoor.Vm
open Go Go.Proofs Go.Proofs.YtkjbjgkjplmkhaaDoor
end Go.Proofs.YtkjbjgkjplmkhaaDoor.Vm
