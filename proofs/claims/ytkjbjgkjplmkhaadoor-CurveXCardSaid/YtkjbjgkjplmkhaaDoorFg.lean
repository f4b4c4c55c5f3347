/- What functions of the program come to: parts of the walk (Fg). -/
import Derived.Test.YtkjbjgkjplmkhaaDoorFc
import Derived.KernelRfl
import Derived.Test.YtkjbjgkjplmkhaaDoorProg
import Derived.Test.YtkjbjgkjplmkhaaDoorFe
set_option linter.unusedSimpArgs false
set_option linter.unusedVariables false
namespace Go.Proofs.YtkjbjgkjplmkhaaDoor.Vm
open Go Go.Proofs Go.Proofs.YtkjbjgkjplmkhaaDoor
set_option maxRecDepth 100000
def L27I (a : W.El) (i : Int) (o : W.El) : S0 :=
  ⟨[(1, (.c (.ptr 1 0 0))), (2, (.c (.ptr 17 0 0))), (3, (.c (.ptr 49 0 0))), (4, (.c (.int .i64 i)))], [(1, (.one ⟨true, true, (.ints .u64 (W.el a))⟩)), (17, (.one ⟨true, true, (.ints .u64 [0, 0, 0, 0, 0])⟩)), (49, (.one ⟨true, true, .ints .u64 (W.el o)⟩))], 97⟩
def L27J (a o : W.El) : S0 :=
  ⟨[(1, (.c (.ptr 1 0 0))), (2, (.c (.ptr 17 0 0))), (3, (.c (.ptr 49 0 0)))], [(1, (.one ⟨true, true, (.ints .u64 (W.el a))⟩)), (17, (.one ⟨true, true, (.ints .u64 [0, 0, 0, 0, 0])⟩)), (49, (.one ⟨true, true, .ints .u64 (W.el o)⟩))], 97⟩

theorem run27_go (a : W.El) (i : Int) (o r21_1e r21_5e : W.El) (x8 : Int)
    (h0 : (decide (i ≥ 0)) = true)
    (c2 : PureF Tryd.prog 11 [(.aggi .u64 (W.el o)), (.aggi .u64 (W.el o))] (.aggi .u64 (W.el r21_1e)))
    (h3 : (i != 2) = true)
    (h4 : (i != 4) = true)
    (c6 : PureF Tryd.prog 11 [(.aggi .u64 (W.el r21_1e)), (.aggi .u64 (W.el a))] (.aggi .u64 (W.el r21_5e)))
    (h7 : (IntKind.wrap IntKind.i64 (i - 1)) = x8) :
    CodeOk Tryd.prog 23 97 (kAt (kOf Tryd.prog Tryd.f15) [true, true, false, true, false, false]) (L27I a i o) .normal (L27I a x8 r21_5e) :=
  CodeOk.of_runs (fuel := 300) (v := ⟨[1, 2, 3, 4], [1, 17, 49], [], 97⟩) (hs := [(1, ⟨.auto, some (.c (.bool (true)))⟩), (5, ⟨.call [] (.aggi .u64 (W.el r21_1e)) [] [], none⟩), (8, ⟨.auto, some (.c (.bool (true)))⟩), (11, ⟨.auto, some (.c (.bool (true)))⟩), (16, ⟨.call [] (.aggi .u64 (W.el r21_5e)) [] [], none⟩), (19, ⟨.auto, some (.c (.int .i64 x8))⟩)])
    (cs := [EI .i64 (IntKind.wrap IntKind.i64 (i - 1)) x8,
      Contract Tryd.prog 11 [(.aggi .u64 (W.el r21_1e)), (.aggi .u64 (W.el a))] [] 321 (.aggi .u64 (W.el r21_5e)) [] [],
      EB (i != 4) true,
      EB (i != 2) true,
      Contract Tryd.prog 11 [(.aggi .u64 (W.el o)), (.aggi .u64 (W.el o))] [] 161 (.aggi .u64 (W.el r21_1e)) [] [],
      EB (decide (i ≥ 0)) true])
    mixed (by kernel_rfl) ⟨.mk h7, c6.use (by kernel_rfl) rfl rfl _ _, .mk h4, .mk h3, c2.use (by kernel_rfl) rfl rfl _ _, .mk h0, trivial⟩

theorem run27_2 (a : W.El) (i : Int) (o r21_1e : W.El) (x5 : Int)
    (h0 : (decide (i ≥ 0)) = true)
    (c2 : PureF Tryd.prog 11 [(.aggi .u64 (W.el o)), (.aggi .u64 (W.el o))] (.aggi .u64 (W.el r21_1e)))
    (h3 : (i != 2) = false)
    (h4 : (IntKind.wrap IntKind.i64 (i - 1)) = x5) :
    CodeOk Tryd.prog 23 97 (kAt (kOf Tryd.prog Tryd.f15) [true, true, false, true, false, false]) (L27I a i o) .normal (L27I a x5 r21_1e) :=
  CodeOk.of_runs (fuel := 300) (v := ⟨[1, 2, 3, 4], [1, 17, 49], [], 97⟩) (hs := [(1, ⟨.auto, some (.c (.bool (true)))⟩), (5, ⟨.call [] (.aggi .u64 (W.el r21_1e)) [] [], none⟩), (8, ⟨.auto, some (.c (.bool (false)))⟩), (15, ⟨.auto, some (.c (.int .i64 x5))⟩)])
    (cs := [EI .i64 (IntKind.wrap IntKind.i64 (i - 1)) x5,
      EB (i != 2) false,
      Contract Tryd.prog 11 [(.aggi .u64 (W.el o)), (.aggi .u64 (W.el o))] [] 161 (.aggi .u64 (W.el r21_1e)) [] [],
      EB (decide (i ≥ 0)) true])
    mixed (by kernel_rfl) ⟨.mk h4, .mk h3, c2.use (by kernel_rfl) rfl rfl _ _, .mk h0, trivial⟩

theorem run27_4 (a : W.El) (i : Int) (o r21_1e : W.El) (x6 : Int)
    (h0 : (decide (i ≥ 0)) = true)
    (c2 : PureF Tryd.prog 11 [(.aggi .u64 (W.el o)), (.aggi .u64 (W.el o))] (.aggi .u64 (W.el r21_1e)))
    (h3 : (i != 2) = true)
    (h4 : (i != 4) = false)
    (h5 : (IntKind.wrap IntKind.i64 (i - 1)) = x6) :
    CodeOk Tryd.prog 23 97 (kAt (kOf Tryd.prog Tryd.f15) [true, true, false, true, false, false]) (L27I a i o) .normal (L27I a x6 r21_1e) :=
  CodeOk.of_runs (fuel := 300) (v := ⟨[1, 2, 3, 4], [1, 17, 49], [], 97⟩) (hs := [(1, ⟨.auto, some (.c (.bool (true)))⟩), (5, ⟨.call [] (.aggi .u64 (W.el r21_1e)) [] [], none⟩), (8, ⟨.auto, some (.c (.bool (true)))⟩), (11, ⟨.auto, some (.c (.bool (false)))⟩), (15, ⟨.auto, some (.c (.int .i64 x6))⟩)])
    (cs := [EI .i64 (IntKind.wrap IntKind.i64 (i - 1)) x6,
      EB (i != 4) false,
      EB (i != 2) true,
      Contract Tryd.prog 11 [(.aggi .u64 (W.el o)), (.aggi .u64 (W.el o))] [] 161 (.aggi .u64 (W.el r21_1e)) [] [],
      EB (decide (i ≥ 0)) true])
    mixed (by kernel_rfl) ⟨.mk h5, .mk h4, .mk h3, c2.use (by kernel_rfl) rfl rfl _ _, .mk h0, trivial⟩

theorem run27_out (a : W.El) (i : Int) (o : W.El)
    (h0 : (decide (i ≥ 0)) = false) :
    CodeOk Tryd.prog 23 97 (kAt (kOf Tryd.prog Tryd.f15) [true, true, false, true, false, false]) (L27I a i o) (.exit 0) (L27J a o) :=
  CodeOk.of_runs (fuel := 300) (v := ⟨[1, 2, 3], [1, 17, 49], [], 97⟩) (hs := [(1, ⟨.auto, some (.c (.bool (false)))⟩)])
    (cs := [EB (decide (i ≥ 0)) false])
    mixed (by kernel_rfl) ⟨.mk h0, trivial⟩

theorem run27 (a o : W.El)
    (l0 : CodeOk Tryd.prog 23 97 (kAt (kOf Tryd.prog Tryd.f15) [true, true, false, true, false]) (L27I a 253 a) (.exit 0) (L27J a o)) :
    PureF Tryd.prog 15 [(.aggi .u64 (W.el a))] (.aggi .u64 (W.el o)) :=
  Contract0.of_frun (fn := Tryd.f15) (c := bodyOf Tryd.f15) (fuel := 300) (k := kOf Tryd.prog Tryd.f15) (outs := []) (hs := [(6, ⟨.sum ⟨[1, 2, 3, 4], [1, 17, 49], [], 97⟩ (.exit 0) (L27J a o), none⟩)])
    (cs := [CodeOk Tryd.prog 23 97 (kAt (kOf Tryd.prog Tryd.f15) [true, true, false, true, false]) (L27I a 253 a) (.exit 0) (L27J a o)])
    mixed Tryd.func15 (by kernel_rfl) (by kernel_rfl) (by kernel_rfl) rfl (by kernel_rfl) ⟨l0, trivial⟩

end Go.Proofs.YtkjbjgkjplmkhaaDoor.Vm

namespace Go.Proofs.YtkjbjgkjplmkhaaDoor.Vm
open Go Go.Proofs Go.Proofs.YtkjbjgkjplmkhaaDoor
/-- Powers in the field. -/
def fexp (x : Fp) : Nat → Fp
  | 0 => 1
  | n + 1 => fexp x n * x
theorem fexp_add (x : Fp) (m : Nat) : ∀ n, fexp x (m + n) = fexp x m * fexp x n
  | 0 => by show fexp x m = fexp x m * 1; grind
  | n + 1 => by
    show fexp x (m + n) * x = fexp x m * (fexp x n * x)
    rw [fexp_add x m n]; grind
theorem fexp_two (x : Fp) (n : Nat) : fexp x (2 * n) = fexp x n * fexp x n := by rw [Nat.two_mul, fexp_add]
theorem fexp_val (x : Fp) : ∀ n, (fexp x n).val = x.val ^ n % pN
  | 0 => rfl
  | n + 1 => by
    show (fexp x n * x).val = _
    rw [Fin.val_mul, fexp_val x n, Nat.mod_mul_mod, Nat.pow_succ]
theorem fexp_zero (n : Nat) : fexp 0 (n + 1) = 0 := by
  show fexp 0 n * 0 = 0
  grind
def stepN (i e : Nat) : Nat := bif i == 2 || i == 4 then 2 * e else 2 * e + 1
def expN : Nat → Nat → Nat
  | 0, e => e
  | k + 1, e => expN k (stepN k e)
theorem expN_eq : expN 254 1 + 1 = pN - 1 := by decide +kernel
theorem expN_pred : expN 254 1 = 57896044618658097711785492504343953926634992332820282019728792003956564819946 + 1 := by decide +kernel
/-- The inverse: of 0 it is 0. -/
def finv (x : Fp) : Fp := fexp x (expN 254 1)
theorem finv_zero : finv 0 = 0 := by
  have key : ∀ e m : Nat, e = m + 1 → fexp 0 e = 0 := fun e m h => by subst h; exact fexp_zero m
  exact key _ _ expN_pred
theorem finv_cancel {x : Fp} (h : x ≠ 0) : x * finv x = 1 := by
  have hx : x.val % pN ≠ 0 := by
    rw [Nat.mod_eq_of_lt x.isLt]
    intro e
    exact h (Fin.ext e)
  have key : ∀ n : Nat, n + 1 = pN - 1 → x * fexp x n = 1 := by
    intro n hn
    have f := pow_one_of prm_b77 (n + 1) hn x.val hx
    apply Fin.ext
    rw [Fin.val_mul, fexp_val, Nat.mul_mod_mod, Nat.mul_comm, ← Nat.pow_succ]
    exact f
  exact key _ expN_eq
noncomputable def stepO (a : W.El) (i : Nat) (o : W.El) : W.El := bif i == 2 || i == 4 then prodE o o else prodE (prodE o o) a
noncomputable def invO (a : W.El) : Nat → W.El → W.El
  | 0, o => o
  | k + 1, o => invO a k (stepO a k o)
theorem stepO_ok {a o : W.El} (ha : a.ok) (ho : o.ok) (i : Nat) {e : Nat} (h : o.f = fexp a.f e) : (stepO a i o).ok ∧ (stepO a i o).f = fexp a.f (stepN i e) := by
  obtain ⟨_, h2, h3⟩ := prodE_spec ho ho
  obtain ⟨_, h5, h6⟩ := prodE_spec h2 ha
  unfold stepO stepN
  cases hb : (i == 2 || i == 4) with
  | true => exact ⟨h2, by rw [cond_true, cond_true, h3, h, fexp_two]⟩
  | false => exact ⟨h5, by
      rw [cond_false, cond_false, h6, h3, h]
      show _ = fexp a.f (2 * e) * a.f
      rw [fexp_two]⟩
theorem invO_ok {a : W.El} (ha : a.ok) : ∀ (k : Nat) {o : W.El} (_ : o.ok) {e : Nat} (_ : o.f = fexp a.f e), (invO a k o).ok ∧ (invO a k o).f = fexp a.f (expN k e)
  | 0, _, ho, _, h => ⟨ho, h⟩
  | k + 1, _, ho, _, h => by
    obtain ⟨h1, h2⟩ := stepO_ok ha ho k h
    exact invO_ok ha k h1 h2
theorem loop27 {a : W.El} (ha : a.ok) : CodeOk Tryd.prog 23 97 (kAt (kOf Tryd.prog Tryd.f15) [true, true, false, true, false]) (L27I a 253 a) (.exit 0) (L27J a (invO a 254 a)) := by
  have key := CodeOk.loop (P := Tryd.prog) (nt := 23) (n0 := 97) (k := kAt (kOf Tryd.prog Tryd.f15) [true, true, false, true, false, false]) (ex := .exit 0) (s' := L27J a (invO a 254 a))
    (fun x : Nat × W.El => L27I a ((x.1 : Int) - 1) x.2) (fun x => x.1 ≤ 254 ∧ x.2.ok ∧ invO a x.1 x.2 = invO a 254 a) (fun x => x.1) (by simp) ?_ (254, a) ⟨Nat.le_refl _, ha, rfl⟩
  · exact key
  · rintro ⟨k, o⟩ ⟨hk, ho, hI⟩
    dsimp only at hk ho hI
    cases k with
    | zero =>
      right
      have r := run27_out a ((0 : Nat) - 1) o (by decide)
      rw [← hI]
      exact r
    | succ k =>
      left
      obtain ⟨c2, h2, _⟩ := prodE_spec ho ho
      obtain ⟨c6, h6, _⟩ := prodE_spec h2 ha
      have e1 : (((k + 1 : Nat) : Int) - 1) = (k : Int) := by omega
      have hw : IntKind.wrap IntKind.i64 ((k : Int) - 1) = (k : Int) - 1 := wrapI (by unfold I64; omega)
      refine ⟨(k, stepO a k o), ⟨by dsimp only; omega, (?_ : (stepO a k o).ok), hI⟩, by dsimp only; omega, ?_⟩
      · unfold stepO
        cases (k == 2 || k == 4)
        · exact h6
        · exact h2
      · dsimp only
        rw [e1]
        by_cases q2 : k = 2
        · subst q2
          exact run27_2 a 2 o _ _ rfl c2 rfl hw
        · by_cases q4 : k = 4
          · subst q4
            exact run27_4 a 4 o _ _ rfl c2 rfl rfl hw
          · have hs : stepO a k o = prodE (prodE o o) a := by
              have hb : (k == 2 || k == 4) = false := by rw [Bool.or_eq_false_iff]; exact ⟨beq_false_of_ne q2, beq_false_of_ne q4⟩
              unfold stepO
              rw [hb]; rfl
            rw [hs]
            exact run27_go a k o _ _ _ (decide_eq_true (by omega)) c2 (bne_iff_ne.mpr (by omega)) (bne_iff_ne.mpr (by omega)) c6 hw
/-- Invert: the inverse, of 0 it is 0. -/
theorem inv_el {a : W.El} (ha : a.ok) : ∃ c : W.El, PureF Tryd.prog 15 [(.aggi .u64 (W.el a))] (.aggi .u64 (W.el c)) ∧ c.ok ∧ c.f = finv a.f := by
  obtain ⟨h1, h2⟩ := invO_ok ha 254 ha (e := 1) (by show a.f = 1 * a.f; grind)
  exact ⟨_, run27 a _ (loop27 ha), h1, h2⟩
end Go.Proofs.YtkjbjgkjplmkhaaDoor.Vm
