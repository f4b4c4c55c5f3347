/- What functions of the program come to: parts of the walk (Ge). -/
import Derived.Test.YtohleiikedpmkaaGd
import Derived.Test.YtohleiikedpmkaaGb
import Derived.KernelRfl
import Derived.Test.YtohleiikedpmkaaProg
import Derived.Test.YtohleiikedpmkaaGc
import Derived.Test.YtohleiikedpmkaaVmc
import Derived.Test.YtohleiikedpmkaaGa
set_option linter.unusedSimpArgs false
set_option linter.unusedVariables false
namespace Go.Proofs.Ytohleiikedpmkaa.W
end Go.Proofs.Ytohleiikedpmkaa.W
namespace Go.Proofs.Ytohleiikedpmkaa.Vm
open Go Go.Proofs Go.Proofs.Ytohleiikedpmkaa
end Go.Proofs.Ytohleiikedpmkaa.Vm

namespace Go.Proofs.Ytohleiikedpmkaa.Vm
open Go Go.Proofs Go.Proofs.Ytohleiikedpmkaa
end Go.Proofs.Ytohleiikedpmkaa.Vm

namespace Go.Proofs.Ytohleiikedpmkaa.Vm
open Go Go.Proofs Go.Proofs.Ytohleiikedpmkaa
set_option maxRecDepth 100000
end Go.Proofs.Ytohleiikedpmkaa.Vm

namespace Go.Proofs.Ytohleiikedpmkaa.W
open Go Go.Proofs.Ytohleiikedpmkaa.Vm
theorem cR_lk (Y X : Nat → Nat → Int) (j : Nat) : ∀ k, cR Y X j k ≤ k
  | 0 => Nat.le_refl _
  | k + 1 => by
    show (bif eqc Y X j k then cR Y X j k else cR Y X j k + 1) ≤ k + 1
    have := cR_lk Y X j k
    cases eqc Y X j k
    · show cR Y X j k + 1 ≤ k + 1; omega
    · show cR Y X j k ≤ k + 1; omega
theorem cA_lk (Y X : Nat → Nat → Int) (cw : Nat) : ∀ i, cA Y X cw i ≤ i * cw
  | 0 => Nat.zero_le _
  | i + 1 => by
    show cA Y X cw i + cR Y X i cw ≤ (i + 1) * cw
    have h1 := cA_lk Y X cw i
    have h2 := cR_lk Y X i cw
    rw [Nat.succ_mul]; omega
theorem sN_gk {L : Rn} (h : ∀ q, q < L.length → 1 ≤ rn L q) : ∀ k, k ≤ L.length → k ≤ sN L k
  | 0, _ => Nat.le_refl _
  | k + 1, hk => by
    show k + 1 ≤ sN L k + rn L k
    have h1 := sN_gk h k (by omega)
    have h2 := h k (by omega)
    omega
theorem runs_len54 (Y X : Nat → Nat → Int) {rr cw : Nat} (hr : rr ≤ 6) (hc : cw ≤ 9) : (runs Y X cw rr).length ≤ 54 ∧ sN (runs Y X cw rr) (runs Y X cw rr).length ≤ 54 := by
  have h1 := runs_sum X Y rr cw
  have h2 := cA_lk Y X cw rr
  have h3 := sN_gk (fun q hq => (runs_ok X Y rr cw q hq).1) _ (Nat.le_refl _)
  have h4 : rr * cw ≤ 6 * 9 := Nat.mul_le_mul hr hc
  omega
theorem runs_L (Y X : Nat → Nat → Int) {rr cw : Nat} (hr : rr ≤ 6) (hc : cw ≤ 9) : (runs Y X cw rr).length ≤ 4000 := by
  have := runs_len54 Y X hr hc; omega
theorem runs_in (Y X : Nat → Nat → Int) {rr cw : Nat} : ∀ q, q < (runs Y X cw rr).length → ra (runs Y X cw rr) q < rr ∧ rb (runs Y X cw rr) q + rn (runs Y X cw rr) q ≤ cw := fun q hq => by
  have := runs_ok X Y rr cw q hq; exact ⟨this.2.1, this.2.2.1⟩
theorem runs_in1 (Y X : Nat → Nat → Int) {rr cw : Nat} : ∀ q, q < (runs Y X cw rr).length → 1 ≤ rn (runs Y X cw rr) q ∧ ra (runs Y X cw rr) q < rr ∧ rb (runs Y X cw rr) q + rn (runs Y X cw rr) q ≤ cw := fun q hq => by
  have := runs_ok X Y rr cw q hq; exact ⟨this.1, this.2.1, this.2.2.1⟩
theorem runs_120 (Y X : Nat → Nat → Int) {rr cw : Nat} (hc : cw ≤ 120) : ∀ i, i < (runs Y X cw rr).length → rn (runs Y X cw rr) i ≤ 120 ∧ ∀ p, p < rn (runs Y X cw rr) i * 4 → Y (ra (runs Y X cw rr) i) (p + rb (runs Y X cw rr) i * 4) = Y (ra (runs Y X cw rr) i) (p + rb (runs Y X cw rr) i * 4) := fun i hi => by
  have := runs_ok X Y rr cw i hi
  exact ⟨by omega, fun _ _ => rfl⟩
end Go.Proofs.Ytohleiikedpmkaa.W
namespace Go.Proofs.Ytohleiikedpmkaa.Vm
open Go Go.Proofs Go.Proofs.Ytohleiikedpmkaa
theorem frX_self (rr cw : Nat) (X : Nat → Nat → Int) : W.frX rr cw X rr cw = X := by
  unfold W.frX; rw [if_pos ⟨rfl, rfl⟩]
end Go.Proofs.Ytohleiikedpmkaa.Vm

namespace Go.Proofs.Ytohleiikedpmkaa.Vm
open Go Go.Proofs Go.Proofs.Ytohleiikedpmkaa
set_option maxRecDepth 100000
theorem rcell_ok_t (a b c d : Int)
    (h : 32 ≤ a ∧ a ≤ 1114111 ∧ ¬ a = 127 ∧ (a < 55296 ∨ 57343 < a) ∧ 0 ≤ b ∧ b ≤ 8 ∧ 0 ≤ c ∧ c ≤ 8 ∧ 0 ≤ d ∧ d ≤ 7)
    (h0 : (a < (55296 : Int))) :
    PureF Try.prog 35 [(.agg [(.int .i32 a), (.int .i64 b), (.int .i64 c), (.int .i64 d)])] (.c (.bool (true))) :=
  Contract0.fr 300 [(4, ⟨.auto, some (.c (.bool (true)))⟩), (8, ⟨.auto, some (.c (.bool (true)))⟩), (13, ⟨.auto, some (.c (.bool (true)))⟩), (19, ⟨.auto, some (.c (.bool (true)))⟩), (28, ⟨.auto, some (.c (.bool (true)))⟩), (33, ⟨.auto, some (.c (.bool (true)))⟩), (38, ⟨.auto, some (.c (.bool (true)))⟩), (43, ⟨.auto, some (.c (.bool (true)))⟩), (48, ⟨.auto, some (.c (.bool (true)))⟩), (53, ⟨.auto, some (.c (.bool (true)))⟩)] [] [EB (decide (d ≤ 7)) true,
      EB (decide (d ≥ 0)) true,
      EB (decide (c ≤ 8)) true,
      EB (decide (c ≥ 0)) true,
      EB (decide (b ≤ 8)) true,
      EB (decide (b ≥ 0)) true,
      EB (decide (a < 55296)) true,
      EB (a != 127) true,
      EB (decide (a ≤ 1114111)) true,
      EB (decide (a ≥ 32)) true] mixed Try.func35 (by kernel_rfl) ⟨.mk (decide_eq_true (by omega)), .mk (decide_eq_true (by omega)), .mk (decide_eq_true (by omega)), .mk (decide_eq_true (by omega)), .mk (decide_eq_true (by omega)), .mk (decide_eq_true (by omega)), .mk (decide_eq_true h0), .mk (bne_t (by omega)), .mk (decide_eq_true (by omega)), .mk (decide_eq_true (by omega)), trivial⟩
theorem rcell_ok_f (a b c d : Int)
    (h : 32 ≤ a ∧ a ≤ 1114111 ∧ ¬ a = 127 ∧ (a < 55296 ∨ 57343 < a) ∧ 0 ≤ b ∧ b ≤ 8 ∧ 0 ≤ c ∧ c ≤ 8 ∧ 0 ≤ d ∧ d ≤ 7)
    (h0 : (¬a < (55296 : Int))) :
    PureF Try.prog 35 [(.agg [(.int .i32 a), (.int .i64 b), (.int .i64 c), (.int .i64 d)])] (.c (.bool (true))) :=
  Contract0.fr 300 [(4, ⟨.auto, some (.c (.bool (true)))⟩), (8, ⟨.auto, some (.c (.bool (true)))⟩), (13, ⟨.auto, some (.c (.bool (true)))⟩), (19, ⟨.auto, some (.c (.bool (false)))⟩), (22, ⟨.auto, some (.c (.bool (true)))⟩), (28, ⟨.auto, some (.c (.bool (true)))⟩), (33, ⟨.auto, some (.c (.bool (true)))⟩), (38, ⟨.auto, some (.c (.bool (true)))⟩), (43, ⟨.auto, some (.c (.bool (true)))⟩), (48, ⟨.auto, some (.c (.bool (true)))⟩), (53, ⟨.auto, some (.c (.bool (true)))⟩)] [] [EB (decide (d ≤ 7)) true,
      EB (decide (d ≥ 0)) true,
      EB (decide (c ≤ 8)) true,
      EB (decide (c ≥ 0)) true,
      EB (decide (b ≤ 8)) true,
      EB (decide (b ≥ 0)) true,
      EB (decide (a > 57343)) true,
      EB (decide (a < 55296)) false,
      EB (a != 127) true,
      EB (decide (a ≤ 1114111)) true,
      EB (decide (a ≥ 32)) true] mixed Try.func35 (by kernel_rfl) ⟨.mk (decide_eq_true (by omega)), .mk (decide_eq_true (by omega)), .mk (decide_eq_true (by omega)), .mk (decide_eq_true (by omega)), .mk (decide_eq_true (by omega)), .mk (decide_eq_true (by omega)), .mk (decide_eq_true (by omega)), .mk (decide_eq_false h0), .mk (bne_t (by omega)), .mk (decide_eq_true (by omega)), .mk (decide_eq_true (by omega)), trivial⟩
theorem rsize_ok (r c : Int)
    (h0 : 1 ≤ r ∧ r ≤ 60)
    (h1 : 1 ≤ c ∧ c ≤ 120) :
    PureF Try.prog 34 [(.c (.int .i64 r)), (.c (.int .i64 c))] (.c (.bool (true))) :=
  Contract0.fr 300 [(2, ⟨.auto, some (.c (.bool (true)))⟩), (5, ⟨.auto, some (.c (.bool (true)))⟩), (9, ⟨.auto, some (.c (.bool (true)))⟩), (13, ⟨.auto, some (.c (.bool (true)))⟩)] [] [EB (decide (c ≤ 120)) true,
      EB (decide (c ≥ 1)) true,
      EB (decide (r ≤ 60)) true,
      EB (decide (r ≥ 1)) true] mixed Try.func34 (by kernel_rfl) ⟨.mk (decide_eq_true (by omega)), .mk (decide_eq_true (by omega)), .mk (decide_eq_true (by omega)), .mk (decide_eq_true (by omega)), trivial⟩
end Go.Proofs.Ytohleiikedpmkaa.Vm

namespace Go.Proofs.Ytohleiikedpmkaa.Vm
open Go Go.Proofs Go.Proofs.Ytohleiikedpmkaa
theorem rcell_ok (a b c d : Int) (h : 32 ≤ a ∧ a ≤ 1114111 ∧ ¬ a = 127 ∧ (a < 55296 ∨ 57343 < a) ∧ 0 ≤ b ∧ b ≤ 8 ∧ 0 ≤ c ∧ c ≤ 8 ∧ 0 ≤ d ∧ d ≤ 7) :
    PureF Try.prog 35 [(.agg [(.int .i32 a), (.int .i64 b), (.int .i64 c), (.int .i64 d)])] (.c (.bool (true))) := by
  by_cases h0 : a < 55296
  · exact rcell_ok_t a b c d h h0
  · exact rcell_ok_f a b c d h h0
end Go.Proofs.Ytohleiikedpmkaa.Vm

namespace Go.Proofs.Ytohleiikedpmkaa.Vm
open Go Go.Proofs Go.Proofs.Ytohleiikedpmkaa
set_option maxRecDepth 100000
noncomputable def LRaI (rr cw : Nat) (X : Nat → Nat → Int) (ro co : Int) (hi : Bool) (i k : Nat) : S0 :=
  ⟨[(1, (.c (.ptr 3 0 0))), (3, (.c (.int .i64 (i : Int)))), (2, (.c (.bool (false)))), (4, (.c (.int .i64 (k : Int))))], [(1, (.one ⟨false, false, (.gen rr (fun j_ => (.sl 2 j_ 0 cw 4)))⟩)), (2, (.many (fun j_ => some ⟨false, false, (.ig (W.rl rr (cw * 4) j_) W.ck (fun p_ => (X j_ p_)))⟩))), (3, (.one ⟨true, true, (.cells [(.int .i64 (↑rr)), (.int .i64 (↑cw)), (.sl 1 0 0 rr 1), (.int .i64 ro), (.int .i64 co), (.bool hi)])⟩))], 100016⟩
theorem LRa_by {α : Type} (I : α → S0) (Inv : α → Prop) (μ : α → Nat) {ex : Ex} {s' : S0} (hex : ex ≠ .normal)
    (step : ∀ x, Inv x → (∃ y, Inv y ∧ μ y < μ x ∧ CodeOk Try.prog 74 100000 (kAt (kOf Try.prog Try.f20) [true, true, false, true, false, false, true, false, false, true, true, false, false]) (I x) .normal (I y)) ∨ CodeOk Try.prog 74 100000 (kAt (kOf Try.prog Try.f20) [true, true, false, true, false, false, true, false, false, true, true, false, false]) (I x) ex s') (x : α) (hx : Inv x) :
    CodeOk Try.prog 74 100000 (kAt (kOf Try.prog Try.f20) [true, true, false, true, false, false, true, false, false, true, true, false]) (I x) ex s' := by
  have hk : (kAt (kOf Try.prog Try.f20) [true, true, false, true, false, false, true, false, false, true, true, false]) = .loop (kAt (kOf Try.prog Try.f20) [true, true, false, true, false, false, true, false, false, true, true, false, false]) := by kernel_rfl
  rw [hk]
  exact CodeOk.loop I Inv μ hex step x hx
theorem LRa_rt (rr cw : Nat) (X : Nat → Nat → Int) (ro co : Int) (hi : Bool) (i k : Nat)
    (hrr : 1 ≤ rr ∧ rr ≤ 60)
    (hcw : 1 ≤ cw ∧ cw ≤ 120)
    (hro : 0 ≤ ro ∧ ro < rr)
    (hco : 0 ≤ co ∧ co < cw)
    (hX : ∀ j, j < rr → W.okRow (X j) cw)
    (hil : i < rr)
    (hkl : k ≤ cw)
    (h0 : ((↑k : Int) < (↑cw : Int))) :
    CodeOk Try.prog 74 100000 (kAt (kOf Try.prog Try.f20) [true, true, false, true, false, false, true, false, false, true, true, false, false]) (LRaI rr cw X ro co hi i k) .normal (LRaI rr cw X ro co hi i (k + 1)) :=
  CodeOk.of_runs (fuel := 300) (v := ⟨[1, 3, 2, 4], [1, 2, 3], [], 100016⟩) (hs := [(3, ⟨.auto, some (.c (.bool (true)))⟩), (8, ⟨.ask, none⟩), (9, ⟨.ask, none⟩), (11, ⟨.ask, none⟩), (12, ⟨.ask, some (.agg [(.int .i32 (X i (k * 4))), (.int .i64 (X i (k * 4 + 1))), (.int .i64 (X i (k * 4 + 2))), (.int .i64 (X i (k * 4 + 3)))])⟩), (13, ⟨.call [] (.c (.bool (true))) [] [], none⟩), (17, ⟨.auto, some (.c (.int .i64 (↑(k + 1))))⟩)])
    (cs := [EI .i64 (IntKind.wrap IntKind.i64 ((↑k : Int) + 1)) ((↑(k + 1) : Int)),
      Contract Try.prog 35 [(.agg [(.int .i32 (X i (k * 4))), (.int .i64 (X i (k * 4 + 1))), (.int .i64 (X i (k * 4 + 2))), (.int .i64 (X i (k * 4 + 3)))])] [] 100208 (.c (.bool (true))) [] [],
      ((.agg ((List.range 4).map (fun p_ => .int (W.ck (p_ + k * 4)) (X i (p_ + k * 4))))) : V) = (.agg [(.int .i32 (X i (k * 4))), (.int .i64 (X i (k * 4 + 1))), (.int .i64 (X i (k * 4 + 2))), (.int .i64 (X i (k * 4 + 3)))]),
      (k * (4 : Nat) + (4 : Nat) ≤ W.rl rr (cw * (4 : Nat)) i),
      ((0 : Int) ≤ (↑k : Int) ∧ (↑k : Int) < (↑cw : Int)),
      (i + (1 : Nat) ≤ rr),
      ((0 : Int) ≤ (↑i : Int) ∧ (↑i : Int) < (↑rr : Int)),
      EB (decide ((↑k : Int) < (↑cw : Int))) true])
    mixed (by kernel_rfl) ⟨.mk (by simp only [addO_eq, mulE_eq, mulE_one, Int.toNat_natCast, IntKind.wrap_i64, mmin, mmax]; omega), Contract0.in1 (rcell_ok (X i (k * 4)) (X i (k * 4 + 1)) (X i (k * 4 + 2)) (X i (k * 4 + 3)) (by exact hX _ (by omega) _ (by omega))) [] [none] [] [] (by kernel_rfl), EV.ck4 (g := (fun p_ => (X i p_))) (o := (k * 4)) (by omega) (by omega), (by rw [rl_lt (by omega)]; omega), (by omega), (by omega), (by omega), .mk (decide_eq_true h0), trivial⟩
theorem LRa_xf (rr cw : Nat) (X : Nat → Nat → Int) (ro co : Int) (hi : Bool) (i k : Nat)
    (hrr : 1 ≤ rr ∧ rr ≤ 60)
    (hcw : 1 ≤ cw ∧ cw ≤ 120)
    (hro : 0 ≤ ro ∧ ro < rr)
    (hco : 0 ≤ co ∧ co < cw)
    (hX : ∀ j, j < rr → W.okRow (X j) cw)
    (hil : i < rr)
    (hkl : k ≤ cw)
    (h0 : (¬(↑k : Int) < (↑cw : Int))) :
    CodeOk Try.prog 74 100000 (kAt (kOf Try.prog Try.f20) [true, true, false, true, false, false, true, false, false, true, true, false, false]) (LRaI rr cw X ro co hi i k) (.exit 2) (LRaI rr cw X ro co hi i k) :=
  CodeOk.of_runs (fuel := 300) (v := ⟨[1, 3, 2, 4], [1, 2, 3], [], 100016⟩) (hs := [(3, ⟨.auto, some (.c (.bool (false)))⟩)])
    (cs := [EB (decide ((↑k : Int) < (↑cw : Int))) false])
    mixed (by kernel_rfl) ⟨.mk (decide_eq_false h0), trivial⟩
end Go.Proofs.Ytohleiikedpmkaa.Vm

namespace Go.Proofs.Ytohleiikedpmkaa.Vm
open Go Go.Proofs Go.Proofs.Ytohleiikedpmkaa
theorem rs_inner (rr cw : Nat) (X : Nat → Nat → Int) (ro co : Int) (hi : Bool) (i : Nat)
    (hrr : 1 ≤ rr ∧ rr ≤ 60)
    (hcw : 1 ≤ cw ∧ cw ≤ 120)
    (hro : 0 ≤ ro ∧ ro < rr)
    (hco : 0 ≤ co ∧ co < cw)
    (hX : ∀ j, j < rr → W.okRow (X j) cw)
    (hil : i < rr)
    : CodeOk Try.prog 74 100000 (kAt (kOf Try.prog Try.f20) [true, true, false, true, false, false, true, false, false, true, true, false]) (LRaI rr cw X ro co hi i 0) (.exit 2) (LRaI rr cw X ro co hi i (cw)) := by
  have h : CodeOk Try.prog 74 100000 (kAt (kOf Try.prog Try.f20) [true, true, false, true, false, false, true, false, false, true, true, false]) (LRaI rr cw X ro co hi i 0) (.exit 2) (LRaI rr cw X ro co hi i (cw)) := by
    refine LRa_by (fun k => LRaI rr cw X ro co hi i k) (fun k => k ≤ cw) (fun k => cw - k) (by simp) ?_ 0 (Nat.zero_le _)
    intro k hi_
    by_cases h0 : (k : Int) < ((cw : Nat) : Int)
    · exact .inl ⟨k + 1, by omega, by omega, LRa_rt rr cw X ro co hi i k hrr hcw hro hco hX hil hi_ h0⟩
    · have e : k = cw := by omega
      have x := LRa_xf rr cw X ro co hi i k hrr hcw hro hco hX hil hi_ h0
      refine .inr ?_
      rw [e] at x ⊢
      exact x
  exact h
end Go.Proofs.Ytohleiikedpmkaa.Vm

namespace Go.Proofs.Ytohleiikedpmkaa.Vm
open Go Go.Proofs Go.Proofs.Ytohleiikedpmkaa
set_option maxRecDepth 100000
noncomputable def LRbI (rr cw : Nat) (X : Nat → Nat → Int) (ro co : Int) (hi : Bool) (i : Nat) : S0 :=
  ⟨[(1, (.c (.ptr 3 0 0))), (2, (.c (.bool (false)))), (3, (.c (.int .i64 (i : Int))))], [(1, (.one ⟨false, false, (.gen rr (fun j_ => (.sl 2 j_ 0 cw 4)))⟩)), (2, (.many (fun j_ => some ⟨false, false, (.ig (W.rl rr (cw * 4) j_) W.ck (fun p_ => (X j_ p_)))⟩))), (3, (.one ⟨true, true, (.cells [(.int .i64 (↑rr)), (.int .i64 (↑cw)), (.sl 1 0 0 rr 1), (.int .i64 ro), (.int .i64 co), (.bool hi)])⟩))], 675⟩
theorem LRb_by {α : Type} (I : α → S0) (Inv : α → Prop) (μ : α → Nat) {ex : Ex} {s' : S0} (hex : ex ≠ .normal)
    (step : ∀ x, Inv x → (∃ y, Inv y ∧ μ y < μ x ∧ CodeOk Try.prog 74 659 (kAt (kOf Try.prog Try.f20) [true, true, false, true, false, false]) (I x) .normal (I y)) ∨ CodeOk Try.prog 74 659 (kAt (kOf Try.prog Try.f20) [true, true, false, true, false, false]) (I x) ex s') (x : α) (hx : Inv x) :
    CodeOk Try.prog 74 659 (kAt (kOf Try.prog Try.f20) [true, true, false, true, false]) (I x) ex s' := by
  have hk : (kAt (kOf Try.prog Try.f20) [true, true, false, true, false]) = .loop (kAt (kOf Try.prog Try.f20) [true, true, false, true, false, false]) := by kernel_rfl
  rw [hk]
  exact CodeOk.loop I Inv μ hex step x hx
noncomputable def LRb0 (rr cw : Nat) (X : Nat → Nat → Int) (ro co : Int) (hi : Bool) : S0 :=
  ⟨[(1, (.c (.ptr 3 0 0))), (2, (.c (.bool (false)))), (3, (.c (.int .i64 0)))], [(1, (.one ⟨false, false, (.gen rr (fun j_ => (.sl 2 j_ 0 cw 4)))⟩)), (2, (.many (fun j_ => some ⟨false, false, (.ig (W.rl rr (cw * 4) j_) W.ck (fun p_ => (X j_ p_)))⟩))), (3, (.one ⟨true, true, (.cells [(.int .i64 (↑rr)), (.int .i64 (↑cw)), (.sl 1 0 0 rr 1), (.int .i64 ro), (.int .i64 co), (.bool hi)])⟩))], 659⟩
theorem LRb_rt (rr cw : Nat) (X : Nat → Nat → Int) (ro co : Int) (hi : Bool) (i : Nat)
    (hrr : 1 ≤ rr ∧ rr ≤ 60)
    (hcw : 1 ≤ cw ∧ cw ≤ 120)
    (hro : 0 ≤ ro ∧ ro < rr)
    (hco : 0 ≤ co ∧ co < cw)
    (hX : ∀ j, j < rr → W.okRow (X j) cw)
    (hil : i ≤ rr)
    (h0 : ((↑i : Int) < (↑rr : Int))) :
    CodeOk Try.prog 74 659 (kAt (kOf Try.prog Try.f20) [true, true, false, true, false, false]) (LRbI rr cw X ro co hi i) .normal (LRbI rr cw X ro co hi (i + 1)) :=
  CodeOk.of_runs (fuel := 300) (v := ⟨[1, 2, 3], [1, 2, 3], [], 675⟩) (hs := [(3, ⟨.auto, some (.c (.bool (true)))⟩), (8, ⟨.ask, none⟩), (9, ⟨.ask, none⟩), (13, ⟨.auto, some (.c (.bool (false)))⟩), (16, ⟨.sum ⟨[1, 3, 2, 4], [1, 2, 3], [], 100016⟩ (.exit 2) (LRaI rr cw X ro co hi i cw), none⟩), (18, ⟨.auto, some (.c (.int .i64 (↑(i + 1))))⟩)])
    (cs := [EI .i64 (IntKind.wrap IntKind.i64 ((↑i : Int) + 1)) ((↑(i + 1) : Int)),
      CodeOk Try.prog 74 899 (kAt (kOf Try.prog Try.f20) [true, true, false, true, false, false, true, false, false, true, true, false]) (LRaI rr cw X ro co hi i 0) (.exit 2) (LRaI rr cw X ro co hi i cw),
      EB ((↑cw : Int) != (↑cw : Int)) false,
      (i + (1 : Nat) ≤ rr),
      ((0 : Int) ≤ (↑i : Int) ∧ (↑i : Int) < (↑rr : Int)),
      EB (decide ((↑i : Int) < (↑rr : Int))) true])
    mixed (by kernel_rfl) ⟨.mk (by simp only [addO_eq, mulE_eq, mulE_one, Int.toNat_natCast, IntKind.wrap_i64, mmin, mmax]; omega), (CodeOk.mono (rs_inner rr cw X ro co hi i (by omega) (by omega) (by omega) (by omega) (by omega) (by omega)) (by decide)), .mk (bne_f (Decidable.of_not_not (by omega))), (by omega), (by omega), .mk (decide_eq_true h0), trivial⟩
theorem LRb_xf (rr cw : Nat) (X : Nat → Nat → Int) (ro co : Int) (hi : Bool) (i : Nat)
    (hrr : 1 ≤ rr ∧ rr ≤ 60)
    (hcw : 1 ≤ cw ∧ cw ≤ 120)
    (hro : 0 ≤ ro ∧ ro < rr)
    (hco : 0 ≤ co ∧ co < cw)
    (hX : ∀ j, j < rr → W.okRow (X j) cw)
    (hil : i ≤ rr)
    (h0 : (¬(↑i : Int) < (↑rr : Int))) :
    CodeOk Try.prog 74 659 (kAt (kOf Try.prog Try.f20) [true, true, false, true, false, false]) (LRbI rr cw X ro co hi i) (.exit 0) (LRbI rr cw X ro co hi i) :=
  CodeOk.of_runs (fuel := 300) (v := ⟨[1, 2, 3], [1, 2, 3], [], 675⟩) (hs := [(3, ⟨.auto, some (.c (.bool (false)))⟩)])
    (cs := [EB (decide ((↑i : Int) < (↑rr : Int))) false])
    mixed (by kernel_rfl) ⟨.mk (decide_eq_false h0), trivial⟩
end Go.Proofs.Ytohleiikedpmkaa.Vm

namespace Go.Proofs.Ytohleiikedpmkaa.Vm
open Go Go.Proofs Go.Proofs.Ytohleiikedpmkaa
theorem rs_loop (rr cw : Nat) (X : Nat → Nat → Int) (ro co : Int) (hi : Bool)
    (hrr : 1 ≤ rr ∧ rr ≤ 60)
    (hcw : 1 ≤ cw ∧ cw ≤ 120)
    (hro : 0 ≤ ro ∧ ro < rr)
    (hco : 0 ≤ co ∧ co < cw)
    (hX : ∀ j, j < rr → W.okRow (X j) cw)
    : CodeOk Try.prog 74 659 (kAt (kOf Try.prog Try.f20) [true, true, false, true, false]) (LRb0 rr cw X ro co hi) (.exit 0) (LRbI rr cw X ro co hi (rr)) := by
  have h : CodeOk Try.prog 74 659 (kAt (kOf Try.prog Try.f20) [true, true, false, true, false]) (LRbI rr cw X ro co hi 0) (.exit 0) (LRbI rr cw X ro co hi (rr)) := by
    refine LRb_by (fun i => LRbI rr cw X ro co hi i) (fun i => i ≤ rr) (fun i => rr - i) (by simp) ?_ 0 (Nat.zero_le _)
    intro i hi_
    by_cases h0 : (i : Int) < ((rr : Nat) : Int)
    · exact .inl ⟨i + 1, by omega, by omega, LRb_rt rr cw X ro co hi i hrr hcw hro hco hX hi_ h0⟩
    · have e : i = rr := by omega
      have x := LRb_xf rr cw X ro co hi i hrr hcw hro hco hX hi_ h0
      refine .inr ?_
      rw [e] at x ⊢
      exact x
  refine CodeOk.enter (Move.same (by decide) (by decide) (by decide) rfl ?_) h
  exact ⟨SameB.refl rfl, fun j k e => SameB.refl e, SameB.refl rfl, trivial⟩
end Go.Proofs.Ytohleiikedpmkaa.Vm

namespace Go.Proofs.Ytohleiikedpmkaa.Vm
open Go Go.Proofs Go.Proofs.Ytohleiikedpmkaa
set_option maxRecDepth 100000
theorem rs_ok (rr cw : Nat) (X : Nat → Nat → Int) (ro co : Int) (hi : Bool)
    (hrr : 1 ≤ rr ∧ rr ≤ 60)
    (hcw : 1 ≤ cw ∧ cw ≤ 120)
    (hro : 0 ≤ ro ∧ ro < rr)
    (hco : 0 ≤ co ∧ co < cw)
    (hX : ∀ j, j < rr → W.okRow (X j) cw) :
    Contract0 Try.prog 20 [(.agg [(.int .i64 (↑rr)), (.int .i64 (↑cw)), (.sl 1 0 0 rr 1), (.int .i64 ro), (.int .i64 co), (.bool hi)])] [(1, (.one ⟨false, false, (.gen rr (fun j_ => (.sl 2 j_ 0 cw 4)))⟩)), (2, (.many (fun j_ => some ⟨false, false, (.ig (W.rl rr (cw * 4) j_) W.ck (fun p_ => (X j_ p_)))⟩)))] 3 (.c (.bool (true))) [] [] :=
  Contract0.of_frunF (res := (.c (.bool (true)))) (up := []) (kill := []) (n0 := 3) (m := [(1, (.one ⟨false, false, (.gen rr (fun j_ => (.sl 2 j_ 0 cw 4)))⟩)), (2, (.many (fun j_ => some ⟨false, false, (.ig (W.rl rr (cw * 4) j_) W.ck (fun p_ => (X j_ p_)))⟩)))]) (args := [(.agg [(.int .i64 (↑rr)), (.int .i64 (↑cw)), (.sl 1 0 0 rr 1), (.int .i64 ro), (.int .i64 co), (.bool hi)])]) (fn := Try.f20) (c := bodyOf Try.f20) (fuel := 300) (k := kOf Try.prog Try.f20) (outs := []) (hs := [(6, ⟨.call [] (.c (.bool (true))) [] [], none⟩), (14, ⟨.auto, some (.c (.bool (false)))⟩), (19, ⟨.auto, some (.c (.bool (false)))⟩), (26, ⟨.auto, some (.c (.bool (false)))⟩), (31, ⟨.auto, some (.c (.bool (false)))⟩), (38, ⟨.auto, some (.c (.bool (false)))⟩), (42, ⟨.sum ⟨[1, 2, 3], [1, 2, 3], [], 659⟩ (.exit 0) (LRbI rr cw X ro co hi rr), none⟩)])
    (cs := [CodeOk Try.prog 74 659 (kAt (kOf Try.prog Try.f20) [true, true, false, true, false]) (LRb0 rr cw X ro co hi) (.exit 0) (LRbI rr cw X ro co hi rr),
      EB (decide (co ≥ (↑cw : Int))) false,
      EB (decide (co < 0)) false,
      EB (decide (ro ≥ (↑rr : Int))) false,
      EB (decide (ro < 0)) false,
      EB ((↑rr : Int) != (↑rr : Int)) false,
      Contract Try.prog 34 [(.c (.int .i64 (↑rr))), (.c (.int .i64 (↑cw)))] [] 99 (.c (.bool (true))) [] []])
    mixed Try.func20 (by kernel_rfl) (by kernel_rfl) (by kernel_rfl) ⟨rfl, (.inr (RoF.of (fun _ => rfl))), trivial⟩ (by kernel_rfl) ⟨(rs_loop rr cw X ro co hi (by omega) (by omega) (by omega) (by omega) (by omega)), .mk (decide_eq_false (by omega)), .mk (decide_eq_false (by omega)), .mk (decide_eq_false (by omega)), .mk (decide_eq_false (by omega)), .mk (bne_f (Decidable.of_not_not (by omega))), Contract0.in1 (rsize_ok ((↑rr : Int)) ((↑cw : Int)) (by omega) (by omega)) [] [none, none] [] [] (by kernel_rfl), trivial⟩
end Go.Proofs.Ytohleiikedpmkaa.Vm

namespace Go.Proofs.Ytohleiikedpmkaa.Vm
open Go Go.Proofs Go.Proofs.Ytohleiikedpmkaa
set_option maxRecDepth 100000
theorem cella_ttttttttt (a b c d : Int)
    (h0 : (a ≥ (32 : Int)))
    (h1 : (a ≤ (1114111 : Int)))
    (h2 : (¬a = (127 : Int)))
    (h3 : (a < (55296 : Int)))
    (h4 : (b ≥ (0 : Int)))
    (h5 : (b ≤ (8 : Int)))
    (h6 : (c ≥ (0 : Int)))
    (h7 : (c ≤ (8 : Int)))
    (h8 : (d ≥ (0 : Int))) :
    PureF Try.prog 50 [(.agg [(.int .i32 a), (.int .i64 b), (.int .i64 c), (.int .i64 d)])] (.c (.bool (decide (d ≤ 7)))) :=
  Contract0.fr 300 [(5, ⟨.auto, some (.c (.bool (true)))⟩), (10, ⟨.auto, some (.c (.bool (true)))⟩), (15, ⟨.auto, some (.c (.bool (true)))⟩), (19, ⟨.auto, some (.c (.bool (true)))⟩), (30, ⟨.auto, some (.c (.bool (true)))⟩), (35, ⟨.auto, some (.c (.bool (true)))⟩), (40, ⟨.auto, some (.c (.bool (true)))⟩), (45, ⟨.auto, some (.c (.bool (true)))⟩), (50, ⟨.auto, some (.c (.bool (true)))⟩)] [] [EB (decide (d ≥ 0)) true,
      EB (decide (c ≤ 8)) true,
      EB (decide (c ≥ 0)) true,
      EB (decide (b ≤ 8)) true,
      EB (decide (b ≥ 0)) true,
      EB (decide (a < 55296)) true,
      EB (a != 127) true,
      EB (decide (a ≤ 1114111)) true,
      EB (decide (a ≥ 32)) true] mixed Try.func50 (by kernel_rfl) ⟨.mk (decide_eq_true h8), .mk (decide_eq_true h7), .mk (decide_eq_true h6), .mk (decide_eq_true h5), .mk (decide_eq_true h4), .mk (decide_eq_true h3), .mk (bne_t h2), .mk (decide_eq_true h1), .mk (decide_eq_true h0), trivial⟩
theorem cella_ttttttttf (a b c d : Int)
    (h0 : (a ≥ (32 : Int)))
    (h1 : (a ≤ (1114111 : Int)))
    (h2 : (¬a = (127 : Int)))
    (h3 : (a < (55296 : Int)))
    (h4 : (b ≥ (0 : Int)))
    (h5 : (b ≤ (8 : Int)))
    (h6 : (c ≥ (0 : Int)))
    (h7 : (c ≤ (8 : Int)))
    (h8 : (¬d ≥ (0 : Int))) :
    PureF Try.prog 50 [(.agg [(.int .i32 a), (.int .i64 b), (.int .i64 c), (.int .i64 d)])] (.c (.bool (false))) :=
  Contract0.fr 300 [(5, ⟨.auto, some (.c (.bool (true)))⟩), (10, ⟨.auto, some (.c (.bool (true)))⟩), (15, ⟨.auto, some (.c (.bool (true)))⟩), (19, ⟨.auto, some (.c (.bool (true)))⟩), (30, ⟨.auto, some (.c (.bool (true)))⟩), (35, ⟨.auto, some (.c (.bool (true)))⟩), (40, ⟨.auto, some (.c (.bool (true)))⟩), (45, ⟨.auto, some (.c (.bool (true)))⟩), (50, ⟨.auto, some (.c (.bool (false)))⟩)] [] [EB (decide (d ≥ 0)) false,
      EB (decide (c ≤ 8)) true,
      EB (decide (c ≥ 0)) true,
      EB (decide (b ≤ 8)) true,
      EB (decide (b ≥ 0)) true,
      EB (decide (a < 55296)) true,
      EB (a != 127) true,
      EB (decide (a ≤ 1114111)) true,
      EB (decide (a ≥ 32)) true] mixed Try.func50 (by kernel_rfl) ⟨.mk (decide_eq_false h8), .mk (decide_eq_true h7), .mk (decide_eq_true h6), .mk (decide_eq_true h5), .mk (decide_eq_true h4), .mk (decide_eq_true h3), .mk (bne_t h2), .mk (decide_eq_true h1), .mk (decide_eq_true h0), trivial⟩
theorem cella_tttttttf (a b c d : Int)
    (h0 : (a ≥ (32 : Int)))
    (h1 : (a ≤ (1114111 : Int)))
    (h2 : (¬a = (127 : Int)))
    (h3 : (a < (55296 : Int)))
    (h4 : (b ≥ (0 : Int)))
    (h5 : (b ≤ (8 : Int)))
    (h6 : (c ≥ (0 : Int)))
    (h7 : (¬c ≤ (8 : Int))) :
    PureF Try.prog 50 [(.agg [(.int .i32 a), (.int .i64 b), (.int .i64 c), (.int .i64 d)])] (.c (.bool (false))) :=
  Contract0.fr 300 [(5, ⟨.auto, some (.c (.bool (true)))⟩), (10, ⟨.auto, some (.c (.bool (true)))⟩), (15, ⟨.auto, some (.c (.bool (true)))⟩), (19, ⟨.auto, some (.c (.bool (true)))⟩), (30, ⟨.auto, some (.c (.bool (true)))⟩), (35, ⟨.auto, some (.c (.bool (true)))⟩), (40, ⟨.auto, some (.c (.bool (true)))⟩), (45, ⟨.auto, some (.c (.bool (false)))⟩)] [] [EB (decide (c ≤ 8)) false,
      EB (decide (c ≥ 0)) true,
      EB (decide (b ≤ 8)) true,
      EB (decide (b ≥ 0)) true,
      EB (decide (a < 55296)) true,
      EB (a != 127) true,
      EB (decide (a ≤ 1114111)) true,
      EB (decide (a ≥ 32)) true] mixed Try.func50 (by kernel_rfl) ⟨.mk (decide_eq_false h7), .mk (decide_eq_true h6), .mk (decide_eq_true h5), .mk (decide_eq_true h4), .mk (decide_eq_true h3), .mk (bne_t h2), .mk (decide_eq_true h1), .mk (decide_eq_true h0), trivial⟩
theorem cella_ttttttf (a b c d : Int)
    (h0 : (a ≥ (32 : Int)))
    (h1 : (a ≤ (1114111 : Int)))
    (h2 : (¬a = (127 : Int)))
    (h3 : (a < (55296 : Int)))
    (h4 : (b ≥ (0 : Int)))
    (h5 : (b ≤ (8 : Int)))
    (h6 : (¬c ≥ (0 : Int))) :
    PureF Try.prog 50 [(.agg [(.int .i32 a), (.int .i64 b), (.int .i64 c), (.int .i64 d)])] (.c (.bool (false))) :=
  Contract0.fr 300 [(5, ⟨.auto, some (.c (.bool (true)))⟩), (10, ⟨.auto, some (.c (.bool (true)))⟩), (15, ⟨.auto, some (.c (.bool (true)))⟩), (19, ⟨.auto, some (.c (.bool (true)))⟩), (30, ⟨.auto, some (.c (.bool (true)))⟩), (35, ⟨.auto, some (.c (.bool (true)))⟩), (40, ⟨.auto, some (.c (.bool (false)))⟩)] [] [EB (decide (c ≥ 0)) false,
      EB (decide (b ≤ 8)) true,
      EB (decide (b ≥ 0)) true,
      EB (decide (a < 55296)) true,
      EB (a != 127) true,
      EB (decide (a ≤ 1114111)) true,
      EB (decide (a ≥ 32)) true] mixed Try.func50 (by kernel_rfl) ⟨.mk (decide_eq_false h6), .mk (decide_eq_true h5), .mk (decide_eq_true h4), .mk (decide_eq_true h3), .mk (bne_t h2), .mk (decide_eq_true h1), .mk (decide_eq_true h0), trivial⟩
theorem cella_tttttf (a b c d : Int)
    (h0 : (a ≥ (32 : Int)))
    (h1 : (a ≤ (1114111 : Int)))
    (h2 : (¬a = (127 : Int)))
    (h3 : (a < (55296 : Int)))
    (h4 : (b ≥ (0 : Int)))
    (h5 : (¬b ≤ (8 : Int))) :
    PureF Try.prog 50 [(.agg [(.int .i32 a), (.int .i64 b), (.int .i64 c), (.int .i64 d)])] (.c (.bool (false))) :=
  Contract0.fr 300 [(5, ⟨.auto, some (.c (.bool (true)))⟩), (10, ⟨.auto, some (.c (.bool (true)))⟩), (15, ⟨.auto, some (.c (.bool (true)))⟩), (19, ⟨.auto, some (.c (.bool (true)))⟩), (30, ⟨.auto, some (.c (.bool (true)))⟩), (35, ⟨.auto, some (.c (.bool (false)))⟩)] [] [EB (decide (b ≤ 8)) false,
      EB (decide (b ≥ 0)) true,
      EB (decide (a < 55296)) true,
      EB (a != 127) true,
      EB (decide (a ≤ 1114111)) true,
      EB (decide (a ≥ 32)) true] mixed Try.func50 (by kernel_rfl) ⟨.mk (decide_eq_false h5), .mk (decide_eq_true h4), .mk (decide_eq_true h3), .mk (bne_t h2), .mk (decide_eq_true h1), .mk (decide_eq_true h0), trivial⟩
theorem cella_ttttf (a b c d : Int)
    (h0 : (a ≥ (32 : Int)))
    (h1 : (a ≤ (1114111 : Int)))
    (h2 : (¬a = (127 : Int)))
    (h3 : (a < (55296 : Int)))
    (h4 : (¬b ≥ (0 : Int))) :
    PureF Try.prog 50 [(.agg [(.int .i32 a), (.int .i64 b), (.int .i64 c), (.int .i64 d)])] (.c (.bool (false))) :=
  Contract0.fr 300 [(5, ⟨.auto, some (.c (.bool (true)))⟩), (10, ⟨.auto, some (.c (.bool (true)))⟩), (15, ⟨.auto, some (.c (.bool (true)))⟩), (19, ⟨.auto, some (.c (.bool (true)))⟩), (30, ⟨.auto, some (.c (.bool (false)))⟩)] [] [EB (decide (b ≥ 0)) false,
      EB (decide (a < 55296)) true,
      EB (a != 127) true,
      EB (decide (a ≤ 1114111)) true,
      EB (decide (a ≥ 32)) true] mixed Try.func50 (by kernel_rfl) ⟨.mk (decide_eq_false h4), .mk (decide_eq_true h3), .mk (bne_t h2), .mk (decide_eq_true h1), .mk (decide_eq_true h0), trivial⟩
theorem cella_tttftttttt (a b c d : Int)
    (h0 : (a ≥ (32 : Int)))
    (h1 : (a ≤ (1114111 : Int)))
    (h2 : (¬a = (127 : Int)))
    (h3 : (¬a < (55296 : Int)))
    (h4 : (a > (57343 : Int)))
    (h5 : (b ≥ (0 : Int)))
    (h6 : (b ≤ (8 : Int)))
    (h7 : (c ≥ (0 : Int)))
    (h8 : (c ≤ (8 : Int)))
    (h9 : (d ≥ (0 : Int))) :
    PureF Try.prog 50 [(.agg [(.int .i32 a), (.int .i64 b), (.int .i64 c), (.int .i64 d)])] (.c (.bool (decide (d ≤ 7)))) :=
  Contract0.fr 300 [(5, ⟨.auto, some (.c (.bool (true)))⟩), (10, ⟨.auto, some (.c (.bool (true)))⟩), (15, ⟨.auto, some (.c (.bool (true)))⟩), (19, ⟨.auto, some (.c (.bool (false)))⟩), (25, ⟨.auto, some (.c (.bool (true)))⟩), (30, ⟨.auto, some (.c (.bool (true)))⟩), (35, ⟨.auto, some (.c (.bool (true)))⟩), (40, ⟨.auto, some (.c (.bool (true)))⟩), (45, ⟨.auto, some (.c (.bool (true)))⟩), (50, ⟨.auto, some (.c (.bool (true)))⟩)] [] [EB (decide (d ≥ 0)) true,
      EB (decide (c ≤ 8)) true,
      EB (decide (c ≥ 0)) true,
      EB (decide (b ≤ 8)) true,
      EB (decide (b ≥ 0)) true,
      EB (decide (a > 57343)) true,
      EB (decide (a < 55296)) false,
      EB (a != 127) true,
      EB (decide (a ≤ 1114111)) true,
      EB (decide (a ≥ 32)) true] mixed Try.func50 (by kernel_rfl) ⟨.mk (decide_eq_true h9), .mk (decide_eq_true h8), .mk (decide_eq_true h7), .mk (decide_eq_true h6), .mk (decide_eq_true h5), .mk (decide_eq_true h4), .mk (decide_eq_false h3), .mk (bne_t h2), .mk (decide_eq_true h1), .mk (decide_eq_true h0), trivial⟩
theorem cella_tttftttttf (a b c d : Int)
    (h0 : (a ≥ (32 : Int)))
    (h1 : (a ≤ (1114111 : Int)))
    (h2 : (¬a = (127 : Int)))
    (h3 : (¬a < (55296 : Int)))
    (h4 : (a > (57343 : Int)))
    (h5 : (b ≥ (0 : Int)))
    (h6 : (b ≤ (8 : Int)))
    (h7 : (c ≥ (0 : Int)))
    (h8 : (c ≤ (8 : Int)))
    (h9 : (¬d ≥ (0 : Int))) :
    PureF Try.prog 50 [(.agg [(.int .i32 a), (.int .i64 b), (.int .i64 c), (.int .i64 d)])] (.c (.bool (false))) :=
  Contract0.fr 300 [(5, ⟨.auto, some (.c (.bool (true)))⟩), (10, ⟨.auto, some (.c (.bool (true)))⟩), (15, ⟨.auto, some (.c (.bool (true)))⟩), (19, ⟨.auto, some (.c (.bool (false)))⟩), (25, ⟨.auto, some (.c (.bool (true)))⟩), (30, ⟨.auto, some (.c (.bool (true)))⟩), (35, ⟨.auto, some (.c (.bool (true)))⟩), (40, ⟨.auto, some (.c (.bool (true)))⟩), (45, ⟨.auto, some (.c (.bool (true)))⟩), (50, ⟨.auto, some (.c (.bool (false)))⟩)] [] [EB (decide (d ≥ 0)) false,
      EB (decide (c ≤ 8)) true,
      EB (decide (c ≥ 0)) true,
      EB (decide (b ≤ 8)) true,
      EB (decide (b ≥ 0)) true,
      EB (decide (a > 57343)) true,
      EB (decide (a < 55296)) false,
      EB (a != 127) true,
      EB (decide (a ≤ 1114111)) true,
      EB (decide (a ≥ 32)) true] mixed Try.func50 (by kernel_rfl) ⟨.mk (decide_eq_false h9), .mk (decide_eq_true h8), .mk (decide_eq_true h7), .mk (decide_eq_true h6), .mk (decide_eq_true h5), .mk (decide_eq_true h4), .mk (decide_eq_false h3), .mk (bne_t h2), .mk (decide_eq_true h1), .mk (decide_eq_true h0), trivial⟩
theorem cella_tttfttttf (a b c d : Int)
    (h0 : (a ≥ (32 : Int)))
    (h1 : (a ≤ (1114111 : Int)))
    (h2 : (¬a = (127 : Int)))
    (h3 : (¬a < (55296 : Int)))
    (h4 : (a > (57343 : Int)))
    (h5 : (b ≥ (0 : Int)))
    (h6 : (b ≤ (8 : Int)))
    (h7 : (c ≥ (0 : Int)))
    (h8 : (¬c ≤ (8 : Int))) :
    PureF Try.prog 50 [(.agg [(.int .i32 a), (.int .i64 b), (.int .i64 c), (.int .i64 d)])] (.c (.bool (false))) :=
  Contract0.fr 300 [(5, ⟨.auto, some (.c (.bool (true)))⟩), (10, ⟨.auto, some (.c (.bool (true)))⟩), (15, ⟨.auto, some (.c (.bool (true)))⟩), (19, ⟨.auto, some (.c (.bool (false)))⟩), (25, ⟨.auto, some (.c (.bool (true)))⟩), (30, ⟨.auto, some (.c (.bool (true)))⟩), (35, ⟨.auto, some (.c (.bool (true)))⟩), (40, ⟨.auto, some (.c (.bool (true)))⟩), (45, ⟨.auto, some (.c (.bool (false)))⟩)] [] [EB (decide (c ≤ 8)) false,
      EB (decide (c ≥ 0)) true,
      EB (decide (b ≤ 8)) true,
      EB (decide (b ≥ 0)) true,
      EB (decide (a > 57343)) true,
      EB (decide (a < 55296)) false,
      EB (a != 127) true,
      EB (decide (a ≤ 1114111)) true,
      EB (decide (a ≥ 32)) true] mixed Try.func50 (by kernel_rfl) ⟨.mk (decide_eq_false h8), .mk (decide_eq_true h7), .mk (decide_eq_true h6), .mk (decide_eq_true h5), .mk (decide_eq_true h4), .mk (decide_eq_false h3), .mk (bne_t h2), .mk (decide_eq_true h1), .mk (decide_eq_true h0), trivial⟩
theorem cella_tttftttf (a b c d : Int)
    (h0 : (a ≥ (32 : Int)))
    (h1 : (a ≤ (1114111 : Int)))
    (h2 : (¬a = (127 : Int)))
    (h3 : (¬a < (55296 : Int)))
    (h4 : (a > (57343 : Int)))
    (h5 : (b ≥ (0 : Int)))
    (h6 : (b ≤ (8 : Int)))
    (h7 : (¬c ≥ (0 : Int))) :
    PureF Try.prog 50 [(.agg [(.int .i32 a), (.int .i64 b), (.int .i64 c), (.int .i64 d)])] (.c (.bool (false))) :=
  Contract0.fr 300 [(5, ⟨.auto, some (.c (.bool (true)))⟩), (10, ⟨.auto, some (.c (.bool (true)))⟩), (15, ⟨.auto, some (.c (.bool (true)))⟩), (19, ⟨.auto, some (.c (.bool (false)))⟩), (25, ⟨.auto, some (.c (.bool (true)))⟩), (30, ⟨.auto, some (.c (.bool (true)))⟩), (35, ⟨.auto, some (.c (.bool (true)))⟩), (40, ⟨.auto, some (.c (.bool (false)))⟩)] [] [EB (decide (c ≥ 0)) false,
      EB (decide (b ≤ 8)) true,
      EB (decide (b ≥ 0)) true,
      EB (decide (a > 57343)) true,
      EB (decide (a < 55296)) false,
      EB (a != 127) true,
      EB (decide (a ≤ 1114111)) true,
      EB (decide (a ≥ 32)) true] mixed Try.func50 (by kernel_rfl) ⟨.mk (decide_eq_false h7), .mk (decide_eq_true h6), .mk (decide_eq_true h5), .mk (decide_eq_true h4), .mk (decide_eq_false h3), .mk (bne_t h2), .mk (decide_eq_true h1), .mk (decide_eq_true h0), trivial⟩
theorem cella_tttfttf (a b c d : Int)
    (h0 : (a ≥ (32 : Int)))
    (h1 : (a ≤ (1114111 : Int)))
    (h2 : (¬a = (127 : Int)))
    (h3 : (¬a < (55296 : Int)))
    (h4 : (a > (57343 : Int)))
    (h5 : (b ≥ (0 : Int)))
    (h6 : (¬b ≤ (8 : Int))) :
    PureF Try.prog 50 [(.agg [(.int .i32 a), (.int .i64 b), (.int .i64 c), (.int .i64 d)])] (.c (.bool (false))) :=
  Contract0.fr 300 [(5, ⟨.auto, some (.c (.bool (true)))⟩), (10, ⟨.auto, some (.c (.bool (true)))⟩), (15, ⟨.auto, some (.c (.bool (true)))⟩), (19, ⟨.auto, some (.c (.bool (false)))⟩), (25, ⟨.auto, some (.c (.bool (true)))⟩), (30, ⟨.auto, some (.c (.bool (true)))⟩), (35, ⟨.auto, some (.c (.bool (false)))⟩)] [] [EB (decide (b ≤ 8)) false,
      EB (decide (b ≥ 0)) true,
      EB (decide (a > 57343)) true,
      EB (decide (a < 55296)) false,
      EB (a != 127) true,
      EB (decide (a ≤ 1114111)) true,
      EB (decide (a ≥ 32)) true] mixed Try.func50 (by kernel_rfl) ⟨.mk (decide_eq_false h6), .mk (decide_eq_true h5), .mk (decide_eq_true h4), .mk (decide_eq_false h3), .mk (bne_t h2), .mk (decide_eq_true h1), .mk (decide_eq_true h0), trivial⟩
theorem cella_tttftf (a b c d : Int)
    (h0 : (a ≥ (32 : Int)))
    (h1 : (a ≤ (1114111 : Int)))
    (h2 : (¬a = (127 : Int)))
    (h3 : (¬a < (55296 : Int)))
    (h4 : (a > (57343 : Int)))
    (h5 : (¬b ≥ (0 : Int))) :
    PureF Try.prog 50 [(.agg [(.int .i32 a), (.int .i64 b), (.int .i64 c), (.int .i64 d)])] (.c (.bool (false))) :=
  Contract0.fr 300 [(5, ⟨.auto, some (.c (.bool (true)))⟩), (10, ⟨.auto, some (.c (.bool (true)))⟩), (15, ⟨.auto, some (.c (.bool (true)))⟩), (19, ⟨.auto, some (.c (.bool (false)))⟩), (25, ⟨.auto, some (.c (.bool (true)))⟩), (30, ⟨.auto, some (.c (.bool (false)))⟩)] [] [EB (decide (b ≥ 0)) false,
      EB (decide (a > 57343)) true,
      EB (decide (a < 55296)) false,
      EB (a != 127) true,
      EB (decide (a ≤ 1114111)) true,
      EB (decide (a ≥ 32)) true] mixed Try.func50 (by kernel_rfl) ⟨.mk (decide_eq_false h5), .mk (decide_eq_true h4), .mk (decide_eq_false h3), .mk (bne_t h2), .mk (decide_eq_true h1), .mk (decide_eq_true h0), trivial⟩
theorem cella_tttff (a b c d : Int)
    (h0 : (a ≥ (32 : Int)))
    (h1 : (a ≤ (1114111 : Int)))
    (h2 : (¬a = (127 : Int)))
    (h3 : (¬a < (55296 : Int)))
    (h4 : (¬a > (57343 : Int))) :
    PureF Try.prog 50 [(.agg [(.int .i32 a), (.int .i64 b), (.int .i64 c), (.int .i64 d)])] (.c (.bool (false))) :=
  Contract0.fr 300 [(5, ⟨.auto, some (.c (.bool (true)))⟩), (10, ⟨.auto, some (.c (.bool (true)))⟩), (15, ⟨.auto, some (.c (.bool (true)))⟩), (19, ⟨.auto, some (.c (.bool (false)))⟩), (25, ⟨.auto, some (.c (.bool (false)))⟩)] [] [EB (decide (a > 57343)) false,
      EB (decide (a < 55296)) false,
      EB (a != 127) true,
      EB (decide (a ≤ 1114111)) true,
      EB (decide (a ≥ 32)) true] mixed Try.func50 (by kernel_rfl) ⟨.mk (decide_eq_false h4), .mk (decide_eq_false h3), .mk (bne_t h2), .mk (decide_eq_true h1), .mk (decide_eq_true h0), trivial⟩
theorem cella_ttf (a b c d : Int)
    (h0 : (a ≥ (32 : Int)))
    (h1 : (a ≤ (1114111 : Int)))
    (h2 : (¬¬a = (127 : Int))) :
    PureF Try.prog 50 [(.agg [(.int .i32 a), (.int .i64 b), (.int .i64 c), (.int .i64 d)])] (.c (.bool (false))) :=
  Contract0.fr 300 [(5, ⟨.auto, some (.c (.bool (true)))⟩), (10, ⟨.auto, some (.c (.bool (true)))⟩), (15, ⟨.auto, some (.c (.bool (false)))⟩)] [] [EB (a != 127) false,
      EB (decide (a ≤ 1114111)) true,
      EB (decide (a ≥ 32)) true] mixed Try.func50 (by kernel_rfl) ⟨.mk (bne_f (Decidable.of_not_not h2)), .mk (decide_eq_true h1), .mk (decide_eq_true h0), trivial⟩
theorem cella_tf (a b c d : Int)
    (h0 : (a ≥ (32 : Int)))
    (h1 : (¬a ≤ (1114111 : Int))) :
    PureF Try.prog 50 [(.agg [(.int .i32 a), (.int .i64 b), (.int .i64 c), (.int .i64 d)])] (.c (.bool (false))) :=
  Contract0.fr 300 [(5, ⟨.auto, some (.c (.bool (true)))⟩), (10, ⟨.auto, some (.c (.bool (false)))⟩)] [] [EB (decide (a ≤ 1114111)) false,
      EB (decide (a ≥ 32)) true] mixed Try.func50 (by kernel_rfl) ⟨.mk (decide_eq_false h1), .mk (decide_eq_true h0), trivial⟩
theorem cella_f (a b c d : Int)
    (h0 : (¬a ≥ (32 : Int))) :
    PureF Try.prog 50 [(.agg [(.int .i32 a), (.int .i64 b), (.int .i64 c), (.int .i64 d)])] (.c (.bool (false))) :=
  Contract0.fr 300 [(5, ⟨.auto, some (.c (.bool (false)))⟩)] [] [EB (decide (a ≥ 32)) false] mixed Try.func50 (by kernel_rfl) ⟨.mk (decide_eq_false h0), trivial⟩
theorem rcella_ttttttttt (a b c d : Int)
    (h0 : (a ≥ (32 : Int)))
    (h1 : (a ≤ (1114111 : Int)))
    (h2 : (¬a = (127 : Int)))
    (h3 : (a < (55296 : Int)))
    (h4 : (b ≥ (0 : Int)))
    (h5 : (b ≤ (8 : Int)))
    (h6 : (c ≥ (0 : Int)))
    (h7 : (c ≤ (8 : Int)))
    (h8 : (d ≥ (0 : Int))) :
    PureF Try.prog 35 [(.agg [(.int .i32 a), (.int .i64 b), (.int .i64 c), (.int .i64 d)])] (.c (.bool (decide (d ≤ 7)))) :=
  Contract0.fr 300 [(5, ⟨.auto, some (.c (.bool (true)))⟩), (10, ⟨.auto, some (.c (.bool (true)))⟩), (15, ⟨.auto, some (.c (.bool (true)))⟩), (19, ⟨.auto, some (.c (.bool (true)))⟩), (30, ⟨.auto, some (.c (.bool (true)))⟩), (35, ⟨.auto, some (.c (.bool (true)))⟩), (40, ⟨.auto, some (.c (.bool (true)))⟩), (45, ⟨.auto, some (.c (.bool (true)))⟩), (50, ⟨.auto, some (.c (.bool (true)))⟩)] [] [EB (decide (d ≥ 0)) true,
      EB (decide (c ≤ 8)) true,
      EB (decide (c ≥ 0)) true,
      EB (decide (b ≤ 8)) true,
      EB (decide (b ≥ 0)) true,
      EB (decide (a < 55296)) true,
      EB (a != 127) true,
      EB (decide (a ≤ 1114111)) true,
      EB (decide (a ≥ 32)) true] mixed Try.func35 (by kernel_rfl) ⟨.mk (decide_eq_true h8), .mk (decide_eq_true h7), .mk (decide_eq_true h6), .mk (decide_eq_true h5), .mk (decide_eq_true h4), .mk (decide_eq_true h3), .mk (bne_t h2), .mk (decide_eq_true h1), .mk (decide_eq_true h0), trivial⟩
theorem rcella_ttttttttf (a b c d : Int)
    (h0 : (a ≥ (32 : Int)))
    (h1 : (a ≤ (1114111 : Int)))
    (h2 : (¬a = (127 : Int)))
    (h3 : (a < (55296 : Int)))
    (h4 : (b ≥ (0 : Int)))
    (h5 : (b ≤ (8 : Int)))
    (h6 : (c ≥ (0 : Int)))
    (h7 : (c ≤ (8 : Int)))
    (h8 : (¬d ≥ (0 : Int))) :
    PureF Try.prog 35 [(.agg [(.int .i32 a), (.int .i64 b), (.int .i64 c), (.int .i64 d)])] (.c (.bool (false))) :=
  Contract0.fr 300 [(5, ⟨.auto, some (.c (.bool (true)))⟩), (10, ⟨.auto, some (.c (.bool (true)))⟩), (15, ⟨.auto, some (.c (.bool (true)))⟩), (19, ⟨.auto, some (.c (.bool (true)))⟩), (30, ⟨.auto, some (.c (.bool (true)))⟩), (35, ⟨.auto, some (.c (.bool (true)))⟩), (40, ⟨.auto, some (.c (.bool (true)))⟩), (45, ⟨.auto, some (.c (.bool (true)))⟩), (50, ⟨.auto, some (.c (.bool (false)))⟩)] [] [EB (decide (d ≥ 0)) false,
      EB (decide (c ≤ 8)) true,
      EB (decide (c ≥ 0)) true,
      EB (decide (b ≤ 8)) true,
      EB (decide (b ≥ 0)) true,
      EB (decide (a < 55296)) true,
      EB (a != 127) true,
      EB (decide (a ≤ 1114111)) true,
      EB (decide (a ≥ 32)) true] mixed Try.func35 (by kernel_rfl) ⟨.mk (decide_eq_false h8), .mk (decide_eq_true h7), .mk (decide_eq_true h6), .mk (decide_eq_true h5), .mk (decide_eq_true h4), .mk (decide_eq_true h3), .mk (bne_t h2), .mk (decide_eq_true h1), .mk (decide_eq_true h0), trivial⟩
theorem rcella_tttttttf (a b c d : Int)
    (h0 : (a ≥ (32 : Int)))
    (h1 : (a ≤ (1114111 : Int)))
    (h2 : (¬a = (127 : Int)))
    (h3 : (a < (55296 : Int)))
    (h4 : (b ≥ (0 : Int)))
    (h5 : (b ≤ (8 : Int)))
    (h6 : (c ≥ (0 : Int)))
    (h7 : (¬c ≤ (8 : Int))) :
    PureF Try.prog 35 [(.agg [(.int .i32 a), (.int .i64 b), (.int .i64 c), (.int .i64 d)])] (.c (.bool (false))) :=
  Contract0.fr 300 [(5, ⟨.auto, some (.c (.bool (true)))⟩), (10, ⟨.auto, some (.c (.bool (true)))⟩), (15, ⟨.auto, some (.c (.bool (true)))⟩), (19, ⟨.auto, some (.c (.bool (true)))⟩), (30, ⟨.auto, some (.c (.bool (true)))⟩), (35, ⟨.auto, some (.c (.bool (true)))⟩), (40, ⟨.auto, some (.c (.bool (true)))⟩), (45, ⟨.auto, some (.c (.bool (false)))⟩)] [] [EB (decide (c ≤ 8)) false,
      EB (decide (c ≥ 0)) true,
      EB (decide (b ≤ 8)) true,
      EB (decide (b ≥ 0)) true,
      EB (decide (a < 55296)) true,
      EB (a != 127) true,
      EB (decide (a ≤ 1114111)) true,
      EB (decide (a ≥ 32)) true] mixed Try.func35 (by kernel_rfl) ⟨.mk (decide_eq_false h7), .mk (decide_eq_true h6), .mk (decide_eq_true h5), .mk (decide_eq_true h4), .mk (decide_eq_true h3), .mk (bne_t h2), .mk (decide_eq_true h1), .mk (decide_eq_true h0), trivial⟩
theorem rcella_ttttttf (a b c d : Int)
    (h0 : (a ≥ (32 : Int)))
    (h1 : (a ≤ (1114111 : Int)))
    (h2 : (¬a = (127 : Int)))
    (h3 : (a < (55296 : Int)))
    (h4 : (b ≥ (0 : Int)))
    (h5 : (b ≤ (8 : Int)))
    (h6 : (¬c ≥ (0 : Int))) :
    PureF Try.prog 35 [(.agg [(.int .i32 a), (.int .i64 b), (.int .i64 c), (.int .i64 d)])] (.c (.bool (false))) :=
  Contract0.fr 300 [(5, ⟨.auto, some (.c (.bool (true)))⟩), (10, ⟨.auto, some (.c (.bool (true)))⟩), (15, ⟨.auto, some (.c (.bool (true)))⟩), (19, ⟨.auto, some (.c (.bool (true)))⟩), (30, ⟨.auto, some (.c (.bool (true)))⟩), (35, ⟨.auto, some (.c (.bool (true)))⟩), (40, ⟨.auto, some (.c (.bool (false)))⟩)] [] [EB (decide (c ≥ 0)) false,
      EB (decide (b ≤ 8)) true,
      EB (decide (b ≥ 0)) true,
      EB (decide (a < 55296)) true,
      EB (a != 127) true,
      EB (decide (a ≤ 1114111)) true,
      EB (decide (a ≥ 32)) true] mixed Try.func35 (by kernel_rfl) ⟨.mk (decide_eq_false h6), .mk (decide_eq_true h5), .mk (decide_eq_true h4), .mk (decide_eq_true h3), .mk (bne_t h2), .mk (decide_eq_true h1), .mk (decide_eq_true h0), trivial⟩
theorem rcella_tttttf (a b c d : Int)
    (h0 : (a ≥ (32 : Int)))
    (h1 : (a ≤ (1114111 : Int)))
    (h2 : (¬a = (127 : Int)))
    (h3 : (a < (55296 : Int)))
    (h4 : (b ≥ (0 : Int)))
    (h5 : (¬b ≤ (8 : Int))) :
    PureF Try.prog 35 [(.agg [(.int .i32 a), (.int .i64 b), (.int .i64 c), (.int .i64 d)])] (.c (.bool (false))) :=
  Contract0.fr 300 [(5, ⟨.auto, some (.c (.bool (true)))⟩), (10, ⟨.auto, some (.c (.bool (true)))⟩), (15, ⟨.auto, some (.c (.bool (true)))⟩), (19, ⟨.auto, some (.c (.bool (true)))⟩), (30, ⟨.auto, some (.c (.bool (true)))⟩), (35, ⟨.auto, some (.c (.bool (false)))⟩)] [] [EB (decide (b ≤ 8)) false,
      EB (decide (b ≥ 0)) true,
      EB (decide (a < 55296)) true,
      EB (a != 127) true,
      EB (decide (a ≤ 1114111)) true,
      EB (decide (a ≥ 32)) true] mixed Try.func35 (by kernel_rfl) ⟨.mk (decide_eq_false h5), .mk (decide_eq_true h4), .mk (decide_eq_true h3), .mk (bne_t h2), .mk (decide_eq_true h1), .mk (decide_eq_true h0), trivial⟩
theorem rcella_ttttf (a b c d : Int)
    (h0 : (a ≥ (32 : Int)))
    (h1 : (a ≤ (1114111 : Int)))
    (h2 : (¬a = (127 : Int)))
    (h3 : (a < (55296 : Int)))
    (h4 : (¬b ≥ (0 : Int))) :
    PureF Try.prog 35 [(.agg [(.int .i32 a), (.int .i64 b), (.int .i64 c), (.int .i64 d)])] (.c (.bool (false))) :=
  Contract0.fr 300 [(5, ⟨.auto, some (.c (.bool (true)))⟩), (10, ⟨.auto, some (.c (.bool (true)))⟩), (15, ⟨.auto, some (.c (.bool (true)))⟩), (19, ⟨.auto, some (.c (.bool (true)))⟩), (30, ⟨.auto, some (.c (.bool (false)))⟩)] [] [EB (decide (b ≥ 0)) false,
      EB (decide (a < 55296)) true,
      EB (a != 127) true,
      EB (decide (a ≤ 1114111)) true,
      EB (decide (a ≥ 32)) true] mixed Try.func35 (by kernel_rfl) ⟨.mk (decide_eq_false h4), .mk (decide_eq_true h3), .mk (bne_t h2), .mk (decide_eq_true h1), .mk (decide_eq_true h0), trivial⟩
theorem rcella_tttftttttt (a b c d : Int)
    (h0 : (a ≥ (32 : Int)))
    (h1 : (a ≤ (1114111 : Int)))
    (h2 : (¬a = (127 : Int)))
    (h3 : (¬a < (55296 : Int)))
    (h4 : (a > (57343 : Int)))
    (h5 : (b ≥ (0 : Int)))
    (h6 : (b ≤ (8 : Int)))
    (h7 : (c ≥ (0 : Int)))
    (h8 : (c ≤ (8 : Int)))
    (h9 : (d ≥ (0 : Int))) :
    PureF Try.prog 35 [(.agg [(.int .i32 a), (.int .i64 b), (.int .i64 c), (.int .i64 d)])] (.c (.bool (decide (d ≤ 7)))) :=
  Contract0.fr 300 [(5, ⟨.auto, some (.c (.bool (true)))⟩), (10, ⟨.auto, some (.c (.bool (true)))⟩), (15, ⟨.auto, some (.c (.bool (true)))⟩), (19, ⟨.auto, some (.c (.bool (false)))⟩), (25, ⟨.auto, some (.c (.bool (true)))⟩), (30, ⟨.auto, some (.c (.bool (true)))⟩), (35, ⟨.auto, some (.c (.bool (true)))⟩), (40, ⟨.auto, some (.c (.bool (true)))⟩), (45, ⟨.auto, some (.c (.bool (true)))⟩), (50, ⟨.auto, some (.c (.bool (true)))⟩)] [] [EB (decide (d ≥ 0)) true,
      EB (decide (c ≤ 8)) true,
      EB (decide (c ≥ 0)) true,
      EB (decide (b ≤ 8)) true,
      EB (decide (b ≥ 0)) true,
      EB (decide (a > 57343)) true,
      EB (decide (a < 55296)) false,
      EB (a != 127) true,
      EB (decide (a ≤ 1114111)) true,
      EB (decide (a ≥ 32)) true] mixed Try.func35 (by kernel_rfl) ⟨.mk (decide_eq_true h9), .mk (decide_eq_true h8), .mk (decide_eq_true h7), .mk (decide_eq_true h6), .mk (decide_eq_true h5), .mk (decide_eq_true h4), .mk (decide_eq_false h3), .mk (bne_t h2), .mk (decide_eq_true h1), .mk (decide_eq_true h0), trivial⟩
theorem rcella_tttftttttf (a b c d : Int)
    (h0 : (a ≥ (32 : Int)))
    (h1 : (a ≤ (1114111 : Int)))
    (h2 : (¬a = (127 : Int)))
    (h3 : (¬a < (55296 : Int)))
    (h4 : (a > (57343 : Int)))
    (h5 : (b ≥ (0 : Int)))
    (h6 : (b ≤ (8 : Int)))
    (h7 : (c ≥ (0 : Int)))
    (h8 : (c ≤ (8 : Int)))
    (h9 : (¬d ≥ (0 : Int))) :
    PureF Try.prog 35 [(.agg [(.int .i32 a), (.int .i64 b), (.int .i64 c), (.int .i64 d)])] (.c (.bool (false))) :=
  Contract0.fr 300 [(5, ⟨.auto, some (.c (.bool (true)))⟩), (10, ⟨.auto, some (.c (.bool (true)))⟩), (15, ⟨.auto, some (.c (.bool (true)))⟩), (19, ⟨.auto, some (.c (.bool (false)))⟩), (25, ⟨.auto, some (.c (.bool (true)))⟩), (30, ⟨.auto, some (.c (.bool (true)))⟩), (35, ⟨.auto, some (.c (.bool (true)))⟩), (40, ⟨.auto, some (.c (.bool (true)))⟩), (45, ⟨.auto, some (.c (.bool (true)))⟩), (50, ⟨.auto, some (.c (.bool (false)))⟩)] [] [EB (decide (d ≥ 0)) false,
      EB (decide (c ≤ 8)) true,
      EB (decide (c ≥ 0)) true,
      EB (decide (b ≤ 8)) true,
      EB (decide (b ≥ 0)) true,
      EB (decide (a > 57343)) true,
      EB (decide (a < 55296)) false,
      EB (a != 127) true,
      EB (decide (a ≤ 1114111)) true,
      EB (decide (a ≥ 32)) true] mixed Try.func35 (by kernel_rfl) ⟨.mk (decide_eq_false h9), .mk (decide_eq_true h8), .mk (decide_eq_true h7), .mk (decide_eq_true h6), .mk (decide_eq_true h5), .mk (decide_eq_true h4), .mk (decide_eq_false h3), .mk (bne_t h2), .mk (decide_eq_true h1), .mk (decide_eq_true h0), trivial⟩
theorem rcella_tttfttttf (a b c d : Int)
    (h0 : (a ≥ (32 : Int)))
    (h1 : (a ≤ (1114111 : Int)))
    (h2 : (¬a = (127 : Int)))
    (h3 : (¬a < (55296 : Int)))
    (h4 : (a > (57343 : Int)))
    (h5 : (b ≥ (0 : Int)))
    (h6 : (b ≤ (8 : Int)))
    (h7 : (c ≥ (0 : Int)))
    (h8 : (¬c ≤ (8 : Int))) :
    PureF Try.prog 35 [(.agg [(.int .i32 a), (.int .i64 b), (.int .i64 c), (.int .i64 d)])] (.c (.bool (false))) :=
  Contract0.fr 300 [(5, ⟨.auto, some (.c (.bool (true)))⟩), (10, ⟨.auto, some (.c (.bool (true)))⟩), (15, ⟨.auto, some (.c (.bool (true)))⟩), (19, ⟨.auto, some (.c (.bool (false)))⟩), (25, ⟨.auto, some (.c (.bool (true)))⟩), (30, ⟨.auto, some (.c (.bool (true)))⟩), (35, ⟨.auto, some (.c (.bool (true)))⟩), (40, ⟨.auto, some (.c (.bool (true)))⟩), (45, ⟨.auto, some (.c (.bool (false)))⟩)] [] [EB (decide (c ≤ 8)) false,
      EB (decide (c ≥ 0)) true,
      EB (decide (b ≤ 8)) true,
      EB (decide (b ≥ 0)) true,
      EB (decide (a > 57343)) true,
      EB (decide (a < 55296)) false,
      EB (a != 127) true,
      EB (decide (a ≤ 1114111)) true,
      EB (decide (a ≥ 32)) true] mixed Try.func35 (by kernel_rfl) ⟨.mk (decide_eq_false h8), .mk (decide_eq_true h7), .mk (decide_eq_true h6), .mk (decide_eq_true h5), .mk (decide_eq_true h4), .mk (decide_eq_false h3), .mk (bne_t h2), .mk (decide_eq_true h1), .mk (decide_eq_true h0), trivial⟩
theorem rcella_tttftttf (a b c d : Int)
    (h0 : (a ≥ (32 : Int)))
    (h1 : (a ≤ (1114111 : Int)))
    (h2 : (¬a = (127 : Int)))
    (h3 : (¬a < (55296 : Int)))
    (h4 : (a > (57343 : Int)))
    (h5 : (b ≥ (0 : Int)))
    (h6 : (b ≤ (8 : Int)))
    (h7 : (¬c ≥ (0 : Int))) :
    PureF Try.prog 35 [(.agg [(.int .i32 a), (.int .i64 b), (.int .i64 c), (.int .i64 d)])] (.c (.bool (false))) :=
  Contract0.fr 300 [(5, ⟨.auto, some (.c (.bool (true)))⟩), (10, ⟨.auto, some (.c (.bool (true)))⟩), (15, ⟨.auto, some (.c (.bool (true)))⟩), (19, ⟨.auto, some (.c (.bool (false)))⟩), (25, ⟨.auto, some (.c (.bool (true)))⟩), (30, ⟨.auto, some (.c (.bool (true)))⟩), (35, ⟨.auto, some (.c (.bool (true)))⟩), (40, ⟨.auto, some (.c (.bool (false)))⟩)] [] [EB (decide (c ≥ 0)) false,
      EB (decide (b ≤ 8)) true,
      EB (decide (b ≥ 0)) true,
      EB (decide (a > 57343)) true,
      EB (decide (a < 55296)) false,
      EB (a != 127) true,
      EB (decide (a ≤ 1114111)) true,
      EB (decide (a ≥ 32)) true] mixed Try.func35 (by kernel_rfl) ⟨.mk (decide_eq_false h7), .mk (decide_eq_true h6), .mk (decide_eq_true h5), .mk (decide_eq_true h4), .mk (decide_eq_false h3), .mk (bne_t h2), .mk (decide_eq_true h1), .mk (decide_eq_true h0), trivial⟩
theorem rcella_tttfttf (a b c d : Int)
    (h0 : (a ≥ (32 : Int)))
    (h1 : (a ≤ (1114111 : Int)))
    (h2 : (¬a = (127 : Int)))
    (h3 : (¬a < (55296 : Int)))
    (h4 : (a > (57343 : Int)))
    (h5 : (b ≥ (0 : Int)))
    (h6 : (¬b ≤ (8 : Int))) :
    PureF Try.prog 35 [(.agg [(.int .i32 a), (.int .i64 b), (.int .i64 c), (.int .i64 d)])] (.c (.bool (false))) :=
  Contract0.fr 300 [(5, ⟨.auto, some (.c (.bool (true)))⟩), (10, ⟨.auto, some (.c (.bool (true)))⟩), (15, ⟨.auto, some (.c (.bool (true)))⟩), (19, ⟨.auto, some (.c (.bool (false)))⟩), (25, ⟨.auto, some (.c (.bool (true)))⟩), (30, ⟨.auto, some (.c (.bool (true)))⟩), (35, ⟨.auto, some (.c (.bool (false)))⟩)] [] [EB (decide (b ≤ 8)) false,
      EB (decide (b ≥ 0)) true,
      EB (decide (a > 57343)) true,
      EB (decide (a < 55296)) false,
      EB (a != 127) true,
      EB (decide (a ≤ 1114111)) true,
      EB (decide (a ≥ 32)) true] mixed Try.func35 (by kernel_rfl) ⟨.mk (decide_eq_false h6), .mk (decide_eq_true h5), .mk (decide_eq_true h4), .mk (decide_eq_false h3), .mk (bne_t h2), .mk (decide_eq_true h1), .mk (decide_eq_true h0), trivial⟩
theorem rcella_tttftf (a b c d : Int)
    (h0 : (a ≥ (32 : Int)))
    (h1 : (a ≤ (1114111 : Int)))
    (h2 : (¬a = (127 : Int)))
    (h3 : (¬a < (55296 : Int)))
    (h4 : (a > (57343 : Int)))
    (h5 : (¬b ≥ (0 : Int))) :
    PureF Try.prog 35 [(.agg [(.int .i32 a), (.int .i64 b), (.int .i64 c), (.int .i64 d)])] (.c (.bool (false))) :=
  Contract0.fr 300 [(5, ⟨.auto, some (.c (.bool (true)))⟩), (10, ⟨.auto, some (.c (.bool (true)))⟩), (15, ⟨.auto, some (.c (.bool (true)))⟩), (19, ⟨.auto, some (.c (.bool (false)))⟩), (25, ⟨.auto, some (.c (.bool (true)))⟩), (30, ⟨.auto, some (.c (.bool (false)))⟩)] [] [EB (decide (b ≥ 0)) false,
      EB (decide (a > 57343)) true,
      EB (decide (a < 55296)) false,
      EB (a != 127) true,
      EB (decide (a ≤ 1114111)) true,
      EB (decide (a ≥ 32)) true] mixed Try.func35 (by kernel_rfl) ⟨.mk (decide_eq_false h5), .mk (decide_eq_true h4), .mk (decide_eq_false h3), .mk (bne_t h2), .mk (decide_eq_true h1), .mk (decide_eq_true h0), trivial⟩
theorem rcella_tttff (a b c d : Int)
    (h0 : (a ≥ (32 : Int)))
    (h1 : (a ≤ (1114111 : Int)))
    (h2 : (¬a = (127 : Int)))
    (h3 : (¬a < (55296 : Int)))
    (h4 : (¬a > (57343 : Int))) :
    PureF Try.prog 35 [(.agg [(.int .i32 a), (.int .i64 b), (.int .i64 c), (.int .i64 d)])] (.c (.bool (false))) :=
  Contract0.fr 300 [(5, ⟨.auto, some (.c (.bool (true)))⟩), (10, ⟨.auto, some (.c (.bool (true)))⟩), (15, ⟨.auto, some (.c (.bool (true)))⟩), (19, ⟨.auto, some (.c (.bool (false)))⟩), (25, ⟨.auto, some (.c (.bool (false)))⟩)] [] [EB (decide (a > 57343)) false,
      EB (decide (a < 55296)) false,
      EB (a != 127) true,
      EB (decide (a ≤ 1114111)) true,
      EB (decide (a ≥ 32)) true] mixed Try.func35 (by kernel_rfl) ⟨.mk (decide_eq_false h4), .mk (decide_eq_false h3), .mk (bne_t h2), .mk (decide_eq_true h1), .mk (decide_eq_true h0), trivial⟩
theorem rcella_ttf (a b c d : Int)
    (h0 : (a ≥ (32 : Int)))
    (h1 : (a ≤ (1114111 : Int)))
    (h2 : (¬¬a = (127 : Int))) :
    PureF Try.prog 35 [(.agg [(.int .i32 a), (.int .i64 b), (.int .i64 c), (.int .i64 d)])] (.c (.bool (false))) :=
  Contract0.fr 300 [(5, ⟨.auto, some (.c (.bool (true)))⟩), (10, ⟨.auto, some (.c (.bool (true)))⟩), (15, ⟨.auto, some (.c (.bool (false)))⟩)] [] [EB (a != 127) false,
      EB (decide (a ≤ 1114111)) true,
      EB (decide (a ≥ 32)) true] mixed Try.func35 (by kernel_rfl) ⟨.mk (bne_f (Decidable.of_not_not h2)), .mk (decide_eq_true h1), .mk (decide_eq_true h0), trivial⟩
theorem rcella_tf (a b c d : Int)
    (h0 : (a ≥ (32 : Int)))
    (h1 : (¬a ≤ (1114111 : Int))) :
    PureF Try.prog 35 [(.agg [(.int .i32 a), (.int .i64 b), (.int .i64 c), (.int .i64 d)])] (.c (.bool (false))) :=
  Contract0.fr 300 [(5, ⟨.auto, some (.c (.bool (true)))⟩), (10, ⟨.auto, some (.c (.bool (false)))⟩)] [] [EB (decide (a ≤ 1114111)) false,
      EB (decide (a ≥ 32)) true] mixed Try.func35 (by kernel_rfl) ⟨.mk (decide_eq_false h1), .mk (decide_eq_true h0), trivial⟩
theorem rcella_f (a b c d : Int)
    (h0 : (¬a ≥ (32 : Int))) :
    PureF Try.prog 35 [(.agg [(.int .i32 a), (.int .i64 b), (.int .i64 c), (.int .i64 d)])] (.c (.bool (false))) :=
  Contract0.fr 300 [(5, ⟨.auto, some (.c (.bool (false)))⟩)] [] [EB (decide (a ≥ 32)) false] mixed Try.func35 (by kernel_rfl) ⟨.mk (decide_eq_false h0), trivial⟩
end Go.Proofs.Ytohleiikedpmkaa.Vm

namespace Go.Proofs.Ytohleiikedpmkaa.Vm
open Go Go.Proofs Go.Proofs.Ytohleiikedpmkaa
set_option maxRecDepth 100000
theorem sza_ttttttt (r c a b : Int)
    (h0 : (r ≥ (1 : Int)))
    (h1 : (r ≤ (60 : Int)))
    (h2 : (c ≥ (1 : Int)))
    (h3 : (c ≤ (120 : Int)))
    (h4 : (a ≥ (0 : Int)))
    (h5 : (a < r))
    (h6 : (b ≥ (0 : Int))) :
    PureF Try.prog 32 [(.c (.int .i64 r)), (.c (.int .i64 c)), (.c (.int .i64 a)), (.c (.int .i64 b))] (.c (.bool (decide (b < c)))) :=
  Contract0.fr 300 [(3, ⟨.auto, some (.c (.bool (true)))⟩), (7, ⟨.auto, some (.c (.bool (true)))⟩), (11, ⟨.auto, some (.c (.bool (true)))⟩), (15, ⟨.auto, some (.c (.bool (true)))⟩), (19, ⟨.auto, some (.c (.bool (true)))⟩), (24, ⟨.auto, some (.c (.bool (true)))⟩), (28, ⟨.auto, some (.c (.bool (true)))⟩)] [] [EB (decide (b ≥ 0)) true,
      EB (decide (a < r)) true,
      EB (decide (a ≥ 0)) true,
      EB (decide (c ≤ 120)) true,
      EB (decide (c ≥ 1)) true,
      EB (decide (r ≤ 60)) true,
      EB (decide (r ≥ 1)) true] mixed Try.func32 (by kernel_rfl) ⟨.mk (decide_eq_true h6), .mk (decide_eq_true h5), .mk (decide_eq_true h4), .mk (decide_eq_true h3), .mk (decide_eq_true h2), .mk (decide_eq_true h1), .mk (decide_eq_true h0), trivial⟩
theorem sza_ttttttf (r c a b : Int)
    (h0 : (r ≥ (1 : Int)))
    (h1 : (r ≤ (60 : Int)))
    (h2 : (c ≥ (1 : Int)))
    (h3 : (c ≤ (120 : Int)))
    (h4 : (a ≥ (0 : Int)))
    (h5 : (a < r))
    (h6 : (¬b ≥ (0 : Int))) :
    PureF Try.prog 32 [(.c (.int .i64 r)), (.c (.int .i64 c)), (.c (.int .i64 a)), (.c (.int .i64 b))] (.c (.bool (false))) :=
  Contract0.fr 300 [(3, ⟨.auto, some (.c (.bool (true)))⟩), (7, ⟨.auto, some (.c (.bool (true)))⟩), (11, ⟨.auto, some (.c (.bool (true)))⟩), (15, ⟨.auto, some (.c (.bool (true)))⟩), (19, ⟨.auto, some (.c (.bool (true)))⟩), (24, ⟨.auto, some (.c (.bool (true)))⟩), (28, ⟨.auto, some (.c (.bool (false)))⟩)] [] [EB (decide (b ≥ 0)) false,
      EB (decide (a < r)) true,
      EB (decide (a ≥ 0)) true,
      EB (decide (c ≤ 120)) true,
      EB (decide (c ≥ 1)) true,
      EB (decide (r ≤ 60)) true,
      EB (decide (r ≥ 1)) true] mixed Try.func32 (by kernel_rfl) ⟨.mk (decide_eq_false h6), .mk (decide_eq_true h5), .mk (decide_eq_true h4), .mk (decide_eq_true h3), .mk (decide_eq_true h2), .mk (decide_eq_true h1), .mk (decide_eq_true h0), trivial⟩
theorem sza_tttttf (r c a b : Int)
    (h0 : (r ≥ (1 : Int)))
    (h1 : (r ≤ (60 : Int)))
    (h2 : (c ≥ (1 : Int)))
    (h3 : (c ≤ (120 : Int)))
    (h4 : (a ≥ (0 : Int)))
    (h5 : (¬a < r)) :
    PureF Try.prog 32 [(.c (.int .i64 r)), (.c (.int .i64 c)), (.c (.int .i64 a)), (.c (.int .i64 b))] (.c (.bool (false))) :=
  Contract0.fr 300 [(3, ⟨.auto, some (.c (.bool (true)))⟩), (7, ⟨.auto, some (.c (.bool (true)))⟩), (11, ⟨.auto, some (.c (.bool (true)))⟩), (15, ⟨.auto, some (.c (.bool (true)))⟩), (19, ⟨.auto, some (.c (.bool (true)))⟩), (24, ⟨.auto, some (.c (.bool (false)))⟩)] [] [EB (decide (a < r)) false,
      EB (decide (a ≥ 0)) true,
      EB (decide (c ≤ 120)) true,
      EB (decide (c ≥ 1)) true,
      EB (decide (r ≤ 60)) true,
      EB (decide (r ≥ 1)) true] mixed Try.func32 (by kernel_rfl) ⟨.mk (decide_eq_false h5), .mk (decide_eq_true h4), .mk (decide_eq_true h3), .mk (decide_eq_true h2), .mk (decide_eq_true h1), .mk (decide_eq_true h0), trivial⟩
theorem sza_ttttf (r c a b : Int)
    (h0 : (r ≥ (1 : Int)))
    (h1 : (r ≤ (60 : Int)))
    (h2 : (c ≥ (1 : Int)))
    (h3 : (c ≤ (120 : Int)))
    (h4 : (¬a ≥ (0 : Int))) :
    PureF Try.prog 32 [(.c (.int .i64 r)), (.c (.int .i64 c)), (.c (.int .i64 a)), (.c (.int .i64 b))] (.c (.bool (false))) :=
  Contract0.fr 300 [(3, ⟨.auto, some (.c (.bool (true)))⟩), (7, ⟨.auto, some (.c (.bool (true)))⟩), (11, ⟨.auto, some (.c (.bool (true)))⟩), (15, ⟨.auto, some (.c (.bool (true)))⟩), (19, ⟨.auto, some (.c (.bool (false)))⟩)] [] [EB (decide (a ≥ 0)) false,
      EB (decide (c ≤ 120)) true,
      EB (decide (c ≥ 1)) true,
      EB (decide (r ≤ 60)) true,
      EB (decide (r ≥ 1)) true] mixed Try.func32 (by kernel_rfl) ⟨.mk (decide_eq_false h4), .mk (decide_eq_true h3), .mk (decide_eq_true h2), .mk (decide_eq_true h1), .mk (decide_eq_true h0), trivial⟩
theorem sza_tttf (r c a b : Int)
    (h0 : (r ≥ (1 : Int)))
    (h1 : (r ≤ (60 : Int)))
    (h2 : (c ≥ (1 : Int)))
    (h3 : (¬c ≤ (120 : Int))) :
    PureF Try.prog 32 [(.c (.int .i64 r)), (.c (.int .i64 c)), (.c (.int .i64 a)), (.c (.int .i64 b))] (.c (.bool (false))) :=
  Contract0.fr 300 [(3, ⟨.auto, some (.c (.bool (true)))⟩), (7, ⟨.auto, some (.c (.bool (true)))⟩), (11, ⟨.auto, some (.c (.bool (true)))⟩), (15, ⟨.auto, some (.c (.bool (false)))⟩)] [] [EB (decide (c ≤ 120)) false,
      EB (decide (c ≥ 1)) true,
      EB (decide (r ≤ 60)) true,
      EB (decide (r ≥ 1)) true] mixed Try.func32 (by kernel_rfl) ⟨.mk (decide_eq_false h3), .mk (decide_eq_true h2), .mk (decide_eq_true h1), .mk (decide_eq_true h0), trivial⟩
theorem sza_ttf (r c a b : Int)
    (h0 : (r ≥ (1 : Int)))
    (h1 : (r ≤ (60 : Int)))
    (h2 : (¬c ≥ (1 : Int))) :
    PureF Try.prog 32 [(.c (.int .i64 r)), (.c (.int .i64 c)), (.c (.int .i64 a)), (.c (.int .i64 b))] (.c (.bool (false))) :=
  Contract0.fr 300 [(3, ⟨.auto, some (.c (.bool (true)))⟩), (7, ⟨.auto, some (.c (.bool (true)))⟩), (11, ⟨.auto, some (.c (.bool (false)))⟩)] [] [EB (decide (c ≥ 1)) false,
      EB (decide (r ≤ 60)) true,
      EB (decide (r ≥ 1)) true] mixed Try.func32 (by kernel_rfl) ⟨.mk (decide_eq_false h2), .mk (decide_eq_true h1), .mk (decide_eq_true h0), trivial⟩
theorem sza_tf (r c a b : Int)
    (h0 : (r ≥ (1 : Int)))
    (h1 : (¬r ≤ (60 : Int))) :
    PureF Try.prog 32 [(.c (.int .i64 r)), (.c (.int .i64 c)), (.c (.int .i64 a)), (.c (.int .i64 b))] (.c (.bool (false))) :=
  Contract0.fr 300 [(3, ⟨.auto, some (.c (.bool (true)))⟩), (7, ⟨.auto, some (.c (.bool (false)))⟩)] [] [EB (decide (r ≤ 60)) false,
      EB (decide (r ≥ 1)) true] mixed Try.func32 (by kernel_rfl) ⟨.mk (decide_eq_false h1), .mk (decide_eq_true h0), trivial⟩
theorem sza_f (r c a b : Int)
    (h0 : (¬r ≥ (1 : Int))) :
    PureF Try.prog 32 [(.c (.int .i64 r)), (.c (.int .i64 c)), (.c (.int .i64 a)), (.c (.int .i64 b))] (.c (.bool (false))) :=
  Contract0.fr 300 [(3, ⟨.auto, some (.c (.bool (false)))⟩)] [] [EB (decide (r ≥ 1)) false] mixed Try.func32 (by kernel_rfl) ⟨.mk (decide_eq_false h0), trivial⟩
theorem rza_ttt (r c : Int)
    (h0 : (r ≥ (1 : Int)))
    (h1 : (r ≤ (60 : Int)))
    (h2 : (c ≥ (1 : Int))) :
    PureF Try.prog 34 [(.c (.int .i64 r)), (.c (.int .i64 c))] (.c (.bool (decide (c ≤ 120)))) :=
  Contract0.fr 300 [(3, ⟨.auto, some (.c (.bool (true)))⟩), (7, ⟨.auto, some (.c (.bool (true)))⟩), (11, ⟨.auto, some (.c (.bool (true)))⟩)] [] [EB (decide (c ≥ 1)) true,
      EB (decide (r ≤ 60)) true,
      EB (decide (r ≥ 1)) true] mixed Try.func34 (by kernel_rfl) ⟨.mk (decide_eq_true h2), .mk (decide_eq_true h1), .mk (decide_eq_true h0), trivial⟩
theorem rza_ttf (r c : Int)
    (h0 : (r ≥ (1 : Int)))
    (h1 : (r ≤ (60 : Int)))
    (h2 : (¬c ≥ (1 : Int))) :
    PureF Try.prog 34 [(.c (.int .i64 r)), (.c (.int .i64 c))] (.c (.bool (false))) :=
  Contract0.fr 300 [(3, ⟨.auto, some (.c (.bool (true)))⟩), (7, ⟨.auto, some (.c (.bool (true)))⟩), (11, ⟨.auto, some (.c (.bool (false)))⟩)] [] [EB (decide (c ≥ 1)) false,
      EB (decide (r ≤ 60)) true,
      EB (decide (r ≥ 1)) true] mixed Try.func34 (by kernel_rfl) ⟨.mk (decide_eq_false h2), .mk (decide_eq_true h1), .mk (decide_eq_true h0), trivial⟩
theorem rza_tf (r c : Int)
    (h0 : (r ≥ (1 : Int)))
    (h1 : (¬r ≤ (60 : Int))) :
    PureF Try.prog 34 [(.c (.int .i64 r)), (.c (.int .i64 c))] (.c (.bool (false))) :=
  Contract0.fr 300 [(3, ⟨.auto, some (.c (.bool (true)))⟩), (7, ⟨.auto, some (.c (.bool (false)))⟩)] [] [EB (decide (r ≤ 60)) false,
      EB (decide (r ≥ 1)) true] mixed Try.func34 (by kernel_rfl) ⟨.mk (decide_eq_false h1), .mk (decide_eq_true h0), trivial⟩
theorem rza_f (r c : Int)
    (h0 : (¬r ≥ (1 : Int))) :
    PureF Try.prog 34 [(.c (.int .i64 r)), (.c (.int .i64 c))] (.c (.bool (false))) :=
  Contract0.fr 300 [(3, ⟨.auto, some (.c (.bool (false)))⟩)] [] [EB (decide (r ≥ 1)) false] mixed Try.func34 (by kernel_rfl) ⟨.mk (decide_eq_false h0), trivial⟩
noncomputable def LVfI (rr cw : Nat) (X X2 : Nat → Nat → Int) (i k : Nat) : S0 :=
  ⟨[(0, (.c (.sl 1 0 0 rr 1))), (1, (.c (.sl 3 0 0 rr 1))), (5, (.c (.int .i64 (i : Int)))), (4, (.c (.bool (false)))), (6, (.c (.int .i64 (k : Int))))], [(1, (.one ⟨false, false, (.gen rr (fun j_ => (.sl 2 j_ 0 cw 4)))⟩)), (2, (.many (fun j_ => some ⟨false, false, (.ig (W.rl rr (cw * 4) j_) W.ck (fun p_ => (X j_ p_)))⟩))), (3, (.one ⟨false, false, (.gen rr (fun j_ => (.sl 4 j_ 0 cw 4)))⟩)), (4, (.many (fun j_ => some ⟨false, false, (.ig (W.rl rr (cw * 4) j_) W.ck (fun p_ => (X2 j_ p_)))⟩)))], 100016⟩
theorem LVf_by {α : Type} (I : α → S0) (Inv : α → Prop) (μ : α → Nat) {ex : Ex} {s' : S0} (hex : ex ≠ .normal)
    (step : ∀ x, Inv x → (∃ y, Inv y ∧ μ y < μ x ∧ CodeOk Try.prog 53 100000 (kAt (kOf Try.prog Try.f36) [true, true, false, true, false, false, true, false, false, true, true, false, false]) (I x) .normal (I y)) ∨ CodeOk Try.prog 53 100000 (kAt (kOf Try.prog Try.f36) [true, true, false, true, false, false, true, false, false, true, true, false, false]) (I x) ex s') (x : α) (hx : Inv x) :
    CodeOk Try.prog 53 100000 (kAt (kOf Try.prog Try.f36) [true, true, false, true, false, false, true, false, false, true, true, false]) (I x) ex s' := by
  have hk : (kAt (kOf Try.prog Try.f36) [true, true, false, true, false, false, true, false, false, true, true, false]) = .loop (kAt (kOf Try.prog Try.f36) [true, true, false, true, false, false, true, false, false, true, true, false, false]) := by kernel_rfl
  rw [hk]
  exact CodeOk.loop I Inv μ hex step x hx
theorem LVf_rtt (rr cw : Nat) (X X2 : Nat → Nat → Int) (i k : Nat)
    (hrr : 1 ≤ rr ∧ rr ≤ 60)
    (hcw : 1 ≤ cw ∧ cw ≤ 120)
    (hil : i < rr)
    (hk : k ≤ cw)
    (h0 : ((↑k : Int) < (↑cw : Int)))
    (h1 : ((X i (k * (4 : Nat)) == X2 i (k * (4 : Nat)) && (X i (k * (4 : Nat) + (1 : Nat)) == X2 i (k * (4 : Nat) + (1 : Nat)) && (X i (k * (4 : Nat) + (2 : Nat)) == X2 i (k * (4 : Nat) + (2 : Nat)) && (X i (k * (4 : Nat) + (3 : Nat)) == X2 i (k * (4 : Nat) + (3 : Nat)) && true)))) = true)) :
    CodeOk Try.prog 53 100000 (kAt (kOf Try.prog Try.f36) [true, true, false, true, false, false, true, false, false, true, true, false, false]) (LVfI rr cw X X2 i k) .normal (LVfI rr cw X X2 i (k + 1)) :=
  CodeOk.of_runs (fuel := 300) (v := ⟨[0, 1, 5, 4, 6], [1, 2, 3, 4], [], 100016⟩) (hs := [(3, ⟨.ask, none⟩), (4, ⟨.ask, none⟩), (6, ⟨.auto, some (.c (.bool (true)))⟩), (10, ⟨.ask, none⟩), (11, ⟨.ask, none⟩), (13, ⟨.ask, none⟩), (14, ⟨.ask, some (.agg [(.int .i32 (X i (k * 4))), (.int .i64 (X i (k * 4 + 1))), (.int .i64 (X i (k * 4 + 2))), (.int .i64 (X i (k * 4 + 3)))])⟩), (17, ⟨.ask, none⟩), (18, ⟨.ask, none⟩), (20, ⟨.ask, none⟩), (21, ⟨.ask, some (.agg [(.int .i32 (X2 i (k * 4))), (.int .i64 (X2 i (k * 4 + 1))), (.int .i64 (X2 i (k * 4 + 2))), (.int .i64 (X2 i (k * 4 + 3)))])⟩), (22, ⟨.auto, some (.c (.bool (false)))⟩), (25, ⟨.auto, some (.c (.int .i64 (↑(k + 1))))⟩)])
    (cs := [EI .i64 (IntKind.wrap IntKind.i64 ((↑k : Int) + 1)) ((↑(k + 1) : Int)),
      EB (!(X i (k * 4) == X2 i (k * 4) && (X i (k * 4 + 1) == X2 i (k * 4 + 1) && (X i (k * 4 + 2) == X2 i (k * 4 + 2) && (X i (k * 4 + 3) == X2 i (k * 4 + 3) && true))))) false,
      ((.agg ((List.range 4).map (fun p_ => .int (W.ck (p_ + k * 4)) (X2 i (p_ + k * 4))))) : V) = (.agg [(.int .i32 (X2 i (k * 4))), (.int .i64 (X2 i (k * 4 + 1))), (.int .i64 (X2 i (k * 4 + 2))), (.int .i64 (X2 i (k * 4 + 3)))]),
      (k * (4 : Nat) + (4 : Nat) ≤ W.rl rr (cw * (4 : Nat)) i),
      ((0 : Int) ≤ (↑k : Int) ∧ (↑k : Int) < (↑cw : Int)),
      (i + (1 : Nat) ≤ rr),
      ((0 : Int) ≤ (↑i : Int) ∧ (↑i : Int) < (↑rr : Int)),
      ((.agg ((List.range 4).map (fun p_ => .int (W.ck (p_ + k * 4)) (X i (p_ + k * 4))))) : V) = (.agg [(.int .i32 (X i (k * 4))), (.int .i64 (X i (k * 4 + 1))), (.int .i64 (X i (k * 4 + 2))), (.int .i64 (X i (k * 4 + 3)))]),
      (k * (4 : Nat) + (4 : Nat) ≤ W.rl rr (cw * (4 : Nat)) i),
      ((0 : Int) ≤ (↑k : Int) ∧ (↑k : Int) < (↑cw : Int)),
      (i + (1 : Nat) ≤ rr),
      ((0 : Int) ≤ (↑i : Int) ∧ (↑i : Int) < (↑rr : Int)),
      EB (decide ((↑k : Int) < (↑cw : Int))) true,
      (i + (1 : Nat) ≤ rr),
      ((0 : Int) ≤ (↑i : Int) ∧ (↑i : Int) < (↑rr : Int))])
    mixed (by kernel_rfl) ⟨.mk (by simp only [addO_eq, mulE_eq, mulE_one, Int.toNat_natCast, IntKind.wrap_i64, mmin, mmax]; omega), .mk (not_f h1), EV.ck4 (g := (fun p_ => (X2 i p_))) (o := (k * 4)) (by omega) (by omega), (by rw [rl_lt (by omega)]; omega), (by omega), (by omega), (by omega), EV.ck4 (g := (fun p_ => (X i p_))) (o := (k * 4)) (by omega) (by omega), (by rw [rl_lt (by omega)]; omega), (by omega), (by omega), (by omega), .mk (decide_eq_true h0), (by omega), (by omega), trivial⟩
theorem LVf_xtf (rr cw : Nat) (X X2 : Nat → Nat → Int) (i k : Nat)
    (hrr : 1 ≤ rr ∧ rr ≤ 60)
    (hcw : 1 ≤ cw ∧ cw ≤ 120)
    (hil : i < rr)
    (hk : k ≤ cw)
    (h0 : ((↑k : Int) < (↑cw : Int)))
    (h1 : (¬(X i (k * (4 : Nat)) == X2 i (k * (4 : Nat)) && (X i (k * (4 : Nat) + (1 : Nat)) == X2 i (k * (4 : Nat) + (1 : Nat)) && (X i (k * (4 : Nat) + (2 : Nat)) == X2 i (k * (4 : Nat) + (2 : Nat)) && (X i (k * (4 : Nat) + (3 : Nat)) == X2 i (k * (4 : Nat) + (3 : Nat)) && true)))) = true)) :
    CodeOk Try.prog 53 100000 (kAt (kOf Try.prog Try.f36) [true, true, false, true, false, false, true, false, false, true, true, false, false]) (LVfI rr cw X X2 i k) .ret ⟨[(0, (.c (.sl 1 0 0 rr 1))), (1, (.c (.sl 3 0 0 rr 1))), (5, (.c (.int .i64 (↑i)))), (4, (.c (.bool (false)))), (6, (.c (.int .i64 (↑k))))], [(1, (.one ⟨false, false, (.gen rr (fun j_ => (.sl 2 j_ 0 cw 4)))⟩)), (2, (.many (fun j_ => some ⟨false, false, (.ig (W.rl rr (cw * 4) j_) W.ck (fun p_ => (X j_ p_)))⟩))), (3, (.one ⟨false, false, (.gen rr (fun j_ => (.sl 4 j_ 0 cw 4)))⟩)), (4, (.many (fun j_ => some ⟨false, false, (.ig (W.rl rr (cw * 4) j_) W.ck (fun p_ => (X2 j_ p_)))⟩)))], 100016⟩ :=
  CodeOk.of_runs (fuel := 300) (v := ⟨[0, 1, 5, 4, 6], [1, 2, 3, 4], [], 100016⟩) (hs := [(3, ⟨.ask, none⟩), (4, ⟨.ask, none⟩), (6, ⟨.auto, some (.c (.bool (true)))⟩), (10, ⟨.ask, none⟩), (11, ⟨.ask, none⟩), (13, ⟨.ask, none⟩), (14, ⟨.ask, some (.agg [(.int .i32 (X i (k * 4))), (.int .i64 (X i (k * 4 + 1))), (.int .i64 (X i (k * 4 + 2))), (.int .i64 (X i (k * 4 + 3)))])⟩), (17, ⟨.ask, none⟩), (18, ⟨.ask, none⟩), (20, ⟨.ask, none⟩), (21, ⟨.ask, some (.agg [(.int .i32 (X2 i (k * 4))), (.int .i64 (X2 i (k * 4 + 1))), (.int .i64 (X2 i (k * 4 + 2))), (.int .i64 (X2 i (k * 4 + 3)))])⟩), (22, ⟨.auto, some (.c (.bool (true)))⟩)])
    (cs := [EB (!(X i (k * 4) == X2 i (k * 4) && (X i (k * 4 + 1) == X2 i (k * 4 + 1) && (X i (k * 4 + 2) == X2 i (k * 4 + 2) && (X i (k * 4 + 3) == X2 i (k * 4 + 3) && true))))) true,
      ((.agg ((List.range 4).map (fun p_ => .int (W.ck (p_ + k * 4)) (X2 i (p_ + k * 4))))) : V) = (.agg [(.int .i32 (X2 i (k * 4))), (.int .i64 (X2 i (k * 4 + 1))), (.int .i64 (X2 i (k * 4 + 2))), (.int .i64 (X2 i (k * 4 + 3)))]),
      (k * (4 : Nat) + (4 : Nat) ≤ W.rl rr (cw * (4 : Nat)) i),
      ((0 : Int) ≤ (↑k : Int) ∧ (↑k : Int) < (↑cw : Int)),
      (i + (1 : Nat) ≤ rr),
      ((0 : Int) ≤ (↑i : Int) ∧ (↑i : Int) < (↑rr : Int)),
      ((.agg ((List.range 4).map (fun p_ => .int (W.ck (p_ + k * 4)) (X i (p_ + k * 4))))) : V) = (.agg [(.int .i32 (X i (k * 4))), (.int .i64 (X i (k * 4 + 1))), (.int .i64 (X i (k * 4 + 2))), (.int .i64 (X i (k * 4 + 3)))]),
      (k * (4 : Nat) + (4 : Nat) ≤ W.rl rr (cw * (4 : Nat)) i),
      ((0 : Int) ≤ (↑k : Int) ∧ (↑k : Int) < (↑cw : Int)),
      (i + (1 : Nat) ≤ rr),
      ((0 : Int) ≤ (↑i : Int) ∧ (↑i : Int) < (↑rr : Int)),
      EB (decide ((↑k : Int) < (↑cw : Int))) true,
      (i + (1 : Nat) ≤ rr),
      ((0 : Int) ≤ (↑i : Int) ∧ (↑i : Int) < (↑rr : Int))])
    mixed (by kernel_rfl) ⟨.mk (not_t (Bool.eq_false_iff.2 h1)), EV.ck4 (g := (fun p_ => (X2 i p_))) (o := (k * 4)) (by omega) (by omega), (by rw [rl_lt (by omega)]; omega), (by omega), (by omega), (by omega), EV.ck4 (g := (fun p_ => (X i p_))) (o := (k * 4)) (by omega) (by omega), (by rw [rl_lt (by omega)]; omega), (by omega), (by omega), (by omega), .mk (decide_eq_true h0), (by omega), (by omega), trivial⟩
theorem LVf_xf (rr cw : Nat) (X X2 : Nat → Nat → Int) (i k : Nat)
    (hrr : 1 ≤ rr ∧ rr ≤ 60)
    (hcw : 1 ≤ cw ∧ cw ≤ 120)
    (hil : i < rr)
    (hk : k ≤ cw)
    (h0 : (¬(↑k : Int) < (↑cw : Int))) :
    CodeOk Try.prog 53 100000 (kAt (kOf Try.prog Try.f36) [true, true, false, true, false, false, true, false, false, true, true, false, false]) (LVfI rr cw X X2 i k) (.exit 2) (LVfI rr cw X X2 i k) :=
  CodeOk.of_runs (fuel := 300) (v := ⟨[0, 1, 5, 4, 6], [1, 2, 3, 4], [], 100016⟩) (hs := [(3, ⟨.ask, none⟩), (4, ⟨.ask, none⟩), (6, ⟨.auto, some (.c (.bool (false)))⟩)])
    (cs := [EB (decide ((↑k : Int) < (↑cw : Int))) false,
      (i + (1 : Nat) ≤ rr),
      ((0 : Int) ≤ (↑i : Int) ∧ (↑i : Int) < (↑rr : Int))])
    mixed (by kernel_rfl) ⟨.mk (decide_eq_false h0), (by omega), (by omega), trivial⟩
end Go.Proofs.Ytohleiikedpmkaa.Vm

namespace Go.Proofs.Ytohleiikedpmkaa.W
def eqR (X X2 : Nat → Int) (n : Nat) : Bool := decide (∀ p, p < n * 4 → X p = X2 p)
def eqS (rr cw : Nat) (X X2 : Nat → Nat → Int) : Bool := decide (∀ j, j < rr → ∀ p, p < cw * 4 → X j p = X2 j p)
def szB (r c a b : Int) : Bool := decide (1 ≤ r ∧ r ≤ 60 ∧ 1 ≤ c ∧ c ≤ 120 ∧ 0 ≤ a ∧ a < r ∧ 0 ≤ b ∧ b < c)
def rzB (r c : Int) : Bool := decide (1 ≤ r ∧ r ≤ 60 ∧ 1 ≤ c ∧ c ≤ 120)
end Go.Proofs.Ytohleiikedpmkaa.W
namespace Go.Proofs.Ytohleiikedpmkaa.Vm
open Go Go.Proofs Go.Proofs.Ytohleiikedpmkaa
theorem dec_t {p : Prop} [Decidable p] {b : Bool} (h : b = true ↔ p) : b = decide p := by
  by_cases hp : p
  · rw [decide_eq_true hp]; exact h.2 hp
  · rw [decide_eq_false hp]
    cases b with
    | false => rfl
    | true => exact absurd (h.1 rfl) hp
theorem size_any (r c a b : Int) : PureF Try.prog 32 [(.c (.int .i64 r)), (.c (.int .i64 c)), (.c (.int .i64 a)), (.c (.int .i64 b))] (.c (.bool (W.szB r c a b))) := by
  unfold W.szB
  by_cases h0 : r ≥ 1
  · by_cases h1 : r ≤ 60
    · by_cases h2 : c ≥ 1
      · by_cases h3 : c ≤ 120
        · by_cases h4 : a ≥ 0
          · by_cases h5 : a < r
            · by_cases h6 : b ≥ 0
              · have := sza_ttttttt r c a b h0 h1 h2 h3 h4 h5 h6
                rwa [show (decide (b < c)) = decide (1 ≤ r ∧ r ≤ 60 ∧ 1 ≤ c ∧ c ≤ 120 ∧ 0 ≤ a ∧ a < r ∧ 0 ≤ b ∧ b < c) from dec_t (by rw [decide_eq_true_eq]; omega)] at this
              · rw [decide_eq_false (by omega)]; exact sza_ttttttf r c a b h0 h1 h2 h3 h4 h5 h6
            · rw [decide_eq_false (by omega)]; exact sza_tttttf r c a b h0 h1 h2 h3 h4 h5
          · rw [decide_eq_false (by omega)]; exact sza_ttttf r c a b h0 h1 h2 h3 h4
        · rw [decide_eq_false (by omega)]; exact sza_tttf r c a b h0 h1 h2 h3
      · rw [decide_eq_false (by omega)]; exact sza_ttf r c a b h0 h1 h2
    · rw [decide_eq_false (by omega)]; exact sza_tf r c a b h0 h1
  · rw [decide_eq_false (by omega)]; exact sza_f r c a b h0
theorem rsize_any (r c : Int) : PureF Try.prog 34 [(.c (.int .i64 r)), (.c (.int .i64 c))] (.c (.bool (W.rzB r c))) := by
  unfold W.rzB
  by_cases h0 : r ≥ 1
  · by_cases h1 : r ≤ 60
    · by_cases h2 : c ≥ 1
      · have := rza_ttt r c h0 h1 h2
        rwa [show (decide (c ≤ 120)) = decide (1 ≤ r ∧ r ≤ 60 ∧ 1 ≤ c ∧ c ≤ 120) from dec_t (by rw [decide_eq_true_eq]; omega)] at this
      · rw [decide_eq_false (by omega)]; exact rza_ttf r c h0 h1 h2
    · rw [decide_eq_false (by omega)]; exact rza_tf r c h0 h1
  · rw [decide_eq_false (by omega)]; exact rza_f r c h0
theorem eq4_get {a0 a1 a2 a3 b0 b1 b2 b3 : Int} (h : (a0 == b0 && (a1 == b1 && (a2 == b2 && (a3 == b3 && true)))) = true) : a0 = b0 ∧ a1 = b1 ∧ a2 = b2 ∧ a3 = b3 := by
  simpa using h
theorem eq4_up {X X2 : Nat → Int} {i : Nat} (h : ∀ p, p < i * 4 → X p = X2 p) (h1 : (X (i * (4 : Nat)) == X2 (i * (4 : Nat)) && (X (i * (4 : Nat) + (1 : Nat)) == X2 (i * (4 : Nat) + (1 : Nat)) && (X (i * (4 : Nat) + (2 : Nat)) == X2 (i * (4 : Nat) + (2 : Nat)) && (X (i * (4 : Nat) + (3 : Nat)) == X2 (i * (4 : Nat) + (3 : Nat)) && true)))) = true) : ∀ p, p < (i + 1) * 4 → X p = X2 p := by
  obtain ⟨a, b, c, d⟩ := eq4_get h1
  intro p hp
  by_cases hlt : p < i * 4
  · exact h p hlt
  · rcases (by omega : p = i * 4 ∨ p = i * 4 + 1 ∨ p = i * 4 + 2 ∨ p = i * 4 + 3) with e | e | e | e <;> rw [e]
    · exact a
    · exact b
    · exact c
    · exact d
theorem sla_eq (rr cw : Nat) (X X2 : Nat → Nat → Int) (i : Nat) (hrr : 1 ≤ rr ∧ rr ≤ 60) (hcw : 1 ≤ cw ∧ cw ≤ 120) (hil : i < rr) (hE : ∀ p, p < cw * 4 → X i p = X2 i p) :
    CodeOk Try.prog 53 100000 (kAt (kOf Try.prog Try.f36) [true, true, false, true, false, false, true, false, false, true, true, false]) (LVfI rr cw X X2 i 0) (.exit 2) (LVfI rr cw X X2 i cw) := by
  refine LVf_by (fun k => LVfI rr cw X X2 i k) (fun k => k ≤ cw) (fun k => cw - k) (by simp) ?_ 0 (Nat.zero_le _)
  intro k hk
  by_cases h0 : (k : Int) < (cw : Int)
  · exact .inl ⟨k + 1, by omega, by omega, LVf_rtt rr cw X X2 i k hrr hcw hil hk h0 (eq4 hE (by omega))⟩
  · have e : k = cw := by omega
    have x := LVf_xf rr cw X X2 i k hrr hcw hil hk h0
    refine .inr ?_
    rw [e] at x ⊢
    exact x
theorem sla_ne (rr cw : Nat) (X X2 : Nat → Nat → Int) (i : Nat) (hrr : 1 ≤ rr ∧ rr ≤ 60) (hcw : 1 ≤ cw ∧ cw ≤ 120) (hil : i < rr) (hD : ¬ ∀ p, p < cw * 4 → X i p = X2 i p) :
    CodeOk Try.prog 53 100000 (kAt (kOf Try.prog Try.f36) [true, true, false, true, false, false, true, false, false, true, true, false]) (LVfI rr cw X X2 i 0) .ret ⟨[(4, (.c (.bool (false))))], [], 100016⟩ := by
  refine LVf_by (fun k => LVfI rr cw X X2 i k) (fun k => k ≤ cw ∧ ∀ p, p < k * 4 → X i p = X2 i p) (fun k => cw - k) (by simp) ?_ 0 ⟨Nat.zero_le _, fun p hp => by omega⟩
  intro k ⟨hk, he⟩
  by_cases h0 : (k : Int) < (cw : Int)
  · by_cases h1 : (X i (k * (4 : Nat)) == X2 i (k * (4 : Nat)) && (X i (k * (4 : Nat) + (1 : Nat)) == X2 i (k * (4 : Nat) + (1 : Nat)) && (X i (k * (4 : Nat) + (2 : Nat)) == X2 i (k * (4 : Nat) + (2 : Nat)) && (X i (k * (4 : Nat) + (3 : Nat)) == X2 i (k * (4 : Nat) + (3 : Nat)) && true)))) = true
    · exact .inl ⟨k + 1, ⟨by omega, eq4_up he h1⟩, by omega, LVf_rtt rr cw X X2 i k hrr hcw hil hk h0 h1⟩
    · exact .inr ((LVf_xtf rr cw X X2 i k hrr hcw hil hk h0 h1).move (Move.less (by decide) (by decide) (by decide) rfl ⟨rfl, trivial⟩ trivial))
  · have e : k = cw := by omega
    rw [e] at he
    exact absurd he hD
end Go.Proofs.Ytohleiikedpmkaa.Vm

namespace Go.Proofs.Ytohleiikedpmkaa.W
def okCB (a b c d : Int) : Bool := decide (32 ≤ a ∧ a ≤ 1114111 ∧ ¬ a = 127 ∧ (a < 55296 ∨ 57343 < a) ∧ 0 ≤ b ∧ b ≤ 8 ∧ 0 ≤ c ∧ c ≤ 8 ∧ 0 ≤ d ∧ d ≤ 7)
def okRB (X : Nat → Int) (n : Nat) : Bool := decide (∀ k, k < n → okCB (X (k * 4)) (X (k * 4 + 1)) (X (k * 4 + 2)) (X (k * 4 + 3)) = true)
end Go.Proofs.Ytohleiikedpmkaa.W
namespace Go.Proofs.Ytohleiikedpmkaa.Vm
open Go Go.Proofs Go.Proofs.Ytohleiikedpmkaa
theorem cell_any (a b c d : Int) : PureF Try.prog 50 [(.agg [(.int .i32 a), (.int .i64 b), (.int .i64 c), (.int .i64 d)])] (.c (.bool (W.okCB a b c d))) := by
  by_cases h0 : (a ≥ (32 : Int))
  · by_cases h1 : (a ≤ (1114111 : Int))
    · by_cases h2 : (¬a = (127 : Int))
      · by_cases h3 : (a < (55296 : Int))
        · by_cases h4 : (b ≥ (0 : Int))
          · by_cases h5 : (b ≤ (8 : Int))
            · by_cases h6 : (c ≥ (0 : Int))
              · by_cases h7 : (c ≤ (8 : Int))
                · by_cases h8 : (d ≥ (0 : Int))
                  · have := cella_ttttttttt a b c d h0 h1 h2 h3 h4 h5 h6 h7 h8
                    rwa [show (decide (d ≤ 7)) = W.okCB a b c d from dec_t (by rw [decide_eq_true_eq]; omega)] at this
                  · rw [show W.okCB a b c d = false from decide_eq_false (by omega)]; exact cella_ttttttttf a b c d h0 h1 h2 h3 h4 h5 h6 h7 h8
                · rw [show W.okCB a b c d = false from decide_eq_false (by omega)]; exact cella_tttttttf a b c d h0 h1 h2 h3 h4 h5 h6 h7
              · rw [show W.okCB a b c d = false from decide_eq_false (by omega)]; exact cella_ttttttf a b c d h0 h1 h2 h3 h4 h5 h6
            · rw [show W.okCB a b c d = false from decide_eq_false (by omega)]; exact cella_tttttf a b c d h0 h1 h2 h3 h4 h5
          · rw [show W.okCB a b c d = false from decide_eq_false (by omega)]; exact cella_ttttf a b c d h0 h1 h2 h3 h4
        · by_cases h4 : (a > (57343 : Int))
          · by_cases h5 : (b ≥ (0 : Int))
            · by_cases h6 : (b ≤ (8 : Int))
              · by_cases h7 : (c ≥ (0 : Int))
                · by_cases h8 : (c ≤ (8 : Int))
                  · by_cases h9 : (d ≥ (0 : Int))
                    · have := cella_tttftttttt a b c d h0 h1 h2 h3 h4 h5 h6 h7 h8 h9
                      rwa [show (decide (d ≤ 7)) = W.okCB a b c d from dec_t (by rw [decide_eq_true_eq]; omega)] at this
                    · rw [show W.okCB a b c d = false from decide_eq_false (by omega)]; exact cella_tttftttttf a b c d h0 h1 h2 h3 h4 h5 h6 h7 h8 h9
                  · rw [show W.okCB a b c d = false from decide_eq_false (by omega)]; exact cella_tttfttttf a b c d h0 h1 h2 h3 h4 h5 h6 h7 h8
                · rw [show W.okCB a b c d = false from decide_eq_false (by omega)]; exact cella_tttftttf a b c d h0 h1 h2 h3 h4 h5 h6 h7
              · rw [show W.okCB a b c d = false from decide_eq_false (by omega)]; exact cella_tttfttf a b c d h0 h1 h2 h3 h4 h5 h6
            · rw [show W.okCB a b c d = false from decide_eq_false (by omega)]; exact cella_tttftf a b c d h0 h1 h2 h3 h4 h5
          · rw [show W.okCB a b c d = false from decide_eq_false (by omega)]; exact cella_tttff a b c d h0 h1 h2 h3 h4
      · rw [show W.okCB a b c d = false from decide_eq_false (by omega)]; exact cella_ttf a b c d h0 h1 h2
    · rw [show W.okCB a b c d = false from decide_eq_false (by omega)]; exact cella_tf a b c d h0 h1
  · rw [show W.okCB a b c d = false from decide_eq_false (by omega)]; exact cella_f a b c d h0
theorem rcell_any (a b c d : Int) : PureF Try.prog 35 [(.agg [(.int .i32 a), (.int .i64 b), (.int .i64 c), (.int .i64 d)])] (.c (.bool (W.okCB a b c d))) := by
  by_cases h0 : (a ≥ (32 : Int))
  · by_cases h1 : (a ≤ (1114111 : Int))
    · by_cases h2 : (¬a = (127 : Int))
      · by_cases h3 : (a < (55296 : Int))
        · by_cases h4 : (b ≥ (0 : Int))
          · by_cases h5 : (b ≤ (8 : Int))
            · by_cases h6 : (c ≥ (0 : Int))
              · by_cases h7 : (c ≤ (8 : Int))
                · by_cases h8 : (d ≥ (0 : Int))
                  · have := rcella_ttttttttt a b c d h0 h1 h2 h3 h4 h5 h6 h7 h8
                    rwa [show (decide (d ≤ 7)) = W.okCB a b c d from dec_t (by rw [decide_eq_true_eq]; omega)] at this
                  · rw [show W.okCB a b c d = false from decide_eq_false (by omega)]; exact rcella_ttttttttf a b c d h0 h1 h2 h3 h4 h5 h6 h7 h8
                · rw [show W.okCB a b c d = false from decide_eq_false (by omega)]; exact rcella_tttttttf a b c d h0 h1 h2 h3 h4 h5 h6 h7
              · rw [show W.okCB a b c d = false from decide_eq_false (by omega)]; exact rcella_ttttttf a b c d h0 h1 h2 h3 h4 h5 h6
            · rw [show W.okCB a b c d = false from decide_eq_false (by omega)]; exact rcella_tttttf a b c d h0 h1 h2 h3 h4 h5
          · rw [show W.okCB a b c d = false from decide_eq_false (by omega)]; exact rcella_ttttf a b c d h0 h1 h2 h3 h4
        · by_cases h4 : (a > (57343 : Int))
          · by_cases h5 : (b ≥ (0 : Int))
            · by_cases h6 : (b ≤ (8 : Int))
              · by_cases h7 : (c ≥ (0 : Int))
                · by_cases h8 : (c ≤ (8 : Int))
                  · by_cases h9 : (d ≥ (0 : Int))
                    · have := rcella_tttftttttt a b c d h0 h1 h2 h3 h4 h5 h6 h7 h8 h9
                      rwa [show (decide (d ≤ 7)) = W.okCB a b c d from dec_t (by rw [decide_eq_true_eq]; omega)] at this
                    · rw [show W.okCB a b c d = false from decide_eq_false (by omega)]; exact rcella_tttftttttf a b c d h0 h1 h2 h3 h4 h5 h6 h7 h8 h9
                  · rw [show W.okCB a b c d = false from decide_eq_false (by omega)]; exact rcella_tttfttttf a b c d h0 h1 h2 h3 h4 h5 h6 h7 h8
                · rw [show W.okCB a b c d = false from decide_eq_false (by omega)]; exact rcella_tttftttf a b c d h0 h1 h2 h3 h4 h5 h6 h7
              · rw [show W.okCB a b c d = false from decide_eq_false (by omega)]; exact rcella_tttfttf a b c d h0 h1 h2 h3 h4 h5 h6
            · rw [show W.okCB a b c d = false from decide_eq_false (by omega)]; exact rcella_tttftf a b c d h0 h1 h2 h3 h4 h5
          · rw [show W.okCB a b c d = false from decide_eq_false (by omega)]; exact rcella_tttff a b c d h0 h1 h2 h3 h4
      · rw [show W.okCB a b c d = false from decide_eq_false (by omega)]; exact rcella_ttf a b c d h0 h1 h2
    · rw [show W.okCB a b c d = false from decide_eq_false (by omega)]; exact rcella_tf a b c d h0 h1
  · rw [show W.okCB a b c d = false from decide_eq_false (by omega)]; exact rcella_f a b c d h0
end Go.Proofs.Ytohleiikedpmkaa.Vm

namespace Go.Proofs.Ytohleiikedpmkaa.Vm
open Go Go.Proofs Go.Proofs.Ytohleiikedpmkaa
set_option maxRecDepth 100000
theorem cel_any (a b c d : Int) :
    PureF Try.prog 49 [(.agg [(.int .i32 a), (.int .i64 b), (.int .i64 c), (.int .i64 d)])] (.c (.bool (!W.okCB a b c d))) :=
  Contract0.fr 300 [(3, ⟨.call [] (.c (.bool (W.okCB a b c d))) [] [], none⟩)] [] [Contract Try.prog 50 [(.agg [(.int .i32 a), (.int .i64 b), (.int .i64 c), (.int .i64 d)])] [] 49 (.c (.bool (W.okCB a b c d))) [] []] mixed Try.func49 (by kernel_rfl) ⟨Contract0.in1 (cell_any a b c d) [] [none] [] [] (by kernel_rfl), trivial⟩
noncomputable def LZaI (X : Nat → Int) (n N i : Nat) : S0 :=
  ⟨[(0, (.c (.sl 1 0 0 n 4))), (1, (.c (.fn 49 []))), (7, (.c (.int .i64 (↑n)))), (4, (.c (.int .i64 0))), (8, (.c (.int .i64 (i : Int))))], [(1, (.one ⟨false, false, (.ig N W.ck X)⟩))], 82⟩
theorem LZa_by {α : Type} (I : α → S0) (Inv : α → Prop) (μ : α → Nat) {ex : Ex} {s' : S0} (hex : ex ≠ .normal)
    (step : ∀ x, Inv x → (∃ y, Inv y ∧ μ y < μ x ∧ CodeOk Try.prog 19 66 (kAt (kOf Try.prog Try.f54) [true, false, true, false, false]) (I x) .normal (I y)) ∨ CodeOk Try.prog 19 66 (kAt (kOf Try.prog Try.f54) [true, false, true, false, false]) (I x) ex s') (x : α) (hx : Inv x) :
    CodeOk Try.prog 19 66 (kAt (kOf Try.prog Try.f54) [true, false, true, false]) (I x) ex s' := by
  have hk : (kAt (kOf Try.prog Try.f54) [true, false, true, false]) = .loop (kAt (kOf Try.prog Try.f54) [true, false, true, false, false]) := by kernel_rfl
  rw [hk]
  exact CodeOk.loop I Inv μ hex step x hx
noncomputable def LZa0 (X : Nat → Int) (n N : Nat) : S0 :=
  ⟨[(0, (.c (.sl 1 0 0 n 4))), (1, (.c (.fn 49 []))), (7, (.c (.int .i64 (↑n)))), (4, (.c (.int .i64 0))), (8, (.c (.int .i64 0)))], [(1, (.one ⟨false, false, (.ig N W.ck X)⟩))], 66⟩
theorem LZa_rtt (X : Nat → Int) (n N i : Nat)
    (hN : n * 4 ≤ N)
    (hn : n ≤ 1048576)
    (hil : i ≤ n)
    (h0 : ((↑i : Int) < (↑n : Int)))
    (h1 : (W.okCB (X (i * (4 : Nat))) (X (i * (4 : Nat) + (1 : Nat))) (X (i * (4 : Nat) + (2 : Nat))) (X (i * (4 : Nat) + (3 : Nat))) = true)) :
    CodeOk Try.prog 19 66 (kAt (kOf Try.prog Try.f54) [true, false, true, false, false]) (LZaI X n N i) .normal (LZaI X n N (i + 1)) :=
  CodeOk.of_runs (fuel := 300) (v := ⟨[0, 1, 7, 4, 8], [1], [], 82⟩) (hs := [(0, ⟨.auto, some (.c (.bool (true)))⟩), (7, ⟨.ask, none⟩), (8, ⟨.ask, some (.agg [(.int .i32 (X (i * 4))), (.int .i64 (X (i * 4 + 1))), (.int .i64 (X (i * 4 + 2))), (.int .i64 (X (i * 4 + 3)))])⟩), (9, ⟨.call [] (.c (.bool (!W.okCB (X (i * 4)) (X (i * 4 + 1)) (X (i * 4 + 2)) (X (i * 4 + 3))))) [] [], none⟩), (10, ⟨.auto, some (.c (.bool false))⟩), (11, ⟨.auto, some (.c (.int .i64 (↑(i + 1))))⟩)])
    (cs := [EI .i64 (IntKind.wrap IntKind.i64 ((↑i : Int) + 1)) ((↑(i + 1) : Int)),
      (!W.okCB (X (i * 4)) (X (i * 4 + 1)) (X (i * 4 + 2)) (X (i * 4 + 3))) = false,
      Contract Try.prog 49 [(.agg [(.int .i32 (X (i * 4))), (.int .i64 (X (i * 4 + 1))), (.int .i64 (X (i * 4 + 2))), (.int .i64 (X (i * 4 + 3)))])] [] 210 (.c (.bool (!W.okCB (X (i * 4)) (X (i * 4 + 1)) (X (i * 4 + 2)) (X (i * 4 + 3))))) [] [],
      ((.agg ((List.range 4).map (fun p_ => .int (W.ck (p_ + i * 4)) (X (p_ + i * 4))))) : V) = (.agg [(.int .i32 (X (i * 4))), (.int .i64 (X (i * 4 + 1))), (.int .i64 (X (i * 4 + 2))), (.int .i64 (X (i * 4 + 3)))]),
      (i * (4 : Nat) + (4 : Nat) ≤ N),
      ((0 : Int) ≤ (↑i : Int) ∧ (↑i : Int) < (↑n : Int)),
      EB (decide ((↑i : Int) < (↑n : Int))) true])
    mixed (by kernel_rfl) ⟨.mk (by simp only [addO_eq, mulE_eq, mulE_one, Int.toNat_natCast, IntKind.wrap_i64, mmin, mmax]; omega), (not_f h1), Contract0.in1 (cel_any (X (i * 4)) (X (i * 4 + 1)) (X (i * 4 + 2)) (X (i * 4 + 3))) [] [none] [] [] (by kernel_rfl), EV.ck4 (g := (fun p_ => (X p_))) (o := (i * 4)) (by omega) (by omega), (by omega), (by omega), .mk (decide_eq_true h0), trivial⟩
theorem LZa_xtf (X : Nat → Int) (n N i : Nat)
    (hN : n * 4 ≤ N)
    (hn : n ≤ 1048576)
    (hil : i ≤ n)
    (h0 : ((↑i : Int) < (↑n : Int)))
    (h1 : (¬W.okCB (X (i * (4 : Nat))) (X (i * (4 : Nat) + (1 : Nat))) (X (i * (4 : Nat) + (2 : Nat))) (X (i * (4 : Nat) + (3 : Nat))) = true)) :
    CodeOk Try.prog 19 66 (kAt (kOf Try.prog Try.f54) [true, false, true, false, false]) (LZaI X n N i) .ret ⟨[(0, (.c (.sl 1 0 0 n 4))), (1, (.c (.fn 49 []))), (7, (.c (.int .i64 (↑n)))), (4, (.c (.int .i64 (↑i)))), (8, (.c (.int .i64 (↑i))))], [(1, (.one ⟨false, false, (.ig N W.ck X)⟩))], 82⟩ :=
  CodeOk.of_runs (fuel := 300) (v := ⟨[0, 1, 7, 4, 8], [1], [], 82⟩) (hs := [(0, ⟨.auto, some (.c (.bool (true)))⟩), (7, ⟨.ask, none⟩), (8, ⟨.ask, some (.agg [(.int .i32 (X (i * 4))), (.int .i64 (X (i * 4 + 1))), (.int .i64 (X (i * 4 + 2))), (.int .i64 (X (i * 4 + 3)))])⟩), (9, ⟨.call [] (.c (.bool (!W.okCB (X (i * 4)) (X (i * 4 + 1)) (X (i * 4 + 2)) (X (i * 4 + 3))))) [] [], none⟩), (10, ⟨.auto, some (.c (.bool true))⟩)])
    (cs := [(!W.okCB (X (i * 4)) (X (i * 4 + 1)) (X (i * 4 + 2)) (X (i * 4 + 3))) = true,
      Contract Try.prog 49 [(.agg [(.int .i32 (X (i * 4))), (.int .i64 (X (i * 4 + 1))), (.int .i64 (X (i * 4 + 2))), (.int .i64 (X (i * 4 + 3)))])] [] 210 (.c (.bool (!W.okCB (X (i * 4)) (X (i * 4 + 1)) (X (i * 4 + 2)) (X (i * 4 + 3))))) [] [],
      ((.agg ((List.range 4).map (fun p_ => .int (W.ck (p_ + i * 4)) (X (p_ + i * 4))))) : V) = (.agg [(.int .i32 (X (i * 4))), (.int .i64 (X (i * 4 + 1))), (.int .i64 (X (i * 4 + 2))), (.int .i64 (X (i * 4 + 3)))]),
      (i * (4 : Nat) + (4 : Nat) ≤ N),
      ((0 : Int) ≤ (↑i : Int) ∧ (↑i : Int) < (↑n : Int)),
      EB (decide ((↑i : Int) < (↑n : Int))) true])
    mixed (by kernel_rfl) ⟨(not_t (Bool.eq_false_iff.2 h1)), Contract0.in1 (cel_any (X (i * 4)) (X (i * 4 + 1)) (X (i * 4 + 2)) (X (i * 4 + 3))) [] [none] [] [] (by kernel_rfl), EV.ck4 (g := (fun p_ => (X p_))) (o := (i * 4)) (by omega) (by omega), (by omega), (by omega), .mk (decide_eq_true h0), trivial⟩
end Go.Proofs.Ytohleiikedpmkaa.Vm

namespace Go.Proofs.Ytohleiikedpmkaa.W
def okAt (X : Nat → Int) (k : Nat) : Bool := okCB (X (k * 4)) (X (k * 4 + 1)) (X (k * 4 + 2)) (X (k * 4 + 3))
def fbadF (X : Nat → Int) : Nat → Nat → Nat
  | 0, k => k
  | f + 1, k => bif okAt X k then fbadF X f (k + 1) else k
def fbad (X : Nat → Int) (n : Nat) : Nat := fbadF X n 0
theorem fbadF_eq {X : Nat → Int} {i : Nat} (hb : okAt X i = false) : ∀ f k, k ≤ i → i < k + f → (∀ j, k ≤ j → j < i → okAt X j = true) → fbadF X f k = i
  | 0, k, h1, h2, _ => by omega
  | f + 1, k, h1, h2, h => by
    show (bif okAt X k then fbadF X f (k + 1) else k) = i
    by_cases e : k = i
    · subst e; rw [hb]; rfl
    · rw [h k (Nat.le_refl _) (by omega)]
      exact fbadF_eq hb f (k + 1) (by omega) (by omega) (fun j h3 h4 => h j (by omega) h4)
theorem fbad_eq {X : Nat → Int} {n i : Nat} (hi : i < n) (h : ∀ j, j < i → okAt X j = true) (hb : okAt X i = false) : fbad X n = i :=
  fbadF_eq hb n 0 (Nat.zero_le _) (by omega) (fun j _ hj => h j hj)
theorem okRow_of {X : Nat → Int} {n : Nat} (h : ∀ k, k < n → okAt X k = true) : okRow X n := by
  intro k hk
  have := h k hk
  unfold okAt okCB at this
  have := of_decide_eq_true this
  unfold okC
  omega
end Go.Proofs.Ytohleiikedpmkaa.W
namespace Go.Proofs.Ytohleiikedpmkaa.Vm
open Go Go.Proofs Go.Proofs.Ytohleiikedpmkaa
theorem ixb_bad (X : Nat → Int) (n N : Nat) (hN : n * 4 ≤ N) (hn : n ≤ 1048576) (hD : ¬ ∀ k, k < n → W.okAt X k = true) :
    CodeOk Try.prog 19 66 (kAt (kOf Try.prog Try.f54) [true, false, true, false]) (LZa0 X n N) .ret ⟨[(4, (.c (.int .i64 (W.fbad X n : Int))))], [], 82⟩ := by
  have h : CodeOk Try.prog 19 66 (kAt (kOf Try.prog Try.f54) [true, false, true, false]) (LZaI X n N 0) .ret ⟨[(4, (.c (.int .i64 (W.fbad X n : Int))))], [], 82⟩ := by
    refine LZa_by (fun i => LZaI X n N i) (fun i => i ≤ n ∧ ∀ k, k < i → W.okAt X k = true) (fun i => n - i) (by simp) ?_ 0 ⟨Nat.zero_le _, fun k hk => by omega⟩
    intro i ⟨hi, he⟩
    by_cases h0 : (i : Int) < (n : Int)
    · by_cases h1 : W.okAt X i = true
      · exact .inl ⟨i + 1, ⟨by omega, fun k hk => by
          by_cases e : k = i
          · rw [e]; exact h1
          · exact he k (by omega)⟩, by omega, LZa_rtt X n N i hN hn hi h0 h1⟩
      · have e := W.fbad_eq (n := n) (by omega) he (by simpa using h1)
        rw [e]
        exact .inr ((LZa_xtf X n N i hN hn hi h0 h1).move (Move.less (by decide) (by decide) (by decide) rfl ⟨rfl, trivial⟩ trivial))
    · have e : i = n := by omega
      rw [e] at he
      exact absurd he hD
  refine CodeOk.enter (Move.same (by decide) (by decide) (by decide) rfl ?_) h
  exact ⟨SameB.refl rfl, trivial⟩
end Go.Proofs.Ytohleiikedpmkaa.Vm

namespace Go.Proofs.Ytohleiikedpmkaa.Vm
open Go Go.Proofs Go.Proofs.Ytohleiikedpmkaa
set_option maxRecDepth 100000
theorem ix_bad (X : Nat → Int) (n N : Nat)
    (hN : n * 4 ≤ N)
    (hn : n ≤ 1048576)
    (hD : ¬ ∀ k, k < n → W.okAt X k = true) :
    Contract0 Try.prog 54 [(.c (.sl 1 0 0 n 4)), (.c (.fn 49 []))] [(1, (.one ⟨false, false, (.ig N W.ck X)⟩))] 2 (.c (.int .i64 (↑(W.fbad X n)))) [] [] :=
  Contract0.fr 300 [(4, ⟨.sum ⟨[0, 1, 7, 4, 8], [1], [], 66⟩ (.ret) ({ tm := [(4, V.c (C.int IntKind.i64 (↑(W.fbad X n) : Int)))], me := [], nx := 82 }), none⟩)] [] [CodeOk Try.prog 19 66 (kAt (kOf Try.prog Try.f54) [true, false, true, false]) (LZa0 X n N) (.ret) ({ tm := [(4, V.c (C.int IntKind.i64 (↑(W.fbad X n) : Int)))], me := [], nx := 82 })] mixed Try.func54 (by kernel_rfl) ⟨(ixb_bad X n N (by omega) (by omega) (by omega)), trivial⟩
theorem co_bad (X : Nat → Int) (n N : Nat)
    (hN : n * 4 ≤ N)
    (hn : n ≤ 1048576)
    (hD : ¬ ∀ k, k < n → W.okAt X k = true) :
    Contract0 Try.prog 48 [(.c (.sl 1 0 0 n 4)), (.c (.fn 49 []))] [(1, (.one ⟨false, false, (.ig N W.ck X)⟩))] 2 (.c (.bool (true))) [] [] :=
  Contract0.fr 300 [(3, ⟨.call [1] (.c (.int .i64 (↑(W.fbad X n)))) [] [], none⟩), (4, ⟨.auto, some (.c (.bool (true)))⟩)] [] [EB (decide ((↑(W.fbad X n) : Int) ≥ 0)) true,
      Contract Try.prog 54 [(.c (.sl 1 0 0 n 4)), (.c (.fn 49 []))] [(1, (.one ⟨false, false, (.ig N W.ck X)⟩))] 50 (.c (.int .i64 (↑(W.fbad X n)))) [] []] mixed Try.func48 (by kernel_rfl) ⟨.mk (decide_eq_true (by omega)), Contract0.in1 (ix_bad X n N (by omega) (by omega) (by omega)) [.b 1 1 true []] [none, none] [] [] (by kernel_rfl), trivial⟩
theorem cells_bad (X : Nat → Int) (n N : Nat)
    (hN : n * 4 ≤ N)
    (hn : n ≤ 1048576)
    (hD : ¬ ∀ k, k < n → W.okAt X k = true) :
    Contract0 Try.prog 33 [(.c (.sl 1 0 0 n 4))] [(1, (.one ⟨false, false, (.ig N W.ck X)⟩))] 2 (.c (.bool (false))) [] [] :=
  Contract0.fr 300 [(2, ⟨.call [1] (.c (.bool (true))) [] [], none⟩)] [] [Contract Try.prog 48 [(.c (.sl 1 0 0 n 4)), (.c (.fn 49 []))] [(1, (.one ⟨false, false, (.ig N W.ck X)⟩))] 34 (.c (.bool (true))) [] []] mixed Try.func33 (by kernel_rfl) ⟨Contract0.in1 (co_bad X n N (by omega) (by omega) (by omega)) [.b 1 1 true []] [none, none] [] [] (by kernel_rfl), trivial⟩
end Go.Proofs.Ytohleiikedpmkaa.Vm

namespace Go.Proofs.Ytohleiikedpmkaa.Vm
open Go Go.Proofs Go.Proofs.Ytohleiikedpmkaa
theorem cells_any (X : Nat → Int) (n N : Nat) (hN : n * 4 ≤ N) (hn : n ≤ 1048576) :
    Contract0 Try.prog 33 [(.c (.sl 1 0 0 n 4))] [(1, (.one ⟨false, false, (.ig N W.ck X)⟩))] 2 (.c (.bool (W.okRB X n))) [] [] := by
  unfold W.okRB
  by_cases h : ∀ k, k < n → W.okAt X k = true
  · rw [show decide (∀ k, k < n → W.okCB (X (k * 4)) (X (k * 4 + 1)) (X (k * 4 + 2)) (X (k * 4 + 3)) = true) = true from decide_eq_true h]
    exact cells_ok X n N hN hn (W.okRow_of h)
  · rw [show decide (∀ k, k < n → W.okCB (X (k * 4)) (X (k * 4 + 1)) (X (k * 4 + 2)) (X (k * 4 + 3)) = true) = false from decide_eq_false h]
    exact cells_bad X n N hN hn h
end Go.Proofs.Ytohleiikedpmkaa.Vm
